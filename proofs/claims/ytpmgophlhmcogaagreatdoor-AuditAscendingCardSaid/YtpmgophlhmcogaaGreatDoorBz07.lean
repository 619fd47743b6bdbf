/- Part Bz07. -/
import Derived.Test.YtpmgophlhmcogaaGreatDoorBz00
open Go.Proofs.Tryz
namespace Go.Proofs.YtpmgophlhmcogaaGreatDoor
set_option maxHeartbeats 25600000
set_option maxRecDepth 100000
open Go.RowKit
def hide(M:List Nat)(w:World):World:= {w with heap:=w.heap.mapIdx λi o=>if i∈M then .pending #[] 0 else o}
theorem Js(M:List Nat)(w:World):(hide M w).heap.size=w.heap.size:=by simp[hide]
theorem vW(M:List Nat)(w:World)(p:Addr):(hide M w).cell? p=if p.block∈M then none else w.cell? p:=by
 unfold World.cell? hide;simp only[Array.getElem?_mapIdx];cases h:w.heap[p.block]? with
 |none=>simp
 |some o=>
  by_cases a:p.block∈M
  .simp[a]
  .simp[a]
structure Kp(M:List Nat)(w w':World):Prop where
 os:w'.os=w.os
 tape:w'.tape=w.tape
 output:w'.output=w.output
 size:w.heap.size<=w'.heap.size
 block:∀k,k<w.heap.size->k∉M->w'.heap[k]? =w.heap[k]?
theorem Kp.cell{M:List Nat}{w w':World}(h:Kp M w w'):∀p:Addr,p.block<w.heap.size->p.block∉M->w'.cell? p=w.cell? p:=λ_ a b=>World.cell?_of_block (h.block _ a b)
theorem Kp.frozen{M:List Nat}{w w':World}(h:Kp M w w'):∀p:Addr,p.block<w.heap.size->p.block∉M->w'.frozen? p=w.frozen? p:=λ_ a b=>World.frozen?_of_block (h.block _ a b)
theorem Kp.refl(M:List Nat)(w:World):Kp M w w:=⟨rfl,rfl,rfl,lr' _,λ_ _ _=>rfl⟩
theorem Kp.trans{M:List Nat}{a b c:World}(h:Kp M a b)(k:Kp M b c):Kp M a c:=
 ⟨k.os.trans h.os,k.tape.trans h.tape,k.output.trans h.output,Nat.le_trans h.size k.size,λp d f=>(k.block p (lt' d h.size) f).trans (h.block p d f)⟩
theorem Kp.mono{M a:List Nat}{w w':World}(h:Kp M w w')(g:∀b∈M,b∈a\/w.heap.size<=b):Kp a w w':=
 ⟨h.os,h.tape,h.output,h.size,λp c d=>h.block p c λf=>(g _ f).elim d (λh=>by omega)⟩
theorem Kp.dN{M:List Nat}{w w':World}(h:Ext w w'):Kp M w w':=⟨h.b.os,h.b.tape,h.b.output,h.b.size,λ_ a _=>h.b.block _ a⟩
theorem Kp.qg{M:List Nat}{w w':World}{row:Option Nat}(h:w.grownBy w' row)(d:∀b,row=some b->b∈M):Kp M w w':=
 ⟨h.os,h.tape,h.output,h.size,λk a c=>h.block k a λe=>c (d _ e.symm)⟩
theorem Kp.setCell(M:List Nat)(w:World)(p:Addr)(v:Value)(c:p.block∈M):Kp M w (w.setCell p v):=by
 refine⟨rfl,rfl,rfl,by simp,λk _ b=>?_⟩;have a:p.block≠k:=λe=>b (e▸c)
 simp[World.setCell,Array.getElem?_modify,a]
theorem Own.kp{M:List Nat}{w w':World}{f n c:Nat}{e:TypeId}{size:Nat}{A:Option Addr}{o:List Value}(h:Own w f e size A n c o)(s:Kp M w w')(t:∀b,aK A=some b->b∉M):Own w' f e size A n c o:=by
 cases A with
 |none=>
  rcases h.2 with k|⟨g,i,j,d,_⟩
  .exact⟨h.1,.inl k⟩
  .cases d
 |some a=>
  have l:=(h.lt a.block rfl).2;have p:=s.block a.block l (t _ rfl);rcases h.2 with⟨d,_⟩|⟨g,i,j,d,q,k,r⟩
  .cases d
  .have m:a.block=g:=by injection d with d;injection d with d;rw[d]
   refine⟨h.1,.inr ⟨g,i,j,d,q,?_,r⟩⟩;rw[<- m,p,m];exact k
theorem Df{M c:List Nat}{w w':World}(h:Kp M w w')(g:∀b∈M,b∈c)(i:∀b∈c,b∈M\/w.heap.size<=b):∀p:Addr,p.block<(hide M w).heap.size->(hide c w').cell? p=(hide M w).cell? p:=by
 intro p d;rw[Js]at d;rw[vW,vW];by_cases a:p.block∈M
 .rw[pP' a,pP' (g _ a)]
 .rw[nN' a,nN' (λf=>(i _ f).elim a (λh=>by omega)),h.cell p d a]
theorem jL{M:List Nat}{w w':World}(h:Kp M w w'):∀p:Addr,p.block<(hide M w).heap.size->(hide M w').cell? p=(hide M w).cell? p:=Df h (λ_ h=>h) (λ_ h=>.inl h)
theorem zO{M:List Nat}{w:World}{p:Addr}{v:Value}(h:(hide M w).cell? p=some v):w.cell? p=some v:=by
 rw[vW]at h;by_cases a:p.block∈M
 .rw[pP' a]at h;cases h
 .rw[nN' a]at h;exact h
theorem au.sub{w w':World}{s:SV}{l:List Int}(h:au w s l)(f:∀p v,w.cell? p=some v->w'.cell? p=some v):au w' s l:=
 ⟨h.1,λi x a=>by obtain⟨b,o,c,d⟩:=h.2 i x a;exact⟨b,o,c,f _ _ d⟩⟩
theorem aT.sub{w w':World}{s:SV}{l:List Sp}(h:aT w s l)(a:∀p v,w.cell? p=some v->w'.cell? p=some v):aT w' s l:=
 ⟨h.1,λi x c=>by obtain⟨b,o,d,f,g,j⟩:=h.2 i x c;exact⟨b,o,d,a _ _ f,a _ _ g,a _ _ j⟩⟩
theorem bn.sub{w w':World}{s:SV}{l:List Mp}(h:bn w s l)(a:∀p v,w.cell? p=some v->w'.cell? p=some v):bn w' s l:=
 ⟨h.1,λi x c=>by obtain⟨b,o,d,f,g,j,k,m,n⟩:=h.2 i x c;exact⟨b,o,d,f,g,j,a _ _ k,a _ _ m,n.sub a⟩⟩
def uK(v n:Int):Int:=v % 18446744073709551616 % n
def dK(n:Int):List Int->Int
 |[]=>0
 |v::_=>uK v n
theorem Jb(v:Int){n:Int}(h:0<n):0<=uK v n/\uK v n<n:=⟨Int.emod_nonneg _ (by omega),Int.emod_lt_of_pos _ h⟩
theorem kR(r:List Int){n:Int}(h:0<n):0<=dK n r/\dK n r<n:=by
 cases r with
 |nil=>exact⟨Int.le_refl 0,h⟩
 |cons v r=>exact Jb v h
theorem u64wrap(v:Int):IntKind.u64.wrap v=v % 18446744073709551616:=rfl
theorem OO{v n:Int}(c:0<n)(d:n<=4611686018427387904):wrap64 ((IntKind.u64.wrap v).tmod n)=uK v n:=by
 have a:0<=v % 18446744073709551616:=Int.emod_nonneg _ (by omega);have b:(v % 18446744073709551616).tmod n=uK v n:=Int.tmod_eq_emod_of_nonneg a;rw[u64wrap,b];have:=Jb v c;unfold wrap64;omega
theorem TR(v n:Int)(c:0<n)(a:n<=4611686018427387904)(w:World):
 cW' 22 #[.int .i64 v,.int .i64 n] w (.int .i64 (uK v n)):=by
 have b:=ah (OO (v:=v) c a);go_enter func22,ntmps22;go_wp2;go_ret;exact⟨bG b.out,rfl⟩
def Src(w0 w:World)(g:Nat)(r:List Int):Prop:=∃A n c L k,au w0 ⟨A,n,c⟩ L/\w0.heap.size<=g/\w.cell? ⟨g,0,none⟩=some (.slice A n c)/\w.cell? ⟨g,1,none⟩=some (.int .i64 (k:Nat))/\w.frozen? ⟨g,1,none⟩=false/\k<=L.length/\r=L.drop k
theorem Src.kp{i w w':World}{g:Nat}{r:List Int}{M:List Nat}(h:Src i w g r)(b:Kp M w w')(d:g∉M):Src i w' g r:=by
 obtain⟨A,n,c,L,k,j,l,f,m,o,p,q⟩:=h;have a:=World.block_lt_of_cell? w _ f;exact⟨A,n,c,L,k,j,l,by rw[b.cell _ a d];exact f,by rw[b.cell ⟨g,1,none⟩ a d];exact m,by rw[b.frozen ⟨g,1,none⟩ a d];exact o,p,q⟩
theorem Jf(l:List Int)(A:Option Addr)(n c:Nat)(w:World)(h:au w ⟨A,n,c⟩ l):
 Calls prog 7 #[.slice A n c] w λe w'=>e=.returned (.pointer (some ⟨w.heap.size,0,none⟩))/\Src w w' w.heap.size l/\Ext w w':=by
 go_enter func7,ntmps7;go_wp2;go_ret;refine⟨rfl,⟨A,n,c,l,0,h,lr' _,?_,?_,?_,zl' _,rfl⟩,(Ext.refl w).aA _⟩
 .exact World.cell?_alloc_new w _ _ 0
 .exact World.cell?_alloc_new w _ _ 1
 .simp
theorem sS(j w:World)(g:Nat)(r:List Int)(m:Int)(hm:0<m)(F:m<=4611686018427387904)(hs:Src j w g r)(Q:Ext j w):
 Calls prog 8 #[.pointer (some ⟨g,0,none⟩),.int .i64 m] w λe w'=>e=.returned (.int .i64 (dK m r))/\Src j w' g r.tail/\Kp [g] w w'/\Ext j w':=by
 obtain⟨A,n,c,L,k,t,y,G,H,I,R,rfl⟩:=hs;obtain⟨S,_,_⟩:=t.len;subst S;have T:=z0' k;have J:=ah t;by_cases l:k<L.length
 .have z:=ah (drop_at L k l);obtain⟨b,o,U,K⟩:=t.at_ l;subst U;have V:=World.block_lt_of_cell? j _ K;generalize L[k]=x at*;have W:(k:Int)<(L.length:Int):=by omega
  have X:decide ((L.length:Int)<=(k:Int))=false:=dF';have B:decide (L.length<=k)=false:=dF';go_enter func8,ntmps8;go_wp2_with fail;go_region;go_wp2_with fail;obtain⟨d,a⟩:=eX' ((w.setCell ⟨g,1,none⟩ (.int .i64 ((k:Int)+1))).drew);rw[<- a];have f:Ext j d:=by rw[a];exact(Q.lG y _).fQ
  have C:Kp [g] w d:=by rw[a];exact Kp.trans (Kp.setCell _ _ _ _ (by simp)) (Kp.dN eR'.fQ)
  have Y:d.cell? ⟨g,0,none⟩=some (.slice (some ⟨b,o,none⟩) L.length c):=by rw[a];exact(World.cell?_setCell_other _ _ _ _ (by simp)).trans G
  have M:d.cell? ⟨g,1,none⟩=some (.int .i64 ((k:Int)+1)):=by rw[a];exact World.cell?_setCell_same _ _ _ H
  have Z:d.frozen? ⟨g,1,none⟩=false:=by rw[a];exact(World.frozen?_setCell _ _ _ _).trans I
  have cx:d.cell? ⟨b,o+k,none⟩=some (.int .i64 x):=dh (dG f) K;clear a;have N:∀q:ak d,q.w.cell? ⟨g,0,none⟩=some (.slice (some ⟨b,o,none⟩) L.length c):=dJ Y;have O:∀q:ak d,q.w.cell? ⟨g,1,none⟩=some (.int .i64 ((k:Int)+1)):=dJ M;have r2:∀q:ak d,q.w.cell? ⟨b,o+k,none⟩=some (.int .i64 x):=dJ cx;have P:(k:Int)+1-1=(k:Int):=by omega
  refine rX' ?_
  repeat(go_big_quiet_step((go_at_call 22;exact qY (TR x m hm F _))))
  refine wpQuiet_nil ?_;rintro _⟨i,rfl⟩;have D:Hid (dK m (L.drop k)=uK x m):=ah (by rw[z.out];rfl);have E:Hid ((L.drop k).tail=L.drop (k+1)):=ah (by rw[z.out];rfl);have e0:=N i;have e1:=O i;have ef:i.w.frozen? ⟨g,1,none⟩=false:=by rw[i.h.b.frozen (p:=⟨g,1,none⟩) (World.block_lt_of_cell? d _ M)];exact Z
  clear N O r2 z;go_wp2;go_ret;exact⟨bG D.out.symm,⟨_,_,_,L,k+1,J.out,y,e0,by rw[e1];rfl,ef,by omega,E.out⟩,C.trans (Kp.dN i.h),f.trans' i.h⟩
 .have s:k=L.length:=by omega
  have X:decide ((L.length:Int)<=(k:Int))=true:=dT';have B:decide (L.length<=k)=true:=dT';go_enter func8,ntmps8;go_wp2_with fail;go_region;go_wp2_with fail;have D:Hid (dK m (L.drop k)=0):=ah (by rw[s,List.drop_length];rfl);have E:Hid ((L.drop k).tail=L.drop k):=ah (by rw[s,List.drop_length];rfl);go_ret;exact⟨bG D.out.symm,⟨_,_,_,L,k,J.out,y,G,H,I,R,E.out⟩,Kp.dN eR'.fQ,Q.fQ⟩
def nH:List Int:=[0xad,0xb7,0x301,0x308,0x323,0x345,0x375,0x3b1,0x3b2,0x3b3,0x430,0x5d0,0x5f3,0x628,0x629,0x660,0x6f0,0x94d,0x1e00,0x1e01,0x1e02,0x1e03,0x1e04,0x200c,0x200d,0x30fb,0x4e00,0x1f600]
structure Us where
 cat:Int
 cls:Int
 dV:Int
 dW:Int
 scr:Int
 bH:Int
deriving DecidableEq
def usV(c:Int):Us:=
 if(c==0xad||c==0x200c||c==0x200d)=true then⟨8,0,5,9,1,4⟩
 else if(c==0xb7||c==0x375||c==0x30fb)=true then⟨5,0,0,8,1,1⟩
 else if c=0x323 then⟨2,220,5,10,2,1⟩
 else if c=0x94d then⟨2,9,5,10,20,1⟩
 else if 0x301<=c/\c<=0x345 then⟨2,230,5,10,2,1⟩
 else if 0x3b1<=c/\c<=0x3b3 then⟨1,0,0,0,4,1⟩
 else if c=0x430 then⟨1,0,0,0,5,1⟩
 else if(c==0x5d0||c==0x5f3)=true then⟨1,0,0,1,11,1⟩
 else if(c==0x628||c==0x629)=true then⟨1,0,3,2,12,1⟩
 else if c=0x660 then⟨3,0,0,3,1,1⟩
 else if c=0x6f0 then⟨3,0,0,4,1,1⟩
 else if c=0x4e00 then⟨1,0,0,0,6,1⟩
 else if 0x1e00<=c/\c<=0x1e04 then⟨1,0,0,0,3,1⟩
 else⟨6,0,0,8,1,0⟩
abbrev Us.v(u:Us):Value:=.agg #[.int .i64 u.cat,.int .i64 u.cls,.int .i64 u.dV,.int .i64 u.dW,.int .i64 u.scr,.int .i64 u.bH]
theorem D6(w:World)(l:List Int)(t:TypeId)(h:l.length<=maxLen):au (w.alloc (.cells (l.map (Value.int .i64)).toArray t)) ⟨some ⟨w.heap.size,0,none⟩,l.length,l.length⟩ l:=by
 refine⟨⟨rfl,lr' _,h⟩,λi x a=>⟨w.heap.size,0,rfl,?_⟩⟩;rw[Nat.zero_add,World.cell?_alloc_new];simp[a]
def qI(r:List Int)(vs:List Int):Int:=if 0<dK 3 r then vs.getD 0 0 else vs.getD (dK vs.length r.tail).toNat 0
def oN(r:List Int):List Int:=if 0<dK 3 r then r.tail else r.tail.tail
def gZ:List Int->List Int->Bool
 |[],[]=>true
 |x::r,y::s=>x==y&&gZ r s
 |_,_=>false
theorem Ak:∀(l m:List Int),l.length≠m.length->gZ l m=false
 |[],[],h=>absurd rfl h
 |[],_::_,_=>rfl
 |_::_,[],_=>rfl
 |x::r,y::s,h=>by
  simp only[gZ,Ak r s (by simpa using h),Bool.and_false]
theorem zL:∀(l m:List Int),gZ l m=true↔l=m
 |[],[]=>by simp[gZ]
 |[],_::_=>by simp[gZ]
 |_::_,[]=>by simp[gZ]
 |x::r,y::s=>by simp[gZ,zL r s]
theorem D9(l m:List Int)(A:Option Addr)(n c:Nat)(I:Option Addr)(J K:Nat)(w:World)(h:au w ⟨A,n,c⟩ l)(L:au w ⟨I,J,K⟩ m):
 cE' 10 #[.slice A n c,.slice I J K] w (.bool (gZ l m)):=by
 obtain⟨M,_,_⟩:=h.len;obtain⟨t,_,_⟩:=L.len;subst M t;have N:=ah h;have O:=ah L;by_cases a:l.length=m.length
 .have P:((l.length:Int) != (m.length:Int))=false:=by rw[a];simp
  have D:=ah a;have Q:Hid ((m.length:Int)=(l.length:Int)):=ah (by rw[a]);clear a;go_enter func10,ntmps10;go_wp2;go_loopw[13] (λi wr=>∃(k:Nat),k<=l.length/\i=.int .i64 k/\Hid (gZ l m=gZ (l.drop k) (m.drop k))/\Ext w wr) (λi _=>l.length-(intOf i).toNat);exact⟨0,zl' _,rfl,rfl,eR'⟩;obtain⟨k,hk,rfl,r,f⟩:=hrel;by_cases j:k<l.length
  .have g:k<m.length:=by rw[<- D.out];exact j
   obtain⟨b,o,R,E⟩:=(N.out.ext f).at_ j;obtain⟨S,T,z,F⟩:=(O.out.ext f).at_ g;subst R z;have G:=ah (drop_at l k j);have H:=ah (drop_at m k g);generalize l[k]=x at*;generalize m[k]=y at*;have s:=aF r (show _=(x==y&&gZ (l.drop (k+1)) (m.drop (k+1)))from by rw[G.out,H.out];rfl);clear r G H;have U:∀B:ak wr,B.w.cell? ⟨b,o+k,none⟩=some (.int .i64 x):=dJ E;have V:∀B:ak wr,B.w.cell? ⟨S,T+k,none⟩=some (.int .i64 y):=dJ F;have W:=z0' k;have X:(k:Int)<(l.length:Int):=(by omega);have Y:(k:Int)<(m.length:Int):=(by omega);go_wp2_with fail;refine rX' ?_
   repeat(go_big_quiet_step(fail))
   refine wpQuiet_nil ?_;rintro _⟨Z,rfl⟩;have q:=f.trans' Z.h;clear U V E F;by_cases d:x=y
   .have C:(x != y)=false:=(by rw[d];simp);have p:=aF s (show _=gZ (l.drop (k+1)) (m.drop (k+1))from by rw[d];simp);clear s d;go_wp2;go_roundw;exact⟨k+1,by omega,by go_num,p,q⟩;simp[intOf];omega
   .have C:(x != y)=true:=bN' d;have p:=aF s (show _=false from by rw[beq_eq_false_iff_ne.2 d];rfl);clear s d;go_wp2;go_ret;exact⟨aJ p.out.symm,q⟩
  .have p:=aF r (show _=true from by rw[bV l k (by omega),bV m k (by rw[<- D.out];omega)];rfl);clear r;go_wp2;go_ret;exact⟨aJ p.out.symm,f⟩
 .have P:((l.length:Int) != (m.length:Int))=true:=by rw[bne_iff_ne];omega
  have p:=ah (Ak l m a);clear a;go_enter func10,ntmps10;go_wp2;go_ret;exact⟨aJ p.out.symm,eR'⟩
structure KpW(M:List Nat)(w0:World) where
 w:World
 h:Kp M w0 w
instance (M:List Nat)(w0:World):Nonempty (KpW M w0):=⟨⟨w0,Kp.refl M w0⟩⟩
section
variable {P:Program}{ops:Array Oper}{Q:Exit→Act→World→Prop}
def pI(M:List Nat)(P:Program)(ops:Array Oper)(Q:Exit->Act->World->Prop):Nat->Array Bool->Act->World->Prop
 |0,listed,a,w=>Region.ready .any ops listed=[]/\Q .normal a w
 |fuel+1,listed,a,w=>(Region.ready .any ops listed=[]->Q .normal a w)/\
  ∀i∈Region.ready .any ops listed,wpOp P ops Q i (λa' w'=>Kp M w w'/\pI M P ops Q fuel (listed.setIfInBounds i true) a' w') a w
theorem E8{M:List Nat}{Post:Act->World->Prop}(b:∀a w,Post a w->Q .normal a w):∀(fuel:Nat)(listed:Array Bool)(a:Act)(w:World),pI M P ops (kT Q Post) fuel listed a w->wpAny P .any ops Q fuel listed a w
 |0,_,_,_,h=>⟨h.1,b _ _ h.2⟩
 |fuel+1,_,_,_,h=>⟨λc=>b _ _ (h.1 c),λi d=>wpOp_mono (λf g j=>E8 b fuel _ f g j.2) (JD (h.2 i d))⟩
theorem KZ{M:List Nat}{o:Oper}{v:Value}{a:Act}{w w':World}(h:YieldsIf P ops (Kp M w) o v a)(c:Kp M w w'):YieldsIf P ops (Kp M w') o v a:=
 h.imp (λ⟨hw,hv⟩=>⟨hw,λx b=>hv x (c.trans b)⟩) id
theorem LU{M:List Nat}{Post:Act->World->Prop}{i:Nat}{q:Oper}{v:Value}(G:ops[i]? =some q)(l:∀(j:Nat)(o:Oper)cs b,ops[j]? =some o->o.op≠ .select cs b):
 ∀(fuel:Nat)(listed:Array Bool)(a:Act)(w:World),
  (∀j oj,ops[j]? =some oj->j≠i->listed.getD j true=false->(∀e∈oj.after,Region.binds .any e=true->e.on≠i)->q.apart ops oj=true)->
  i∈Region.ready .any ops listed->YieldsIf P ops (Kp M w) q v a->
  pI M P ops (kT Q Post) fuel (listed.setIfInBounds i true) (a.put q.dst v) w->pI M P ops (kT Q Post) (fuel+1) listed a w:=by
 intro fuel
 induction fuel with
 |zero=>
  intro listed a w _ m z H;refine⟨λh=>(by rw[h]at m;cases m),λj A=>?_⟩;by_cases c:j=i
  .subst c;exact z.wpOp G (Kp.refl M w) ⟨Kp.refl M w,H⟩
  .have:=ready_mono A c;rw[H.1]at this;cases this
 |succ fuel ih=>
  intro listed a w d m z H;refine⟨λh=>(by rw[h]at m;cases m),λj A=>?_⟩;by_cases c:j=i
  .subst c;exact z.wpOp G (Kp.refl M w) ⟨Kp.refl M w,H⟩
  .have n:=H.2 j (ready_mono A c);obtain⟨g,oj,p,r⟩:=mem_ready.1 A;have s:∀e∈oj.after,Region.binds .any e=true->e.on≠i:=λe J K C=>by
    have n:=r e J K;have I:=(mem_ready.1 m).1;rw[C]at n;rcases Nat.lt_or_ge i listed.size with D|D
    .simp[D]at I n;rw[I]at n;cases n
    .simp[Array.getElem?_eq_none D]at n
   have L:=wpOp_putIf p (d j oj p c g s) (λcs b=>l i q cs b G) (λcs b=>l j oj cs b p) (λ_ _ _ h=>h) z n;have f:∀k t,ops[k]? =some t->k≠i->(listed.setIfInBounds j true).getD k true=false->
    (∀e∈t.after,Region.binds .any e=true->e.on≠i)->q.apart ops t=true:=λk t N E x F=>by
    refine d k t N E ?_ F;by_cases y:j=k
    .subst y;exact g
    .rw[getD_set_ne true y]at x;exact x
   refine wpOp_mono (λO R B=>⟨B.2.1,ih (listed.setIfInBounds j true) O R f (ready_mono m (Ne.symm c)) (KZ B.1 B.2.1) ?_⟩) L;rw[Array.setIfInBounds_comm _ _ c];exact B.2.2
theorem MQ{M:List Nat}{Post:Act->World->Prop}{b:Array Bool}{a:Act}{w:World}(d:Region.ready .any ops b=[])(h:Post a w):∀fuel,pI M P ops (kT Q Post) fuel b a w
 |0=>⟨d,h⟩
 |fuel+1=>⟨λ_=>h,λi c=>by rw[d]at c;cases c⟩
def Bg(M:List Nat)(w:World)(next:Act->World->Prop)(a':Act)(w':World):Prop:=Kp M w w'/\next a' w'
def pJ(M:List Nat)(P:Program)(ops:Array Oper)(Q:Exit->Act->World->Prop)(Post:Act->World->Prop):List (List Nat×Nat)->List Nat->Act->World->Prop
 |[],last,a,w=>wpQuiet P ops (λw'=>∃x:KpW M w,w'=x.w) (λa'=>Post a' w) (opsOf ops last) a
 |(s,i)::r,last,a,w=>wpQuiet P ops (λw'=>∃x:KpW M w,w'=x.w) (λa'=>wpList P ops (kT Q (Bg M w (pJ M P ops Q Post r last))) (opsOf ops [i]) a' w) (opsOf ops s) a
theorem Ai{M:List Nat}{Post:Act->World->Prop}{w:World}(p:Region.noSelect ops=true):∀(s:List Nat)(fuel:Nat)(listed:Array Bool)(a:Act),wF ops s listed=true->
 wpQuiet P ops (λw'=>∃x:KpW M w,w'=x.w) (λa'=>pI M P ops (kT Q Post) fuel (sW s listed) a' w) (opsOf ops s) a->pI M P ops (kT Q Post) (s.length+fuel) listed a w
 |[],fuel,listed,a,_,h=>by simpa[opsOf,wpQuiet,sW]using h
 |i::s,fuel,listed,a,hB,h=>by
  simp only[wF,aQ]at hB;obtain⟨⟨⟨f,q⟩,b⟩,g⟩:=hB;cases c:ops[i]? with
  |none=>rw[c]at f;cases f
  |some o=>
   rw[c]at f;have j:opsOf ops (i::s)=o::opsOf ops s:=(by simp[opsOf,c]);rw[j]at h;unfold wpQuiet at h;have k:∃v,YieldsIf P ops (Kp M w) o v a/\wpQuiet P ops (λw'=>∃x:KpW M w,w'=x.w) (λa'=>pI M P ops (kT Q Post) fuel (sW s (listed.setIfInBounds i true)) a' w) (opsOf ops s) (a.put o.dst v):=by
    split at h
    .rename_i l;obtain⟨v,r,t⟩:=h;refine⟨v,.inl ⟨l,λw' m=>?_⟩,t⟩;have d:=r w' ⟨⟨w',m⟩,rfl⟩;unfold Oper.quietAt at d;cases b:(execOp a.eval o).run P w' with
     |ok n w2=>
      obtain⟨u,rfl⟩:=JH f b;rw[b]at d;obtain⟨j,y⟩:=d;rw[j,y]
     |halt x w2=>rw[b]at d;exact d.elim
    .rename_i l;exact⟨undef,.inr ⟨by simpa using l,rfl⟩,h⟩
   obtain⟨v,z,A⟩:=k;rw[show(i::s).length+fuel=(s.length+fuel)+1 from by simp only[List.length_cons];omega];exact LU c (Region.noSelect_spec p) (s.length+fuel) listed a w (Region.free_spec c q) (by simpa using b) z (Ai p s fuel _ _ g A)
theorem Ez{M:List Nat}{Post:Act->World->Prop}(n:Region.noSelect ops=true):∀(ord:List (List Nat×Nat))(last:List Nat)(fuel:Nat)(listed:Array Bool)(a:Act)(w:World),xg ord last<=fuel->x9 ops ord last listed=true->
 pJ M P ops Q Post ord last a w->pI M P ops (kT Q Post) fuel listed a w
 |[],last,fuel,listed,a,w,hn,hB,h=>by
  simp only[x9,aQ,aW]at hB;simp only[xg]at hn;rw[show fuel=last.length+(fuel-last.length)from by omega];refine Ai n last _ listed a hB.1 ?_;unfold pJ at h;exact zU (λk c=>MQ hB.2 c _) _ _ h
 |(s,i)::r,last,fuel,listed,a,w,hn,hB,h=>by
  simp only[x9,aQ,aW]at hB;obtain⟨⟨⟨A,p⟩,q⟩,B⟩:=hB;simp only[xg]at hn;rw[show fuel=s.length+((fuel-s.length-1)+1)from by omega];refine Ai n s _ listed a A ?_;unfold pJ at h;refine zU (λk c=>?_) _ _ h;refine⟨λt=>(by rw[p]at t;cases t),λj x=>?_⟩;rw[p]at x;obtain rfl:j=i:=by simpa using x
  cases m:ops[j]? with
  |none=>rw[m]at q;cases q
  |some o=>
   have D:opsOf ops [j]=[o]:=(by simp[opsOf,m]);rw[D]at c;have y:∀d b,Kp M w b/\pJ M P ops Q Post r last d b->Kp M w b/\pI M P ops (kT Q Post) (fuel-s.length-1) ((sW s listed).setIfInBounds j true) d b:=λd b z=>
    ⟨z.1,Ez n r last _ _ d b (by omega) B z.2⟩
   unfold wpOp;simp only[m];unfold wpList at c;split
   .rename_i f;rw[pP' f]at c;rcases c with c|c
    .exact .inl (JO (Oper.wp_mono (λd b g=>y d b g) c))
    .exact .inr c
   .rename_i f;rw[nN' f]at c;exact y _ _ c
where
 zU {C:World->Prop} {K K':Act->Prop} (g:∀a,K a->K' a):∀(l:List Oper)(a:Act),wpQuiet P ops C K l a->wpQuiet P ops C K' l a
  |[],a,h=>g a h
  |o::l,a,h=>by
   unfold wpQuiet at*;split
   .rename_i f;rw[pP' f]at h;exact Oper.quiet_mono (λk c=>zU g l k c) h
   .rename_i f;rw[nN' f]at h;exact zU g l _ h
theorem region_xk(M:List Nat){d:Nat}{a:Act}{w:World}{l:List Oper}(b:List (List Nat×Nat))(last:List Nat)(f:P.follows .mixedOrders=true)
 (c:(Region.noSelect l.toArray&&x9 l.toArray b last (Array.replicate l.length false)&&decide (xg b last<=l.length))=true)
 (h:pJ M P l.toArray Q (λa' w'=>Q .normal a' w') b last a w.drew):(Code.region d l.toArray true).wp P Q a w:=by
 simp only[aQ,aW]at c;refine wp_region_any f (E8 (M:=M) (Post:=λa' w'=>Q .normal a' w') (λ_ _ h=>h) _ _ _ _ ?_);have:=Ez c.1.1 b last l.length (Array.replicate l.length false) a w.drew c.2 c.1.2 h;simpa using this
theorem G8{M:List Nat}{Post:Act->World->Prop}{s:List Nat}{i:Nat}{r:List (List Nat×Nat)}{last:List Nat}{a:Act}{w:World}{l:List Oper}
 {b:List Oper} {o:Oper} (f:jO l s b) (g:jd l i o) (h:wpQuiet P l.toArray (λw'=>∃x:KpW M w,w'=x.w) (λa'=>wpList P l.toArray (kT Q (Bg M w (pJ M P l.toArray Q Post r last))) [o] a' w) b a):pJ M P l.toArray Q Post ((s,i)::r) last a w:=by
 have c:=f.eq;have d:=(jO.cons g jO.nil).eq;subst c;unfold pJ;rw[d];exact h
theorem Gq{M:List Nat}{Post:Act->World->Prop}{last:List Nat}{a:Act}{w:World}{l:List Oper}{b:List Oper}(d:jO l last b)(h:wpQuiet P l.toArray (λw'=>∃x:KpW M w,w'=x.w) (λa'=>Post a' w) b a):pJ M P l.toArray Q Post [] last a w:=by
 have c:=d.eq;subst c;exact h
theorem Je{M:List Nat}{w w':World}{next:Act->World->Prop}{a:Act}(b:Kp M w w')(h:next a w'):Bg M w next a w':=⟨b,h⟩
end
end Go.Proofs.YtpmgophlhmcogaaGreatDoor
