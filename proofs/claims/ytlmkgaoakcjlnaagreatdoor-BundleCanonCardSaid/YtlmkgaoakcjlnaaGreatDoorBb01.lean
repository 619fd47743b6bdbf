/- Part Bb01. -/
import Derived.Test.YtlmkgaoakcjlnaaGreatDoorBb00
import Derived.Deep.RegionHeld3
import Derived.Deep.RegionLaw
import Derived.Deep.DrawnRows
import Derived.Deep.AppendLies
import Derived.Outline
open Go.Proofs.Tryz
namespace Go.Proofs.YtlmkgaoakcjlnaaGreatDoor
set_option maxHeartbeats 25600000
set_option maxRecDepth 100000
open Go.RowKit
def hide(M:List Nat)(w:World):World:= {w with heap:=w.heap.mapIdx λi o=>if i∈M then .pending #[] 0 else o}
theorem Io(M:List Nat)(w:World):(hide M w).heap.size=w.heap.size:=by simp[hide]
theorem qM(M:List Nat)(w:World)(p:Addr):(hide M w).cell? p=if p.block∈M then none else w.cell? p:=by
 unfold World.cell? hide;simp only[Array.getElem?_mapIdx];cases h:w.heap[p.block]? with
 |none=>simp
 |some o=>
  by_cases a:p.block∈M
  .simp[a]
  .simp[a]
structure Kp(M:List Nat)(w w':World):Prop where
 os:w'.os=w.os
 tape:w'.tape=w.tape
 output:w'.output=w.output
 size:w.heap.size<=w'.heap.size
 block:∀k,k<w.heap.size->k∉M->w'.heap[k]? =w.heap[k]?
theorem Kp.cell{M:List Nat}{w w':World}(h:Kp M w w'):∀p:Addr,p.block<w.heap.size->p.block∉M->w'.cell? p=w.cell? p:=λ_ a b=>World.cell?_of_block (h.block _ a b)
theorem Kp.frozen{M:List Nat}{w w':World}(h:Kp M w w'):∀p:Addr,p.block<w.heap.size->p.block∉M->w'.frozen? p=w.frozen? p:=λ_ a b=>World.frozen?_of_block (h.block _ a b)
theorem Kp.refl(M:List Nat)(w:World):Kp M w w:=⟨rfl,rfl,rfl,Nat.le_refl _,λ_ _ _=>rfl⟩
theorem Kp.trans{M:List Nat}{a b c:World}(h:Kp M a b)(k:Kp M b c):Kp M a c:=
 ⟨k.os.trans h.os,k.tape.trans h.tape,k.output.trans h.output,Nat.le_trans h.size k.size,λp d f=>(k.block p (Nat.lt_of_lt_of_le d h.size) f).trans (h.block p d f)⟩
theorem Kp.mono{M M':List Nat}{w w':World}(h:Kp M w w')(f:∀b∈M,b∈M'\/w.heap.size<=b):Kp M' w w':=
 ⟨h.os,h.tape,h.output,h.size,λp a c=>h.block p a λd=>(f _ d).elim c (λh=>by omega)⟩
theorem Kp.dn{M:List Nat}{w w':World}(h:Ext w w'):Kp M w w':=⟨h.b.os,h.b.tape,h.b.output,h.b.size,λ_ a _=>h.b.block _ a⟩
theorem Kp.ou{M:List Nat}{w w':World}{row:Option Nat}(h:w.grownBy w' row)(d:∀b,row=some b->b∈M):Kp M w w':=
 ⟨h.os,h.tape,h.output,h.size,λk a c=>h.block k a λe=>c (d _ e.symm)⟩
theorem Kp.setCell(M:List Nat)(w:World)(p:Addr)(v:Value)(c:p.block∈M):Kp M w (w.setCell p v):=by
 refine⟨rfl,rfl,rfl,by simp,λk _ b=> ?_⟩;have a:p.block≠k:=λe=>b (e▸c)
 simp[World.setCell,Array.getElem?_modify,a]
theorem Own.kp{M:List Nat}{w w':World}{f n c:Nat}{e:TypeId}{size:Nat}{A:Option Addr}{o:List Value}(h:Own w f e size A n c o)(s:Kp M w w')(t:∀b,aG A=some b->b∉M):Own w' f e size A n c o:=by
 cases A with
 |none=>
  rcases h.2 with k|⟨g,i,j,d,_⟩
  .exact⟨h.1,.inl k⟩
  .cases d
 |some a=>
  have l:=(h.lt a.block rfl).2;have p:=s.block a.block l (t _ rfl);rcases h.2 with⟨d,_⟩|⟨g,i,j,d,q,k,r⟩
  .cases d
  .have m:a.block=g:=by injection d with d;injection d with d;rw[d]
   refine⟨h.1,.inr ⟨g,i,j,d,q,?_,r⟩⟩;rw[<- m,p,m];exact k
theorem yT{M M':List Nat}{w w':World}(h:Kp M w w')(f:∀b∈M,b∈M')(g:∀b∈M',b∈M\/w.heap.size<=b):∀p:Addr,p.block<(hide M w).heap.size->(hide M' w').cell? p=(hide M w).cell? p:=by
 intro p c;rw[Io]at c;rw[qM,qM];by_cases a:p.block∈M
 .rw[if_pos a,if_pos (f _ a)]
 .rw[if_neg a,if_neg (λd=>(g _ d).elim a (λh=>by omega)),h.cell p c a]
theorem fP{M:List Nat}{w w':World}(h:Kp M w w'):∀p:Addr,p.block<(hide M w).heap.size->(hide M w').cell? p=(hide M w).cell? p:=yT h (λ_ h=>h) (λ_ h=> .inl h)
theorem vM{M:List Nat}{w:World}{p:Addr}{v:Value}(h:(hide M w).cell? p=some v):w.cell? p=some v:=by
 rw[qM]at h;by_cases a:p.block∈M
 .rw[if_pos a]at h;cases h
 .rw[if_neg a]at h;exact h
theorem aF.sub{w w':World}{s:SV}{l:List Int}(h:aF w s l)(f:∀p v,w.cell? p=some v->w'.cell? p=some v):aF w' s l:=
 ⟨h.1,λi x a=>by obtain⟨b,o,c,d⟩:=h.2 i x a;exact⟨b,o,c,f _ _ d⟩⟩
theorem bP.sub{w w':World}{s:SV}{l:List Sp}(h:bP w s l)(a:∀p v,w.cell? p=some v->w'.cell? p=some v):bP w' s l:=
 ⟨h.1,λi x c=>by obtain⟨b,o,d,f,g,j⟩:=h.2 i x c;exact⟨b,o,d,a _ _ f,a _ _ g,a _ _ j⟩⟩
theorem dA.sub{w w':World}{s:SV}{l:List Mp}(h:dA w s l)(a:∀p v,w.cell? p=some v->w'.cell? p=some v):dA w' s l:=
 ⟨h.1,λi x c=>by obtain⟨b,o,d,f,g,j,k,m,n⟩:=h.2 i x c;exact⟨b,o,d,f,g,j,a _ _ k,a _ _ m,n.sub a⟩⟩
def Bc(v n:Int):Int:=v % 18446744073709551616 % n
def aT(n:Int):List Int->Int
 |[]=>0
 |v::_=>Bc v n
theorem VT(v:Int){n:Int}(h:0<n):0<=Bc v n/\Bc v n<n:=⟨Int.emod_nonneg _ (by omega),Int.emod_lt_of_pos _ h⟩
theorem fZ(r:List Int){n:Int}(h:0<n):0<=aT n r/\aT n r<n:=by
 cases r with
 |nil=>exact⟨Int.le_refl 0,h⟩
 |cons v r=>exact VT v h
theorem u64wrap(v:Int):IntKind.u64.wrap v=v % 18446744073709551616:=rfl
theorem aIU{v n:Int}(c:0<n)(d:n<=4611686018427387904):wrap64 ((IntKind.u64.wrap v).tmod n)=Bc v n:=by
 have a:0<=v % 18446744073709551616:=Int.emod_nonneg _ (by omega);have b:(v % 18446744073709551616).tmod n=Bc v n:=Int.tmod_eq_emod_of_nonneg a;rw[u64wrap,b];have:=VT v c;unfold wrap64;omega
theorem dD'(v n:Int)(c:0<n)(a:n<=4611686018427387904)(w:World):
 Calls prog 23 #[.int .i64 v,.int .i64 n] w λe w'=>e= .returned (.int .i64 (Bc v n))/\w=w':=by
 have b:=ah (aIU (v:=v) c a);go_enter func23,ntmps23;go_wp2;go_ret;exact⟨aU b.out,rfl⟩
def Src(w0 w:World)(g:Nat)(r:List Int):Prop:=∃A n c L k,aF w0 ⟨A,n,c⟩ L/\w0.heap.size<=g/\w.cell? ⟨g,0,none⟩=some (.slice A n c)/\w.cell? ⟨g,1,none⟩=some (.int .i64 (k:Nat))/\w.frozen? ⟨g,1,none⟩=false/\k<=L.length/\r=L.drop k
theorem Src.kp{i w w':World}{g:Nat}{r:List Int}{M:List Nat}(h:Src i w g r)(b:Kp M w w')(d:g∉M):Src i w' g r:=by
 obtain⟨A,n,c,L,k,j,l,f,m,o,p,q⟩:=h;have a:=World.block_lt_of_cell? w _ f;exact⟨A,n,c,L,k,j,l,by rw[b.cell _ a d];exact f,by rw[b.cell ⟨g,1,none⟩ a d];exact m,by rw[b.frozen ⟨g,1,none⟩ a d];exact o,p,q⟩
theorem Nk(l:List Int)(A:Option Addr)(n c:Nat)(w:World)(h:aF w ⟨A,n,c⟩ l):
 Calls prog 28 #[.slice A n c] w λe w'=>e= .returned (.pointer (some ⟨w.heap.size,0,none⟩))/\Src w w' w.heap.size l/\Ext w w':=by
 go_enter func28,ntmps28;go_wp2;go_ret;refine⟨rfl,⟨A,n,c,l,0,h,Nat.le_refl _,?_,?_,?_,Nat.zero_le _,rfl⟩,(Ext.refl w).aC _⟩
 .exact World.cell?_alloc_new w _ _ 0
 .exact World.cell?_alloc_new w _ _ 1
 .simp
theorem iq(j w:World)(g:Nat)(r:List Int)(m:Int)(hm:0<m)(F:m<=4611686018427387904)(hs:Src j w g r)(Q:Ext j w):
 Calls prog 29 #[.pointer (some ⟨g,0,none⟩),.int .i64 m] w λe w'=>e= .returned (.int .i64 (aT m r))/\Src j w' g r.tail/\Kp [g] w w'/\Ext j w':=by
 obtain⟨A,n,c,L,k,t,y,G,H,I,R,rfl⟩:=hs;obtain⟨S,_,_⟩:=t.len;subst S;have T:=z0' k;have J:=ah t;by_cases l:k<L.length
 .have z:=ah (drop_at L k l);obtain⟨b,o,U,K⟩:=t.at_ l;subst U;have V:=World.block_lt_of_cell? j _ K;generalize L[k]=x at*;have W:(k:Int)<(L.length:Int):=by omega
  have X:decide ((L.length:Int)<=(k:Int))=false:=dF';have B:decide (L.length<=k)=false:=dF';go_enter func29,ntmps29;go_wp2_with fail;go_region;go_wp2_with fail;obtain⟨d,a⟩:=eX' ((w.setCell ⟨g,1,none⟩ (.int .i64 ((k:Int)+1))).drew);rw[<- a];have f:Ext j d:=by rw[a];exact(Q.kD y _).dL
  have C:Kp [g] w d:=by rw[a];exact Kp.trans (Kp.setCell _ _ _ _ (by simp)) (Kp.dn (Ext.refl _).dL)
  have Y:d.cell? ⟨g,0,none⟩=some (.slice (some ⟨b,o,none⟩) L.length c):=by rw[a];exact(World.cell?_setCell_other _ _ _ _ (by simp)).trans G
  have M:d.cell? ⟨g,1,none⟩=some (.int .i64 ((k:Int)+1)):=by rw[a];exact World.cell?_setCell_same _ _ _ H
  have Z:d.frozen? ⟨g,1,none⟩=false:=by rw[a];exact(World.frozen?_setCell _ _ _ _).trans I
  have cx:d.cell? ⟨b,o+k,none⟩=some (.int .i64 x):=bD (bH f) K;clear a;have N:∀q:ak d,q.w.cell? ⟨g,0,none⟩=some (.slice (some ⟨b,o,none⟩) L.length c):=dD Y;have O:∀q:ak d,q.w.cell? ⟨g,1,none⟩=some (.int .i64 ((k:Int)+1)):=dD M;have r2:∀q:ak d,q.w.cell? ⟨b,o+k,none⟩=some (.int .i64 x):=dD cx;have P:(k:Int)+1 - 1=(k:Int):=by omega
  refine rX' ?_
  repeat(go_big_quiet_step((go_at_call 23;exact iI (dD' x m hm F _))))
  refine wpQuiet_nil ?_;rintro _⟨i,rfl⟩;have D:Hid (aT m (L.drop k)=Bc x m):=ah (by rw[z.out];rfl);have E:Hid ((L.drop k).tail=L.drop (k+1)):=ah (by rw[z.out];rfl);have e0:=N i;have e1:=O i;have ef:i.w.frozen? ⟨g,1,none⟩=false:=by rw[i.h.b.frozen (p:=⟨g,1,none⟩) (World.block_lt_of_cell? d _ M)];exact Z
  clear N O r2 z;go_wp2;go_ret;exact⟨aU D.out.symm,⟨_,_,_,L,k+1,J.out,y,e0,by rw[e1];rfl,ef,by omega,E.out⟩,C.trans (Kp.dn i.h),f.trans' i.h⟩
 .have s:k=L.length:=by omega
  have X:decide ((L.length:Int)<=(k:Int))=true:=dT';have B:decide (L.length<=k)=true:=dT';go_enter func29,ntmps29;go_wp2_with fail;go_region;go_wp2_with fail;have D:Hid (aT m (L.drop k)=0):=ah (by rw[s,List.drop_length];rfl);have E:Hid ((L.drop k).tail=L.drop k):=ah (by rw[s,List.drop_length];rfl);go_ret;exact⟨aU D.out.symm,⟨_,_,_,L,k,J.out,y,G,H,I,R,E.out⟩,Kp.dn (Ext.refl _).dL,Q.dL⟩
def fA:List Int:=[0xad,0xb7,0x301,0x308,0x323,0x345,0x375,0x3b1,0x3b2,0x3b3,0x430,0x5d0,0x5f3,0x628,0x629,0x660,0x6f0,0x94d,0x1e00,0x1e01,0x1e02,0x1e03,0x1e04,0x200c,0x200d,0x30fb,0x4e00,0x1f600]
structure Us where
 cat:Int
 cls:Int
 dI:Int
 bW:Int
 scr:Int
 bf:Int
deriving DecidableEq
def usV(c:Int):Us:=
 if(c==0xad||c==0x200c||c==0x200d)=true then⟨8,0,5,9,1,4⟩
 else if(c==0xb7||c==0x375||c==0x30fb)=true then⟨5,0,0,8,1,1⟩
 else if c=0x323 then⟨2,220,5,10,2,1⟩
 else if c=0x94d then⟨2,9,5,10,20,1⟩
 else if 0x301<=c/\c<=0x345 then⟨2,230,5,10,2,1⟩
 else if 0x3b1<=c/\c<=0x3b3 then⟨1,0,0,0,4,1⟩
 else if c=0x430 then⟨1,0,0,0,5,1⟩
 else if(c==0x5d0||c==0x5f3)=true then⟨1,0,0,1,11,1⟩
 else if(c==0x628||c==0x629)=true then⟨1,0,3,2,12,1⟩
 else if c=0x660 then⟨3,0,0,3,1,1⟩
 else if c=0x6f0 then⟨3,0,0,4,1,1⟩
 else if c=0x4e00 then⟨1,0,0,0,6,1⟩
 else if 0x1e00<=c/\c<=0x1e04 then⟨1,0,0,0,3,1⟩
 else⟨6,0,0,8,1,0⟩
abbrev Us.v(u:Us):Value:= .agg #[.int .i64 u.cat,.int .i64 u.cls,.int .i64 u.dI,.int .i64 u.bW,.int .i64 u.scr,.int .i64 u.bf]
theorem usual_spec(c:Int)(a:c∈fA)(w:World):Calls prog 34 #[.int .i64 c] w λe w'=>e= .returned (usV c).v/\Ext w w':=by
 simp only[fA,List.mem_cons,List.not_mem_nil,or_false]at a;rcases a with rfl|rfl|rfl|rfl|rfl|rfl|rfl|rfl|rfl|rfl|rfl|rfl|rfl|rfl|rfl|rfl|rfl|rfl|rfl|rfl|rfl|rfl|rfl|rfl|rfl|rfl|rfl|rfl
 all_goals
  go_enter func34,ntmps34;go_wp2_with fail;refine bodyPost_ret (v:=(usV _).v) ?_ rfl ⟨rfl,?_⟩
  .simp[results,Tryz.results34,go_sem];decide
  .exact(Ext.refl w).aC _
theorem uy(w:World)(l:List Int)(t:TypeId)(h:l.length<=maxLen):aF (w.alloc (.cells (l.map (Value.int .i64)).toArray t)) ⟨some ⟨w.heap.size,0,none⟩,l.length,l.length⟩ l:=by
 refine⟨⟨rfl,Nat.le_refl _,h⟩,λi x a=>⟨w.heap.size,0,rfl,?_⟩⟩;rw[Nat.zero_add,World.cell?_alloc_new];simp[a]
theorem aF.qQ{w:World}{q o n c:Nat}{l:List Int}{M:List Nat}(h:aF w ⟨some ⟨q,o,none⟩,n,c⟩ l)(k:q∉M):aF (hide M w) ⟨some ⟨q,o,none⟩,n,c⟩ l:=by
 refine⟨h.1,λi x d=> ?_⟩;obtain⟨b,f,a,g⟩:=h.2 i x d;refine⟨b,f,a,?_⟩;simp only[Option.some.injEq]at a;have j:q=b:=by injection a
 rw[qM,if_neg (by rw[<- j];exact k)];exact g
theorem J9(w:World):Calls prog 33 #[] w λe w'=>e= .returned (.slice (some ⟨w.heap.size,0,none⟩) 28 28)/\aF w' ⟨some ⟨w.heap.size,0,none⟩,28,28⟩ fA/\Ext w w':=by
 go_enter func33,ntmps33;go_wp2;go_ret;exact⟨rfl,uy w fA _ (by decide),(Ext.refl w).aC _⟩
def fK(r:List Int)(vs:List Int):Int:=if 0<aT 3 r then vs.getD 0 0 else vs.getD (aT vs.length r.tail).toNat 0
def bK(r:List Int):List Int:=if 0<aT 3 r then r.tail else r.tail.tail
theorem choose_spec(j w:World)(g:Nat)(r vs:List Int)(A:Option Addr)(n c:Nat)(Y:Src j w g r)(Z:Ext j w)(H:aF (hide [g] w) ⟨A,n,c⟩ vs)(K:0<vs.length)(h1:vs.length<=1000):
 Calls prog 35 #[.pointer (some ⟨g,0,none⟩),.slice A n c] w λe w'=>e= .returned (.int .i64 (fK r vs))/\Src j w' g (bK r)/\Kp [g] w w'/\Ext j w':=by
 obtain⟨L,_,_⟩:=H.len;subst L;have M:=ah H;obtain⟨b,o,N,a⟩:=H.at_ K;subst N;simp only[Nat.add_zero]at a;have O:Hid (vs.getD 0 0=vs[0]):=getD_lt vs 0 0 K;generalize vs[0]=x at*;go_enter func35,ntmps35;go_wp2_with fail;refine(iq j w g r 3 (by decide) (by decide) Y Z).mono ?_;rintro e I⟨rfl,m,i,k⟩;have J:=ah m;by_cases f:0<aT 3 r
 .have P:decide (0<aT 3 r)=true:=by rw[au];exact f
  have p:Hid (fK r vs=x):=ah (by rw[fK,if_pos f,O.out]);have s:Hid (bK r=r.tail):=ah (if_pos f);have Q:I.cell? ⟨b,o,none⟩=some (.int .i64 x):=by
   rw[i.cell _ (by have:=World.block_lt_of_cell? _ _ a;rw[Io]at this;exact this) (λt=>by rw[qM,if_pos t]at a;cases a)];exact vM a
  clear f;go_wp2;go_ret;exact⟨aU p.out.symm,by rw[s.out];exact J.out,i,k⟩
 .have P:decide (0<aT 3 r)=false:=by rw[aA];exact f
  have z:=fZ r.tail (n:=(vs.length:Int)) (by omega);obtain⟨q,B⟩:∃q:Nat,aT (vs.length:Int) r.tail=q:=⟨(aT (vs.length:Int) r.tail).toNat,by omega⟩;have l:q<vs.length:=by omega
  have p:Hid (fK r vs=vs[q]):=ah (by rw[fK,if_neg f,B,Int.toNat_natCast];exact getD_lt vs q 0 l);have s:Hid (bK r=r.tail.tail):=ah (if_neg f);obtain⟨b',o',C,d⟩:=M.out.at_ l;injection C with C;injection C with R S;subst R S;generalize vs[q]=y at*;have T:=ah B;have U:=z0' q;have V:(q:Int)<(vs.length:Int):=by omega
  clear f z B;go_wp2_with fail;refine(iq j I g r.tail vs.length (by omega) (by omega) J.out k).mono ?_;rintro e W⟨rfl,D,E,F⟩;rw[T.out];have G:=ah D;have h:=i.trans E;have X:W.cell? ⟨b,o+q,none⟩=some (.int .i64 y):=by
   rw[h.cell _ (by have:=World.block_lt_of_cell? _ _ d;rw[Io]at this;exact this) (λt=>by rw[qM,if_pos t]at d;cases d)];exact vM d
  go_wp2;go_ret;exact⟨aU p.out.symm,by rw[s.out];exact G.out,h,F⟩
def jA:List Int->List Int->Bool
 |[],[]=>true
 |x::r,y::s=>x==y&&jA r s
 |_,_=>false
theorem Fb:∀(l m:List Int),l.length≠m.length->jA l m=false
 |[],[],h=>absurd rfl h
 |[],_::_,_=>rfl
 |_::_,[],_=>rfl
 |x::r,y::s,h=>by
  simp only[jA,Fb r s (by simpa using h),Bool.and_false]
theorem VU:∀(l m:List Int),jA l m=true↔l=m
 |[],[]=>by simp[jA]
 |[],_::_=>by simp[jA]
 |_::_,[]=>by simp[jA]
 |x::r,y::s=>by simp[jA,VU r s]
theorem VW(l m:List Int)(A:Option Addr)(n c:Nat)(I:Option Addr)(J K:Nat)(w:World)(h:aF w ⟨A,n,c⟩ l)(L:aF w ⟨I,J,K⟩ m):
 Calls prog 20 #[.slice A n c,.slice I J K] w λe w'=>e= .returned (.bool (jA l m))/\Ext w w':=by
 obtain⟨M,_,_⟩:=h.len;obtain⟨t,_,_⟩:=L.len;subst M t;have N:=ah h;have O:=ah L;by_cases a:l.length=m.length
 .have P:((l.length:Int) != (m.length:Int))=false:=by rw[a];simp
  have D:=ah a;have Q:Hid ((m.length:Int)=(l.length:Int)):=ah (by rw[a]);clear a;go_enter func20,ntmps20;go_wp2;go_loopw[13] (λi wr=>∃(k:Nat),k<=l.length/\i= .int .i64 k/\Hid (jA l m=jA (l.drop k) (m.drop k))/\Ext w wr) (λi _=>l.length - (intOf i).toNat);exact⟨0,Nat.zero_le _,rfl,rfl,Ext.refl _⟩;obtain⟨k,hk,rfl,r,f⟩:=hrel;by_cases j:k<l.length
  .have g:k<m.length:=by rw[<- D.out];exact j
   obtain⟨b,o,R,E⟩:=(N.out.ext f).at_ j;obtain⟨S,T,z,F⟩:=(O.out.ext f).at_ g;subst R z;have G:=ah (drop_at l k j);have H:=ah (drop_at m k g);generalize l[k]=x at*;generalize m[k]=y at*;have s:=aI r (show _=(x==y&&jA (l.drop (k+1)) (m.drop (k+1)))from by rw[G.out,H.out];rfl);clear r G H;have U:∀B:ak wr,B.w.cell? ⟨b,o+k,none⟩=some (.int .i64 x):=dD E;have V:∀B:ak wr,B.w.cell? ⟨S,T+k,none⟩=some (.int .i64 y):=dD F;have W:=z0' k;have X:(k:Int)<(l.length:Int):=(by omega);have Y:(k:Int)<(m.length:Int):=(by omega);go_wp2_with fail;refine rX' ?_
   repeat(go_big_quiet_step(fail))
   refine wpQuiet_nil ?_;rintro _⟨Z,rfl⟩;have q:=f.trans' Z.h;clear U V E F;by_cases d:x=y
   .have C:(x != y)=false:=(by rw[d];simp);have p:=aI s (show _=jA (l.drop (k+1)) (m.drop (k+1))from by rw[d];simp);clear s d;go_wp2;go_roundw;exact⟨k+1,by omega,by go_num,p,q⟩;simp[intOf];omega
   .have C:(x != y)=true:=bN' d;have p:=aI s (show _=false from by rw[beq_eq_false_iff_ne.2 d];rfl);clear s d;go_wp2;go_ret;exact⟨aO p.out.symm,q⟩
  .have p:=aI r (show _=true from by rw[bQ l k (by omega),bQ m k (by rw[<- D.out];omega)];rfl);clear r;go_wp2;go_ret;exact⟨aO p.out.symm,f⟩
 .have P:((l.length:Int) != (m.length:Int))=true:=by rw[bne_iff_ne];omega
  have p:=ah (Fb l m a);clear a;go_enter func20,ntmps20;go_wp2;go_ret;exact⟨aO p.out.symm,Ext.refl _⟩
structure KpW(M:List Nat)(w0:World) where
 w:World
 h:Kp M w0 w
instance (M:List Nat)(w0:World):Nonempty (KpW M w0):=⟨⟨w0,Kp.refl M w0⟩⟩
section
variable {P:Program} {ops:Array Oper} {Q:Exit->Act->World->Prop}
def wU(M:List Nat)(P:Program)(ops:Array Oper)(Q:Exit->Act->World->Prop):Nat->Array Bool->Act->World->Prop
 |0,listed,a,w=>Region.ready .any ops listed=[]/\Q .normal a w
 |fuel+1,listed,a,w=>(Region.ready .any ops listed=[]->Q .normal a w)/\
  ∀i∈Region.ready .any ops listed,wpOp P ops Q i (λa' w'=>Kp M w w'/\wU M P ops Q fuel (listed.setIfInBounds i true) a' w') a w
theorem Oh{M:List Nat}{Post:Act->World->Prop}(b:∀a w,Post a w->Q .normal a w):∀(fuel:Nat)(listed:Array Bool)(a:Act)(w:World),wU M P ops (rV Q Post) fuel listed a w->wpAny P .any ops Q fuel listed a w
 |0,_,_,_,h=>⟨h.1,b _ _ h.2⟩
 |fuel+1,_,_,_,h=>⟨λc=>b _ _ (h.1 c),λi d=>wpOp_mono (λf g j=>Oh b fuel _ f g j.2) (WX (h.2 i d))⟩
theorem Y1{M:List Nat}{o:Oper}{v:Value}{a:Act}{w w':World}(h:YieldsIf P ops (Kp M w) o v a)(c:Kp M w w'):YieldsIf P ops (Kp M w') o v a:=
 h.imp (λ⟨hw,hv⟩=>⟨hw,λx b=>hv x (c.trans b)⟩) id
theorem Yw{M:List Nat}{Post:Act->World->Prop}{i:Nat}{q:Oper}{v:Value}(G:ops[i]? =some q)(l:∀(j:Nat)(o:Oper)cs b,ops[j]? =some o->o.op≠ .select cs b):
 ∀(fuel:Nat)(listed:Array Bool)(a:Act)(w:World),
  (∀j oj,ops[j]? =some oj->j≠i->listed.getD j true=false->(∀e∈oj.after,Region.binds .any e=true->e.on≠i)->q.apart ops oj=true)->
  i∈Region.ready .any ops listed->YieldsIf P ops (Kp M w) q v a->
  wU M P ops (rV Q Post) fuel (listed.setIfInBounds i true) (a.put q.dst v) w->wU M P ops (rV Q Post) (fuel+1) listed a w:=by
 intro fuel
 induction fuel with
 |zero=>
  intro listed a w _ m z H;refine⟨λh=>(by rw[h]at m;cases m),λj A=> ?_⟩;by_cases c:j=i
  .subst c;exact z.wpOp G (Kp.refl M w) ⟨Kp.refl M w,H⟩
  .have:=ready_mono A c;rw[H.1]at this;cases this
 |succ fuel ih=>
  intro listed a w d m z H;refine⟨λh=>(by rw[h]at m;cases m),λj A=> ?_⟩;by_cases c:j=i
  .subst c;exact z.wpOp G (Kp.refl M w) ⟨Kp.refl M w,H⟩
  .have n:=H.2 j (ready_mono A c);obtain⟨g,oj,p,r⟩:=mem_ready.1 A;have s:∀e∈oj.after,Region.binds .any e=true->e.on≠i:=λe J K C=>by
    have n:=r e J K;have I:=(mem_ready.1 m).1;rw[C]at n;rcases Nat.lt_or_ge i listed.size with D|D
    .simp[D]at I n;rw[I]at n;cases n
    .simp[Array.getElem?_eq_none D]at n
   have L:=wpOp_putIf p (d j oj p c g s) (λcs b=>l i q cs b G) (λcs b=>l j oj cs b p) (λ_ _ _ h=>h) z n;have f:∀k t,ops[k]? =some t->k≠i->(listed.setIfInBounds j true).getD k true=false->
    (∀e∈t.after,Region.binds .any e=true->e.on≠i)->q.apart ops t=true:=λk t N E x F=>by
    refine d k t N E ?_ F;by_cases y:j=k
    .subst y;exact g
    .rw[getD_set_ne true y]at x;exact x
   refine wpOp_mono (λO R B=>⟨B.2.1,ih (listed.setIfInBounds j true) O R f (ready_mono m (Ne.symm c)) (Y1 B.1 B.2.1) ?_⟩) L;rw[Array.setIfInBounds_comm _ _ c];exact B.2.2
theorem Zd{M:List Nat}{Post:Act->World->Prop}{b:Array Bool}{a:Act}{w:World}(d:Region.ready .any ops b=[])(h:Post a w):∀fuel,wU M P ops (rV Q Post) fuel b a w
 |0=>⟨d,h⟩
 |fuel+1=>⟨λ_=>h,λi c=>by rw[d]at c;cases c⟩
def JM(M:List Nat)(w:World)(next:Act->World->Prop)(a':Act)(w':World):Prop:=Kp M w w'/\next a' w'
def wV(M:List Nat)(P:Program)(ops:Array Oper)(Q:Exit->Act->World->Prop)(Post:Act->World->Prop):List (List Nat × Nat)->List Nat->Act->World->Prop
 |[],last,a,w=>wpQuiet P ops (λw'=>∃x:KpW M w,w'=x.w) (λa'=>Post a' w) (opsOf ops last) a
 |(s,i)::r,last,a,w=>wpQuiet P ops (λw'=>∃x:KpW M w,w'=x.w) (λa'=>wpList P ops (rV Q (JM M w (wV M P ops Q Post r last))) (opsOf ops [i]) a' w) (opsOf ops s) a
theorem IB{M:List Nat}{Post:Act->World->Prop}{w:World}(p:Region.noSelect ops=true):∀(s:List Nat)(fuel:Nat)(listed:Array Bool)(a:Act),Df ops s listed=true->
 wpQuiet P ops (λw'=>∃x:KpW M w,w'=x.w) (λa'=>wU M P ops (rV Q Post) fuel (zT s listed) a' w) (opsOf ops s) a->wU M P ops (rV Q Post) (s.length+fuel) listed a w
 |[],fuel,listed,a,_,h=>by simpa[opsOf,wpQuiet,zT]using h
 |i::s,fuel,listed,a,hB,h=>by
  simp only[Df,aW]at hB;obtain⟨⟨⟨f,q⟩,b⟩,g⟩:=hB;cases c:ops[i]? with
  |none=>rw[c]at f;cases f
  |some o=>
   rw[c]at f;have j:opsOf ops (i::s)=o::opsOf ops s:=(by simp[opsOf,c]);rw[j]at h;unfold wpQuiet at h;have k:∃v,YieldsIf P ops (Kp M w) o v a/\wpQuiet P ops (λw'=>∃x:KpW M w,w'=x.w) (λa'=>wU M P ops (rV Q Post) fuel (zT s (listed.setIfInBounds i true)) a' w) (opsOf ops s) (a.put o.dst v):=by
    split at h
    .rename_i l;obtain⟨v,r,t⟩:=h;refine⟨v,.inl ⟨l,λw' m=> ?_⟩,t⟩;have d:=r w' ⟨⟨w',m⟩,rfl⟩;unfold Oper.quietAt at d;cases b:(execOp a.eval o).run P w' with
     |ok n w2=>
      obtain⟨u,rfl⟩:=X9 f b;rw[b]at d;obtain⟨j,y⟩:=d;rw[j,y]
     |halt x w2=>rw[b]at d;exact d.elim
    .rename_i l;exact⟨undef,.inr ⟨by simpa using l,rfl⟩,h⟩
   obtain⟨v,z,A⟩:=k;rw[show(i::s).length+fuel=(s.length+fuel)+1 from by simp only[List.length_cons];omega];exact Yw c (Region.noSelect_spec p) (s.length+fuel) listed a w (Region.free_spec c q) (by simpa using b) z (IB p s fuel _ _ g A)
theorem OM{M:List Nat}{Post:Act->World->Prop}(n:Region.noSelect ops=true):∀(ord:List (List Nat × Nat))(last:List Nat)(fuel:Nat)(listed:Array Bool)(a:Act)(w:World),DF ord last<=fuel->DC ops ord last listed=true->
 wV M P ops Q Post ord last a w->wU M P ops (rV Q Post) fuel listed a w
 |[],last,fuel,listed,a,w,hn,hB,h=>by
  simp only[DC,aW,au]at hB;simp only[DF]at hn;rw[show fuel=last.length+(fuel - last.length)from by omega];refine IB n last _ listed a hB.1 ?_;unfold wV at h;exact Hy (λk c=>Zd hB.2 c _) _ _ h
 |(s,i)::r,last,fuel,listed,a,w,hn,hB,h=>by
  simp only[DC,aW,au]at hB;obtain⟨⟨⟨A,p⟩,q⟩,B⟩:=hB;simp only[DF]at hn;rw[show fuel=s.length+((fuel - s.length - 1)+1)from by omega];refine IB n s _ listed a A ?_;unfold wV at h;refine Hy (λk c=> ?_) _ _ h;refine⟨λt=>(by rw[p]at t;cases t),λj x=> ?_⟩;rw[p]at x;obtain rfl:j=i:=by simpa using x
  cases m:ops[j]? with
  |none=>rw[m]at q;cases q
  |some o=>
   have D:opsOf ops [j]=[o]:=(by simp[opsOf,m]);rw[D]at c;have y:∀d b,Kp M w b/\wV M P ops Q Post r last d b->Kp M w b/\wU M P ops (rV Q Post) (fuel - s.length - 1) ((zT s listed).setIfInBounds j true) d b:=λd b z=>
    ⟨z.1,OM n r last _ _ d b (by omega) B z.2⟩
   unfold wpOp;simp only[m];unfold wpList at c;split
   .rename_i f;rw[if_pos f]at c;rcases c with c|c
    .exact .inl (Xf (Oper.wp_mono (λd b g=>y d b g) c))
    .exact .inr c
   .rename_i f;rw[if_neg f]at c;exact y _ _ c
where
 Hy {C:World->Prop} {K K':Act->Prop} (g:∀a,K a->K' a):∀(l:List Oper)(a:Act),wpQuiet P ops C K l a->wpQuiet P ops C K' l a
  |[],a,h=>g a h
  |o::l,a,h=>by
   unfold wpQuiet at*;split
   .rename_i f;rw[if_pos f]at h;exact Oper.quiet_mono (λk c=>Hy g l k c) h
   .rename_i f;rw[if_neg f]at h;exact Hy g l _ h
theorem region_xk(M:List Nat){d:Nat}{a:Act}{w:World}{l:List Oper}(b:List (List Nat × Nat))(last:List Nat)(f:P.follows .mixedOrders=true)
 (c:(Region.noSelect l.toArray&&DC l.toArray b last (Array.replicate l.length false)&&decide (DF b last<=l.length))=true)
 (h:wV M P l.toArray Q (λa' w'=>Q .normal a' w') b last a w.drew):(Code.region d l.toArray true).wp P Q a w:=by
 simp only[aW,au]at c;refine wp_region_any f (Oh (M:=M) (Post:=λa' w'=>Q .normal a' w') (λ_ _ h=>h) _ _ _ _ ?_);have:=OM c.1.1 b last l.length (Array.replicate l.length false) a w.drew c.2 c.1.2 h;simpa using this
theorem aM5{M:List Nat}{Post:Act->World->Prop}{s:List Nat}{i:Nat}{r:List (List Nat × Nat)}{last:List Nat}{a:Act}{w:World}{l:List Oper}
 {b:List Oper} {o:Oper} (f:uD l s b) (g:uj l i o) (h:wpQuiet P l.toArray (λw'=>∃x:KpW M w,w'=x.w) (λa'=>wpList P l.toArray (rV Q (JM M w (wV M P l.toArray Q Post r last))) [o] a' w) b a):wV M P l.toArray Q Post ((s,i)::r) last a w:=by
 have c:=f.eq;have d:=(uD.cons g uD.nil).eq;subst c;unfold wV;rw[d];exact h
theorem aMs{M:List Nat}{Post:Act->World->Prop}{last:List Nat}{a:Act}{w:World}{l:List Oper}{b:List Oper}(d:uD l last b)(h:wpQuiet P l.toArray (λw'=>∃x:KpW M w,w'=x.w) (λa'=>Post a' w) b a):wV M P l.toArray Q Post [] last a w:=by
 have c:=d.eq;subst c;exact h
theorem qJ'{M:List Nat}{w w':World}{next:Act->World->Prop}{a:Act}(b:Kp M w w')(h:next a w'):JM M w next a w':=⟨b,h⟩
end
def nO:List Sp->List Value
 |[]=>[]
 |s::r=> .int .i64 s.lo:: .int .i64 s.hi:: .int .i64 s.val::nO r
theorem Ig:∀l,(nO l).length=l.length*3
 |[]=>rfl
 |s::r=>by simp only[nO,List.length_cons,Ig r];omega
theorem Oa:∀l m,nO (l++m)=nO l++nO m
 |[],m=>rfl
 |s::r,m=>by simp[nO,Oa r m]
theorem Ob:∀(l:List Sp)(i:Nat)(x:Sp),l[i]? =some x->(nO l)[i*3]? =some (.int .i64 x.lo)/\(nO l)[i*3+1]? =some (.int .i64 x.hi)/\(nO l)[i*3+2]? =some (.int .i64 x.val)
 |[],i,x,h=>by simp at h
 |s::r,0,x,h=>by simp at h;subst h;simp[nO]
 |s::r,i+1,x,h=>by
  simp only[List.getElem?_cons_succ]at h;have:=Ob r i x h;rw[show(i+1)*3=i*3+3 from by omega];exact this
theorem Oc:∀(l:List Sp)(j:Nat)(u:Value),(nO l)[j]? =some u->∃i x,l[i]? =some x/\(j=i*3/\u= .int .i64 x.lo\/j=i*3+1/\u= .int .i64 x.hi\/j=i*3+2/\u= .int .i64 x.val)
 |[],j,u,h=>by simp[nO]at h
 |s::r,0,u,h=>⟨0,s,rfl,.inl ⟨rfl,by simp[nO]at h;exact h.symm⟩⟩
 |s::r,1,u,h=>⟨0,s,rfl,.inr (.inl ⟨rfl,by simp[nO]at h;exact h.symm⟩)⟩
 |s::r,2,u,h=>⟨0,s,rfl,.inr (.inr ⟨rfl,by simp[nO]at h;exact h.symm⟩)⟩
 |s::r,j+3,u,h=>by
  obtain⟨i,x,c,d⟩:=Oc r j u h;refine⟨i+1,x,c,?_⟩;rcases d with⟨b,a⟩|⟨b,a⟩|⟨b,a⟩
  .exact .inl ⟨by omega,a⟩
  .exact .inr (.inl ⟨by omega,a⟩)
  .exact .inr (.inr ⟨by omega,a⟩)
theorem infoSpan:(prog.info? 70).map (λi=>(i.zero,i.size,i.bytes))=some (some (.agg #[.int .i64 0,.int .i64 0,.int .i64 0]),3,24):=by kernel_rfl
abbrev uF(w:World)(base:Nat)(A:Option Addr)(n c:Nat)(l:List Sp):Prop:=Own w base 70 3 A n c (nO l)
theorem uF.spans{w:World}{f n c:Nat}{A:Option Addr}{l:List Sp}(h:uF w f A n c l):bP w ⟨A,n,c⟩ l:=by
 have k:=h.len;rw[Ig]at k;obtain⟨t,m⟩:=h.le;refine⟨⟨by show n=_;omega,by show l.length<=c;omega,m⟩,λi x o=> ?_⟩;obtain⟨p,q,r⟩:=Ob l i x o;obtain⟨b,rfl,s⟩:=h.qc _ _ p;obtain⟨y,a,g⟩:=h.qc _ _ q;obtain⟨z,d,j⟩:=h.qc _ _ r;injection a with a;injection a with a;subst a;injection d with d;injection d with d;subst d;exact⟨b,0,rfl,by rw[Nat.zero_add];exact s,by rw[Nat.zero_add];exact g,by rw[Nat.zero_add];exact j⟩
theorem bP.qc{w:World}{A:Option Addr}{n c:Nat}{l:List Sp}(h:bP w ⟨A,n,c⟩ l):∀j u,(nO l)[j]? =some u->∃b o,A=some ⟨b,o,none⟩/\w.cell? ⟨b,o+j,none⟩=some u:=by
 intro j u a;obtain⟨i,x,d,f⟩:=Oc l j u a;obtain⟨b,o,g,k,m,p⟩:=h.2 i x d;refine⟨b,o,g,?_⟩;rcases f with⟨rfl,rfl⟩|⟨rfl,rfl⟩|⟨rfl,rfl⟩
 .exact k
 .exact m
 .exact p
theorem YU{l:List Sp}:∀u∈nO l,u.oneCell'=true:=by
 induction l with
 |nil=>intro u a;cases a
 |cons s r ih=>
  intro u a;simp only[nO,List.mem_cons]at a;rcases a with rfl|rfl|rfl|a
  .rfl
  .rfl
  .rfl
  .exact ih u a
theorem WY{w:World}{a n c:Nat}{A:Option Addr}{l:List Sp}(d:uF w a A n c l){f:Option Addr}{m g:Nat}{h:List Sp}(i:bP w ⟨f,m,g⟩ h)(r:n+m<=1099511627776)(b:a<=w.heap.size):
 ∃A' c' w',(∀ty,(Builtin.append_ #[23,23] ty #[.slice A n c,.slice f m g]).run prog w= .ok (.slice A' (n+m) c') w')/\uF w' a A' (n+m) c' (l++h)/\w.grownBy w' (aG A)/\(aG A'=aG A\/aG A'=some w.heap.size):=by
 have j:=i.len.1;obtain⟨A',c',w',k,o,p,q⟩:=Ad underlying23 infoSpan rfl (by omega) d f m g (nO h) (by rw[Ig,j]) i.qc YU (by simp only[maxLen];omega) (by omega) b;exact⟨A',c',w',k,by rw[uF,Oa];exact o,p,q⟩
theorem Ns{ops:Array Oper}{o:Oper}{a:Act}{w:World}{K:Act->World->Prop}{Q:Exit->Act->World->Prop}{E:Prop}(i:o.guard=none)(s x:Operand)
 (z:o.op= .call {callee:= .builtin .append,args:= #[s,x],argTypes:= #[23,23]}) (b:Nat) {A:Option Addr} {n c:Nat} {l:List Sp} (B:a.eval s= .slice A n c) (g:uF w b A n c l)
 {j:Option Addr} {m k:Nat} {p:List Sp} (C:a.eval x= .slice j m k) (D:bP w ⟨j,m,k⟩ p) (F:n+m<=1099511627776) (d:b<=w.heap.size)
 (h:∀A' c' w',uF w' b A' (n+m) c' (l++p)->w.grownBy w' (aG A)->(aG A'=aG A\/aG A'=some w.heap.size)->K (a.put o.dst (.slice A' (n+m) c')) w'):
 if Region.wanted o (yielded ops a.tmps)=true then Oper.wp prog o a w K Q else E:=by
 have q:Region.wanted o (yielded ops a.tmps)=true:=by simp[Region.wanted,i]
 rw[if_pos q];obtain⟨A',c',w',f,r,t,y⟩:=WY g D F d;unfold Oper.wp execOp;simp only[z,resolve,invoke,builtin,Sem.run_bind,Sem.run_pure,Result.andThen_ok,List.map_toArray,List.map_cons,List.map_nil,B,C,f];exact h A' c' w' r t y
theorem WM{ops:Array Oper}{o:Oper}{a:Act}{w:World}{K:Act->World->Prop}{Q:Exit->Act->World->Prop}{E:Prop}(f:o.guard=none)(s x:Operand)
 (l:o.op= .call {callee:= .builtin .append,args:= #[s,x],argTypes:= #[23,23]}) (b:Nat) (n:a.eval s= .slice none 0 0)
 {i:Option Addr} {m j:Nat} {k:List Sp} (p:a.eval x= .slice i m j) (d:bP w ⟨i,m,j⟩ k) (r:m<=1099511627776) (c:b<=w.heap.size)
 (h:∀A' c' w',uF w' b A' m c' k->w.grownBy w' none->K (a.put o.dst (.slice A' m c')) w'):
 if Region.wanted o (yielded ops a.tmps)=true then Oper.wp prog o a w K Q else E:=by
 refine Ns f s x l b n (show uF _ _ none 0 0 []from Own.nil_ _ _ _ _) p d (by omega) c ?_;intro A' c' w' g d q;simp only[Nat.zero_add,List.nil_append]at g |-;exact h A' c' w' g d
theorem uF.hidden{w:World}{a n c:Nat}{A:Option Addr}{l:List Sp}(h:uF w a A n c l){M:List Nat}(p:∀b∈M,b<a):bP (hide M w) ⟨A,n,c⟩ l:=by
 obtain⟨f,g⟩:=h.spans;refine⟨f,λi x j=> ?_⟩;obtain⟨b,o,d,q,r,s⟩:=g i x j;simp only at d;subst d;have k:b∉M:=λm=>by
  have:=(h.lt b rfl).1;have:=p b m;omega
 refine⟨b,o,rfl,?_,?_,?_⟩<;>rw[qM,if_neg k]<;>assumption
theorem ND(w:World)(b c v:Int)(t:TypeId):bP (w.alloc (.cells #[.int .i64 b,.int .i64 c,.int .i64 v] t)) ⟨some ⟨w.heap.size,0,none⟩,1,1⟩ [⟨b,c,v⟩]:=by
 refine⟨⟨rfl,Nat.le_refl _,by simp[maxLen]⟩,λi y a=> ?_⟩
 match i,a with
 |0,a=>
  simp at a;subst a;refine⟨w.heap.size,0,rfl,?_,?_,?_⟩<;>exact World.cell?_alloc_new w _ _ _
 |i+1,a=>simp at a
theorem IJ{w:World}{H:Nat}(c:w.heap.size=H)(a b v:Int)(t:TypeId):bP (w.alloc (.cells #[.int .i64 a,.int .i64 b,.int .i64 v] t)) ⟨some ⟨H,0,none⟩,1,1⟩ [⟨a,b,v⟩]:=by
 subst c;exact ND w a b v t
def Fr(M:List Nat)(w:World)(tb:Nat)(A:Option Addr):Prop:=∀b,aG A=some b->tb<b/\b∉M/\b<w.heap.size/\∀k:Nat,w.frozen? ⟨b,k,none⟩=false
theorem Fr.kp{M M' N:List Nat}{w w':World}{g:Nat}{A:Option Addr}(h:Fr M w g A)(i:Kp N w w')(n:∀b∈N,b∈M\/w.heap.size<=b)(o:∀b∈M',b∈M\/w.heap.size<=b):Fr M' w' g A:=by
 intro b j;obtain⟨l,c,d,m⟩:=h b j;exact⟨l,λa=>(o b a).elim c (λf=>by omega),Nat.lt_of_lt_of_le d i.size,λk=>by rw[i.frozen ⟨b,k,none⟩ d (λa=>(n b a).elim c (λf=>by have p:w.heap.size<=b:=f;omega))];exact m k⟩
theorem Own.unfr{w:World}{d n c:Nat}{e:TypeId}{size:Nat}{A:Option Addr}{o:List Value}(h:Own w d e size A n c o):∀b,aG A=some b->∀k:Nat,w.frozen? ⟨b,k,none⟩=false:=by
 intro b f k;rcases h.2 with⟨a,_⟩|⟨g,i,j,a,p,l,q⟩
 .injection a with a;subst a;cases f
 .injection a with a _ m;subst a m;injection f with f;subst f;simp[World.frozen?,l]
structure wO(M:List Nat)(w0 w w':World)(tb j:Nat)(L':List Sp):Prop where
 row:∃A' n' c',w'.cell? ⟨tb,j,none⟩=some (.slice A' n' c')/\bP (hide M w') ⟨A',n',c'⟩ L'/\Fr M w' tb A'
 kp:Kp [tb] w w'
 other:∀k,k≠j->w'.cell? ⟨tb,k,none⟩=w.cell? ⟨tb,k,none⟩
 frozen:∀k,w'.frozen? ⟨tb,k,none⟩=w.frozen? ⟨tb,k,none⟩
 ext:Ext w0 w'
def iZ(L:List Sp)(lo hi v:Int):List Sp:=if 0<v then L++[⟨lo,hi,v⟩]else L
theorem aEY(M:List Nat)(P w:World)(d j:Nat)(A:Option Addr)(n c:Nat)(L:List Sp)(m o Q v:Int)(hM:d∈M)(B:∀b∈M,b<w.heap.size)(hb:Ext P w)(R:P.heap.size<=d)
 (S:w.cell? ⟨d,j,none⟩=some (.slice A n c)) (hf:w.frozen? ⟨d,j,none⟩=false) (h:bP (hide M w) ⟨A,n,c⟩ L) (hl:L.length<=1000) (D:Fr M w d A):
 Calls prog 36 #[.pointer (some ⟨d,j,none⟩),.agg #[.int .i64 m,.int .i64 o,.int .i64 Q],.int .i64 v] w λe w'=>e= .returned (.tuple #[])/\wO M P w w' d j (iZ L m o v):=by
 have q:d<w.heap.size:=B _ hM;have F:=ah D;clear D;obtain⟨hn,_,_⟩:=h.len;subst hn;by_cases E:0<v
 .have hd:decide (0<v)=true:=by rw[au];exact E
  have G:Hid (iZ L m o v=L++[⟨m,o,v⟩]):=ah (if_pos E);have T:Ext w (w.alloc (.cells #[.int .i64 m,.int .i64 o,.int .i64 Q] 70)):=(Ext.refl _).aC _;go_enter func36,ntmps36;go_wp2_with fail;obtain⟨a,f⟩:=eX' (w.alloc (.cells #[.int .i64 m,.int .i64 o,.int .i64 v] 70));rw[<- f];have r:Ext w a:=by rw[f];exact(Ext.refl _).aC _
  have H:a.heap.size=w.heap.size+1:=by rw[f];simp
  have U:a.cell? ⟨w.heap.size,0,none⟩=some (.int .i64 m):=by rw[f];exact World.cell?_alloc_new w _ _ 0
  have V:a.cell? ⟨w.heap.size,1,none⟩=some (.int .i64 o):=by rw[f];exact World.cell?_alloc_new w _ _ 1
  have W:a.cell? ⟨w.heap.size,2,none⟩=some (.int .i64 v):=by rw[f];exact World.cell?_alloc_new w _ _ 2
  have X:a.cell? ⟨d,j,none⟩=some (.slice A L.length c):=bD (bH r) S;have cf:a.frozen? ⟨d,j,none⟩=false:=by rw[r.b.frozen (p:=⟨d,j,none⟩) q];exact hf
  have HS:Hid (bP a ⟨A,L.length,c⟩ L):=ah ((h.sub (λp v=>vM)).ext r);have Y:Hid (bP (hide M a) ⟨A,L.length,c⟩ L):=ah (h.keep (fP (Kp.dn r)));have n0:=World.new_ne a _ U;have n1:=World.new_ne a _ V;have n2:=World.new_ne a _ W;have n3:=World.new_ne a _ X;clear f S hf h;have Z:∀w',Ext a w'->(w'.cell? ⟨w.heap.size,0,none⟩=some (.int .i64 m)/\w'.cell? ⟨w.heap.size,1,none⟩=some (.int .i64 o)/\w'.cell? ⟨w.heap.size,2,none⟩=some (.int .i64 v)):=λw' l=>
   ⟨bD (bH l) U,bD (bH l) V,bD (bH l) W⟩
  have I:=ah Z;have HC:Hid (∀w',Ext a w'->w'.cell? ⟨d,j,none⟩=some (.slice A L.length c)/\w'.frozen? ⟨d,j,none⟩=false):=λw' l=>⟨bD (bH l) X,by rw[l.b.frozen (p:=⟨d,j,none⟩) (by show d<_;omega)];exact cf⟩
  have aa:d≠w.heap.size:=by omega
  have a0:¬d=w.heap.size:=by omega
  clear Z;go_region_law
   (first
    |(refine WM (by rfl) _ _ (by rfl) a.heap.size (by rfl) (by rfl) (HS.out.ext (by first|exact(Ext.refl _).dL|exact(Ext.refl _).dL.aC _)) (by omega) (by simp) ?_
      intro A1 k1 w2 g TY;have s:Hid (Ext a w2):=dU (by first|exact(Ext.refl _).dL|exact(Ext.refl _).dL.aC _) TY (by intro k y;cases y)
      obtain⟨e0,e1,e2⟩:=I.out _ s.out)
    |(refine Ns (by rfl) _ _ (by rfl) a.heap.size (by rfl) (show uF _ _ A1 L.length k1 L from by first|exact g|exact g.ext ((Ext.refl _).aC _)) (by rfl) (show bP _ ⟨some ⟨_,0,none⟩,1,1⟩ [⟨m,o,v⟩]from by first|exact ND _ _ _ _ _|exact(IJ H m o v 70).ext (dU (Ext.refl _).dL TY (by intro k y;cases y))) (by omega) (by first|exact s.out.b.size|exact(s.out.aC _).b.size) ?_
      intro A2 k2 J i K ag;have C:Hid (Ext a J):=dU (by first|exact s.out|exact s.out.aC _) K (λk y=>(g.lt k y).1)
      obtain⟨O,ai⟩:=HC.out J C.out))
  all_goals
   have t:=r.trans' C.out;go_wp2;go_end0;refine⟨rfl,⟨⟨A2,_,k2,World.cell?_setCell_same _ _ _ O,?_,?_⟩,(Kp.dn t).trans (Kp.setCell _ _ _ _ (by simp)),λk y=> ?_,λk=> ?_,(hb.trans' t).kD R _⟩⟩
   .rw[G.out];exact(uF.hidden i (λb x=>by have:=B b x;omega)).keep (fP (Kp.setCell M J _ _ hM))
   .intro b x;have h1:=i.lt b x;exact⟨by omega,λh2=>by have:=B b h2;omega,by simpa using h1.2,λk=>by rw[World.frozen?_setCell];exact Own.unfr i b x k⟩
   .rw[World.cell?_setCell_other _ _ _ _ (by intro e;injection e with _ e;exact y e.symm)];exact t.b.cell (p:=⟨d,k,none⟩) q
   .rw[World.frozen?_setCell];exact t.b.frozen (p:=⟨d,k,none⟩) q
 .have hd:decide (0<v)=false:=by rw[aA];exact E
  have G:Hid (iZ L m o v=L):=ah (if_neg E);go_enter func36,ntmps36;go_wp2_with fail;have Y:=ah h;have z:Ext w (w.alloc (.cells #[.int .i64 m,.int .i64 o,.int .i64 Q] 70)):=(Ext.refl _).aC _;go_end0;refine⟨rfl,⟨⟨_,_,_,bD (bH z) S,?_,F.out.kp (N:=[]) (Kp.dn z) (λ_ h=>by cases h) (λ_ h=> .inl h)⟩,Kp.dn z,λk _=>z.b.cell (p:=⟨d,k,none⟩) q,λk=>z.b.frozen (p:=⟨d,k,none⟩) q,hb.trans' z⟩⟩;rw[G.out];exact Y.out.keep (fP (Kp.dn z))
def RG(u:Us)(r:List Int):Us × List Int:=
 let r1:=bK r
 let r2:=bK r1
 let r3:=bK r2
 let r4:=bK r3
 let r5:=bK r4
 (⟨fK r [u.cat,2,1],fK r1 [u.cls,0,1,9,202,220,230,254],fK r2 [u.dI,0,1,2,3,4,5],fK r3 [u.bW,0,1,2,3,4,8,10,11],fK r4 [u.scr,0,1,2,3,6,7,9,10],fK r5 [u.bf,0,1,2,4]⟩,bK r5)
def uT(wild:Bool)(c:Int)(r:List Int):Us × List Int:=if wild=true then RG (usV c) r else(usV c,r)
def Am(wild:Bool)(c:Int)(r:List Int):Bool × List Int:=if c=173 then(true,r)else if wild=true then(aT 12 r==0,r.tail)else(false,r)
structure kG where
 cat:List Sp
 cls:List Sp
 dI:List Sp
 bW:List Sp
 scr:List Sp
 bM:List Sp
 bf:List Int
def xZ(wild:Bool)(c:Int)(C:kG)(r:List Int):kG × List Int:=
 let u:=uT wild c r
 let g:=Am wild c u.2
 (⟨iZ C.cat c c u.1.cat,iZ C.cls c c u.1.cls,iZ C.dI c c u.1.dI,iZ C.bW c c u.1.bW,iZ C.scr c c u.1.scr,if g.1=true then C.bM++[⟨c,c,1⟩]else C.bM,C.bf++[u.1.bf]⟩,g.2)
def G5(wild:Bool):List Int->kG->List Int->kG × List Int
 |[],C,r=>(C,r)
 |c::l,C,r=>G5 wild l (xZ wild c C r).1 (xZ wild c C r).2
theorem Bq(L:List Sp)(a b v:Int):(iZ L a b v).length<=L.length+1:=by
 unfold iZ;split<;>simp
def iJ(M:List Nat)(w:World)(tb j:Nat)(L:List Sp):Prop:=∃A n c,w.cell? ⟨tb,j,none⟩=some (.slice A n c)/\bP (hide M w) ⟨A,n,c⟩ L/\w.frozen? ⟨tb,j,none⟩=false/\Fr M w tb A
theorem iJ.kp{M N:List Nat}{w w':World}{d j:Nat}{L:List Sp}(h:iJ M w d j L)(f:Kp N w w')(i:∀b∈N,b∈M\/w.heap.size<=b)(ht:d∉N):iJ M w' d j L:=by
 obtain⟨A,n,c,g,k,l,m⟩:=h;have a:=World.block_lt_of_cell? w _ g;exact⟨A,n,c,by rw[f.cell _ a ht];exact g,k.keep (fP (f.mono i)),by rw[f.frozen ⟨d,j,none⟩ a ht];exact l,m.kp f i (λ_ h=> .inl h)⟩
theorem iJ.add{M:List Nat}{q w w':World}{d j k:Nat}{L r:List Sp}(h:iJ M w d k L)(f:wO M q w w' d j r)(g:k≠j)(i:d∈M):iJ M w' d k L:=by
 obtain⟨A,n,c,l,m,o,p⟩:=h;exact⟨A,n,c,(f.other k g).trans l,m.keep (fP (f.kp.mono (by intro b a;simp at a;subst a;exact .inl i))),(f.frozen k).trans o,p.kp f.kp (by intro b a;simp at a;subst a;exact .inl i) (λ_ h=> .inl h)⟩
theorem iJ.self{M:List Nat}{p w w':World}{a j:Nat}{L b:List Sp}(h:iJ M w a j L)(d:wO M p w w' a j b):iJ M w' a j b:=by
 obtain⟨A,n,c,_,_,f,_⟩:=h;obtain⟨g,i,k,l,m,o⟩:=d.row;exact⟨g,i,k,l,m,(d.frozen j).trans f,o⟩
theorem iJ.nil_{M:List Nat}{w:World}{a j:Nat}(h:w.cell? ⟨a,j,none⟩=some (.slice none 0 0))(d:w.frozen? ⟨a,j,none⟩=false):iJ M w a j []:=⟨none,0,0,h,bP.nil_ _,d,λb c=>by cases c⟩
theorem Ac(M:List Nat)(d w:World)(a j:Nat)(L:List Sp)(f g l v:Int)(r:a∈M)(i:∀b∈M,b<w.heap.size)(s:Ext d w)(k:d.heap.size<=a)(h:iJ M w a j L)(t:L.length<=1000):
 Calls prog 36 #[.pointer (some ⟨a,j,none⟩),.agg #[.int .i64 f,.int .i64 g,.int .i64 l],.int .i64 v] w λe w'=>e= .returned (.tuple #[])/\wO M d w w' a j (iZ L f g v):=by
 obtain⟨A,n,c,m,o,p,q⟩:=h;exact aEY M d w a j A n c L f g l v r i s k m p o t q
def yV:List Int:=[0x301,0x308,0x323,0x345,0x3b1]
def qW(k:Nat)(r:List Int):Int × List Int:=
 if k=0 then(97+aT 2 r,r.tail)else if aT 3 r.tail=0 then(7680+aT k r.tail.tail,r.tail.tail.tail)else(97+aT 2 r,r.tail.tail)
def uI(k:Nat)(r:List Int):List Int × List Int:=
 if 0<aT 8 (qW k r).2 then([(qW k r).1,yV.getD (aT 5 (qW k r).2.tail).toNat 0],(qW k r).2.tail.tail)else([(qW k r).1],(qW k r).2.tail)
def vP(to:List Int):Bool->List Mp->Bool
 |b,[]=>b
 |b,m::r=>vP to (b||jA m.to to) r
structure qh where
 dec:List Mp
 exc:List Int
def stepD(k:Nat)(D:qh)(r:List Int):qh × List Int:=
 if aT 4 r=0 then(D,r.tail)else
  (⟨D.dec++[⟨7680+k,(uI k r.tail).1⟩],if vP (uI k r.tail).1 (aT 6 (uI k r.tail).2==0) D.dec=true then D.exc++[7680+(k:Int)]else D.exc⟩,(uI k r.tail).2.tail)
def y9:Nat->Nat->qh->List Int->qh × List Int
 |0,_,D,r=>(D,r)
 |n+1,k,D,r=>y9 n (k+1) (stepD k D r).1 (stepD k D r).2
structure Mps where
 mps:List Mp
 bf:List Sp
def qX(c:Int)(r:List Int):Bool × List Int:=if(c==128512||c==7684)=true then(true,r)else if c=947 then(aT 2 r==0,r.tail)else(false,r)
def oO(r:List Int):List Int × List Int:=(if aT 2 r.tail=0 then[97+aT 3 r,46]else[97+aT 3 r],r.tail.tail)
def stepM(c st:Int)(M:Mps)(r:List Int):Mps × List Int:=
 if(qX c r).1=true then
  if 0<aT 3 (oO (qX c r).2).2 then(⟨M.mps++[⟨c,(oO (qX c r).2).1⟩],iZ M.bf c c 3⟩,(oO (qX c r).2).2.tail)else(⟨M.mps,iZ M.bf c c st⟩,(oO (qX c r).2).2.tail)
 else(⟨M.mps,iZ M.bf c c st⟩,(qX c r).2)
def runM:List Int->List Int->Mps->List Int->Mps × List Int
 |c::cs,st::ss,M,r=>runM cs ss (stepM c st M r).1 (stepM c st M r).2
 |_,_,M,r=>(M,r)
def jW:List Mp:=[⟨48,[111]⟩,⟨109,[114,110]⟩,⟨945,[97]⟩,⟨1072,[97]⟩,⟨1632,[111,803]⟩]
def JE(bM:List Sp)(m:Mp)(P:List Mp)(r:List Int):List Mp × List Int:=
 (if((aT 3 r==0)||(fB bM m.lo==1)||(fB bM (mZ m.to)==1))=true then P else P++[m],r.tail)
def wB(bM:List Sp):List Mp->List Mp->List Int->List Mp × List Int
 |[],P,r=>(P,r)
 |m::l,P,r=>wB bM l (JE bM m P r).1 (JE bM m P r).2
def Jz:kG:=⟨[],[],[],[],[],[],[]⟩
def yY(l:List Int):kG × List Int:=G5 (aT 3 l==0) fA Jz l.tail
def FY(l:List Int):qh × List Int:=y9 5 0 ⟨[],[]⟩ (yY l).2
def FZ(l:List Int):Mps × List Int:=runM fA (yY l).1.bf ⟨[],[]⟩ (FY l).2
def FQ(l:List Int):List Mp × List Int:=wB (yY l).1.bM jW [] (FZ l).2
def Jt(l:List Int):List Mp:=if aT 2 (FQ l).2=0 then[⟨12539,[7,8]⟩]else[]
def mkT(C:kG)(D:qh)(M:Mps)(P E:List Mp):aj:=⟨C.cat,C.cls,C.dI,C.bW,C.scr,M.bf,C.bM,E,M.mps,D.dec,D.exc,P⟩
def yN(l:List Int):aj:=mkT (yY l).1 (FY l).1 (FZ l).1 (FQ l).1 (Jt l)
structure kJ(a b:Int)(pre:List Int)(L:List Sp):Prop where
 one:∀s∈L,s.lo=s.hi/\s.lo∈pre
 ord:L.Pairwise λs t=>s.hi<t.lo
 val:∀s∈L,a<=s.val/\s.val<=b
theorem kJ.nil_(a b:Int)(pre:List Int):kJ a b pre []:=⟨λs h=>(by cases h),.nil,λs h=>(by cases h)⟩
theorem kJ.pre{a b:Int}{pre:List Int}{L:List Sp}(h:kJ a b pre L)(c:Int):kJ a b (pre++[c]) L:=
 ⟨λs d=>⟨(h.one s d).1,by simp[(h.one s d).2]⟩,h.ord,h.val⟩
theorem kJ.snoc{a b:Int}{pre:List Int}{L:List Sp}(h:kJ a b pre L){c v:Int}(f:∀x∈pre,x<c)(g:a<=v)(i:v<=b):kJ a b (pre++[c]) (L++[⟨c,c,v⟩]):=by
 refine⟨λs d=> ?_,?_,λs d=> ?_⟩
 .rw[List.mem_append,List.mem_singleton]at d;rcases d with d|rfl
  .exact(h.pre c).one s d
  .simp
 .rw[List.pairwise_append];refine⟨h.ord,List.pairwise_singleton _ _,λs d t ht=> ?_⟩;rw[List.mem_singleton]at ht;subst ht;have:=h.one s d;have:=f _ this.2;show s.hi<c
  omega
 .rw[List.mem_append,List.mem_singleton]at d;rcases d with d|rfl
  .exact h.val s d
  .exact⟨g,i⟩
theorem kJ.add{a b:Int}{pre:List Int}{L:List Sp}(h:kJ a b pre L){c v:Int}(f:∀x∈pre,x<c)(g:0<v->a<=v)(i:v<=b):kJ a b (pre++[c]) (iZ L c c v):=by
 unfold iZ;by_cases d:0<v
 .rw[if_pos d];exact h.snoc f (g d) i
 .rw[if_neg d];exact h.pre c
theorem kJ.len{a b:Int}{pre:List Int}{L:List Sp}(h:kJ a b pre L)(i:pre=fA):L.length<=28:=by
 have f:(L.map Sp.lo).Nodup:=by
  rw[List.nodup_iff_pairwise_ne,List.pairwise_map];refine(List.Pairwise.and_mem.1 h.ord).imp ?_;intro s t ⟨c,_,g⟩ e;have:=(h.one s c).1;omega
 have c:(L.map Sp.lo) ⊆ fA:=by
  intro x d;rw[List.mem_map]at d;obtain⟨s,c,rfl⟩:=d;rw[<- i];exact(h.one s c).2
 have:=f.length_le_of_subset c;simpa[fA]using this
theorem ZE:∀c∈fA,0<=c/\c<=1114111:=by decide
theorem aG0:∀c∈fA,pY c c vS=true:=by decide
theorem aEk{last:Int}{L:List Sp}(b:∀s∈L,last<s.lo/\s.lo=s.hi/\0<=s.lo/\s.lo<=1114111)(a:L.Pairwise λs t=>s.hi<t.lo):chain 0 1114111 last L=true:=by
 induction L generalizing last with
 |nil=>rfl
 |cons s r ih=>
  obtain⟨c,d,f,g⟩:=b s (by simp);rw[OU (by omega)];rw[List.pairwise_cons]at a;refine ih (λt ht=> ?_) a.2;have:=a.1 t ht;have:=b t (by simp[ht]);exact⟨by omega,this.2⟩
theorem kJ.range{a b:Int}{L:List Sp}(h:kJ a b fA L):kP 0 1114111 L=true:=by
 have d:=h.len rfl;unfold kP;rw[aEk (λs c=>by have:=h.one s c;have:=ZE _ this.2;omega) h.ord];simp;omega
theorem kJ.out{a b:Int}{L:List Sp}(h:kJ a b fA L):nS L=true:=by
 have:∀M:List Sp,(∀s∈M,s∈L)->nS M=true:=by
  intro M c
  induction M with
  |nil=>rfl
  |cons s r ih=>
   have d:=h.one s (c s (by simp));rw[nS,ih λt ht=>c t (by simp[ht])];unfold outsideB;rw[<- d.1,aG0 _ d.2];rfl
 exact this L λ_ h=>h
theorem kJ.none{a b:Int}{pre:List Int}{L:List Sp}(h:kJ a b pre L){c:Int}(d:c∉pre):fB L c=0:=
 ES λs hs⟨h1,h2⟩=>by
  have:=h.one s hs;exact d (by rw[show c=s.lo from by omega];exact this.2)
theorem Qe(r:List Int){vs:List Int}(h:0<vs.length):fK r vs∈vs:=by
 unfold fK;by_cases a:0<aT 3 r
 .rw[if_pos a,getD_lt _ _ _ h];exact List.getElem_mem _
 .rw[if_neg a];have:=fZ r.tail (n:=(vs.length:Int)) (by omega);rw[getD_lt _ _ _ (by omega)];exact List.getElem_mem _
theorem Dv(r:List Int){vs:List Int}(b:Int)(h:0<vs.length)(a:∀x∈vs,x<=b):fK r vs<=b:=a _ (Qe r h)
theorem usV_bd:∀c∈fA,(usV c).cat<=8/\(usV c).cls<=254/\(usV c).dI<=5/\(usV c).bW<=11/\(usV c).scr<=60/\(usV c).bf<=4/\(usV c).bf≠3:=by decide
theorem aHT(a:Bool)(c:Int)(l:c∈fA)(r:List Int):let u:=(uT a c r).1;u.cat<=8/\u.cls<=254/\u.dI<=5/\u.bW<=11/\u.scr<=60/\u.bf<=4/\u.bf≠3:=by
 obtain⟨b,d,f,g,h,i,j⟩:=usV_bd c l;unfold uT;cases a
 .exact⟨b,d,f,g,h,i,j⟩
 .simp only[if_pos,RG];refine⟨Dv _ _ (by simp) ?_,Dv _ _ (by simp) ?_,Dv _ _ (by simp) ?_,Dv _ _ (by simp) ?_,Dv _ _ (by simp) ?_,?_⟩
  iterate 5
   .intro x k;simp only[List.mem_cons,List.not_mem_nil,or_false]at k;omega
  .have:=Qe (bK (bK (bK (bK (bK r))))) (vs:=[(usV c).bf,0,1,2,4]) (by simp);simp only[List.mem_cons,List.not_mem_nil,or_false]at this;omega
structure IQ(pre:List Int)(C:kG):Prop where
 cat:kJ 1 8 pre C.cat
 cls:kJ 1 254 pre C.cls
 dI:kJ 1 5 pre C.dI
 bW:kJ 1 11 pre C.bW
 scr:kJ 1 60 pre C.scr
 bM:kJ 1 1 pre C.bM
 len:C.bf.length=pre.length
 bf:∀x∈C.bf,x<=4/\x≠3
theorem IQ.step{pre:List Int}{C:kG}(h:IQ pre C)(a:Bool)(c:Int)(n:c∈fA)(b:∀x∈pre,x<c)(r:List Int):IQ (pre++[c]) (xZ a c C r).1:=by
 obtain⟨f,g,i,j,k,l,m⟩:=aHT a c n r;unfold xZ;refine⟨h.cat.add b (by omega) f,h.cls.add b (by omega) g,h.dI.add b (by omega) i,h.bW.add b (by omega) j,h.scr.add b (by omega) k,?_,by simp[h.len],?_⟩
 .simp only;split
  .exact h.bM.snoc b (by omega) (by omega)
  .exact h.bM.pre c
 .intro x d;simp only[List.mem_append,List.mem_singleton]at d;rcases d with d|rfl
  .exact h.bf x d
  .exact⟨l,m⟩
structure Keys(pre:List Int)(L:List Mp):Prop where
 mem:∀m∈L,m.lo∈pre
 ord:L.Pairwise λs t=>s.lo<t.lo
theorem Keys.snoc{pre:List Int}{L:List Mp}(h:Keys pre L){m:Mp}(b:∀x∈pre,x<m.lo):Keys (pre++[m.lo]) (L++[m]):=by
 refine⟨λs a=> ?_,?_⟩
 .rw[List.mem_append,List.mem_singleton]at a;rcases a with a|rfl
  .simp[h.mem s a]
  .simp
 .rw[List.pairwise_append];refine⟨h.ord,List.pairwise_singleton _ _,λs a t ht=> ?_⟩;rw[List.mem_singleton]at ht;subst ht;exact b _ (h.mem s a)
theorem Keys.pre{pre:List Int}{L:List Mp}(h:Keys pre L)(c:Int):Keys (pre++[c]) L:=⟨λm a=>by simp[h.mem m a],h.ord⟩
theorem Keys.len{pre:List Int}{L:List Mp}(h:Keys pre L):L.length<=pre.length:=by
 have c:(L.map Mp.lo).Nodup:=by
  rw[List.nodup_iff_pairwise_ne,List.pairwise_map];exact h.ord.imp λd e=>by omega
 have a:(L.map Mp.lo) ⊆ pre:=by
  intro x b;rw[List.mem_map]at b;obtain⟨s,a,rfl⟩:=b;exact h.mem s a
 have:=c.length_le_of_subset a;simpa using this
theorem Keys.none{pre:List Int}{L:List Mp}(h:Keys pre L){c:Int}(b:c∉pre):aJ L c=[]:=
 Bf λs a e=>b (by rw[<- e];exact h.mem s a)
theorem YI{L:List Mp}{c:Int}(h:aJ L c≠[]):∃m∈L,m.lo=c/\aJ L c=m.to:=by
 induction L with
 |nil=>exact absurd rfl h
 |cons m r ih=>
  rw[aJ]at h |-;by_cases a:m.lo=c
  .rw[if_pos a];exact⟨m,by simp,a,rfl⟩
  .rw[if_neg a]at h |-;obtain⟨b,d,f⟩:=ih h;exact⟨b,by simp[d],f⟩
def BD:List Int:=[7680,7681,7682,7683,7684]
structure xM(k:Nat)(D:qh):Prop where
 keys:∀m∈D.dec,7680<=m.lo/\m.lo<7680+k
 ord:D.dec.Pairwise λs t=>s.lo<t.lo
 to:∀m∈D.dec,∃a,(a=97\/a=98\/7680<=a/\a<m.lo)/\(m.to=[a]\/∃b∈yV,m.to=[a,b])
 exc:∀x∈D.exc,∃m∈D.dec,m.lo=x
 Kq:D.exc.Pairwise (· < ·)
 uniq:D.dec.Pairwise λs t=>t.lo∉D.exc->s.to≠t.to
theorem ZO(k:Nat)(r:List Int):(qW k r).1=97\/(qW k r).1=98\/7680<=(qW k r).1/\(qW k r).1<7680+k:=by
 have a:=fZ r (n:=2) (by omega);unfold qW;split
 .simp only;omega
 .split
  .have:=fZ r.tail.tail (n:=(k:Int)) (by omega);simp only;omega
  .simp only;omega
theorem ZP(k:Nat)(r:List Int):∃a,(a=97\/a=98\/7680<=a/\a<7680+(k:Int))/\((uI k r).1=[a]\/∃b∈yV,(uI k r).1=[a,b]):=by
 refine⟨(qW k r).1,ZO k r,?_⟩;unfold uI;split
 .right;have c:=fZ (qW k r).2.tail (n:=5) (by omega);refine⟨_,?_,rfl⟩;rw[getD_lt _ _ _ (by simp[yV];omega)];exact List.getElem_mem _
 .left;rfl
theorem XL{a:List Int}{b:Bool}{L:List Mp}(h:vP a b L=false):∀m∈L,m.to≠a:=by
 induction L generalizing b with
 |nil=>intro m g;cases g
 |cons m r ih=>
  rw[vP]at h;have i:∀f:List Mp,vP a true f=true:=by
   intro f
   induction f with
   |nil=>rfl
   |cons x y ihy=>rw[vP,Bool.true_or,ihy]
  have c:jA m.to a=false:=by
   cases c:jA m.to a
   .rfl
   .rw[c,Bool.or_true,i]at h;cases h
  intro x d;rw[List.mem_cons]at d;rcases d with rfl|d
  .intro e;rw[(VU _ _).2 e]at c;cases c
  .exact ih h x d
theorem xM.mono{k:Nat}{D:qh}(h:xM k D):xM (k+1) D:=
 ⟨λm a=>by have:=h.keys m a;omega,h.ord,h.to,h.exc,h.Kq,h.uniq⟩
theorem xM.step{k:Nat}{D:qh}(h:xM k D)(r:List Int):xM (k+1) (stepD k D r).1:=by
 unfold stepD;split
 .exact h.mono
 .obtain⟨a,q,l⟩:=ZP k r.tail;generalize w:uI k r.tail=s at*;have n:∀x∈D.exc,x<7680+(k:Int):=by
   intro x i;obtain⟨m,c,rfl⟩:=h.exc x i;exact(h.keys m c).2
  have f:∀m∈D.dec++[(⟨7680+k,s.1⟩:Mp)],7680<=m.lo/\m.lo<7680+((k+1:Nat):Int):=by
   intro m c;rw[List.mem_append,List.mem_singleton]at c;rcases c with c|rfl
   .have:=h.keys m c;omega
   .simp only;omega
  have j:(D.dec++[(⟨7680+k,s.1⟩:Mp)]).Pairwise λs t=>s.lo<t.lo:=by
   rw[List.pairwise_append];refine⟨h.ord,List.pairwise_singleton _ _,λm c t ht=> ?_⟩;rw[List.mem_singleton]at ht;subst ht;exact(h.keys m c).2
  have p:∀m∈D.dec++[(⟨7680+k,s.1⟩:Mp)],∃a,(a=97\/a=98\/7680<=a/\a<m.lo)/\(m.to=[a]\/∃b∈yV,m.to=[a,b]):=by
   intro m c;rw[List.mem_append,List.mem_singleton]at c;rcases c with c|rfl
   .exact h.to m c
   .exact⟨a,q,l⟩
  cases ht:vP s.1 (aT 6 s.2==0) D.dec
  .simp only[Bool.false_eq_true,if_false];refine⟨f,j,p,λx i=> ?_,h.Kq,?_⟩
   .obtain⟨m,c,e⟩:=h.exc x i;exact⟨m,by simp[c],e⟩
   .rw[List.pairwise_append];refine⟨h.uniq,List.pairwise_singleton _ _,λm c t d=> ?_⟩;rw[List.mem_singleton]at d;subst d;exact λ_=>XL ht m c
  .simp only[if_true];refine⟨f,j,p,λx i=> ?_,?_,?_⟩
   .rw[List.mem_append,List.mem_singleton]at i;rcases i with i|rfl
    .obtain⟨m,c,e⟩:=h.exc x i;exact⟨m,by simp[c],e⟩
    .exact⟨⟨7680+(k:Int),s.1⟩,by simp,rfl⟩
   .rw[List.pairwise_append];refine⟨h.Kq,List.pairwise_singleton _ _,λx i t d=> ?_⟩;rw[List.mem_singleton]at d;subst d;exact n x i
   .rw[List.pairwise_append];refine⟨?_,List.pairwise_singleton _ _,λm c t d=> ?_⟩
    .exact h.uniq.imp λ{s t}g o=>g λc=>o (by simp[c])
    .rw[List.mem_singleton]at d;subst d;exact λo=>absurd (by simp) o
section
variable {D:qh} (h:xM 5 D)
include h
theorem xM.BD:Keys BD D.dec:=⟨λm a=>by have:=h.keys m a;simp only[Go.Proofs.YtlmkgaoakcjlnaaGreatDoor.BD,List.mem_cons,List.not_mem_nil,or_false];omega,h.ord⟩
theorem xM.none_{c:Int}(a:c<7680\/7684<c):aJ D.dec c=[]:=h.BD.none (by simp only[Go.Proofs.YtlmkgaoakcjlnaaGreatDoor.BD,List.mem_cons,List.not_mem_nil,or_false];omega)
omit h in
theorem aFd:∀b∈yV,b<7680:=by decide
theorem xM.size(n:Nat)(c:Int)(G:(D.dec.filter λm=>decide (m.lo<=c)).length<=n):dQ D.dec n c<=(D.dec.filter λm=>decide (m.lo<=c)).length+1:=by
 induction n generalizing c with
 |zero=>
  have w:(D.dec.filter λm=>decide (m.lo<=c))=[]:=List.eq_nil_of_length_eq_zero (by omega);have:aJ D.dec c=[]:=Bf λm f e=>by
   have:m∈D.dec.filter λm=>decide (m.lo<=c):=by rw[List.mem_filter];exact⟨f,by simp[e]⟩
   rw[w]at this;cases this
  rw[dQ,if_pos this];omega
 |succ n ih=>
  rw[dQ];by_cases l:aJ D.dec c=[]
  .rw[if_pos l];omega
  .rw[if_neg l];obtain⟨m,f,rfl,e⟩:=YI l;obtain⟨a,s,g⟩:=h.to m f;have z:(D.dec.filter λx=>decide (x.lo<=m.lo)).length<=5:=Nat.le_trans (List.length_filter_le _ _) h.BD.len;have A:dQ D.dec n a+1<=(D.dec.filter λx=>decide (x.lo<=m.lo)).length+1:=by
    have t:0<(D.dec.filter λx=>decide (x.lo<=m.lo)).length:=List.length_pos_of_mem (List.mem_filter.2 ⟨f,by simp⟩);rcases s with rfl|rfl|s
    .have B:dQ D.dec n 97=1:=(by cases n<;>rw[dQ,if_pos (h.none_ (by omega))]);omega
    .have B:dQ D.dec n 98=1:=(by cases n<;>rw[dQ,if_pos (h.none_ (by omega))]);omega
    .have C:(D.dec.filter λx=>decide (x.lo<=a)).length+1<=(D.dec.filter λx=>decide (x.lo<=m.lo)).length:=by
      have i:((D.dec.filter λx=>decide (x.lo<=a))++[m]).Sublist (D.dec.filter λx=>decide (x.lo<=m.lo)):=by
       have d:=h.ord;generalize D.dec=L at f d |-
       induction L with
       |nil=>cases f
       |cons x r ihr=>
        rw[List.pairwise_cons]at d;rw[List.mem_cons]at f;rcases f with rfl|f
        .have E:(m::r).filter (λx=>decide (x.lo<=a))=[]:=by
          rw[List.filter_eq_nil_iff];intro y k;rw[List.mem_cons]at k;rcases k with rfl|k
          .simp;omega
          .have:=d.1 y k;simp;omega
         rw[E,List.nil_append,List.filter_cons_of_pos (by simp)];exact List.singleton_sublist.2 (by simp)
        .have:=d.1 m f;rw[List.filter_cons_of_pos (p:=λx:Mp=>decide (x.lo<=m.lo)) (a:=x) (by simp;omega)];by_cases F:x.lo<=a
         .rw[List.filter_cons_of_pos (by simp[F]),List.cons_append];exact(ihr f d.2).cons_cons x
         .rw[List.filter_cons_of_neg (by simp;omega)];exact(ihr f d.2).cons x
      have:=i.length_le;simpa using this
     have:=ih a (by omega);omega
   rw[e];have j:∀b∈yV,dQ D.dec n b=1:=by
    intro b o;have q:aJ D.dec b=[]:=h.none_ (.inl (aFd b o));cases n<;>rw[dQ,if_pos q]
   rcases g with g|⟨b,o,g⟩
   .rw[g];simp only[szL];rw[if_neg (by omega)];omega
   .rw[g];simp only[szL];rw[j b o,if_neg (by omega),if_neg (by omega)];omega
end
structure xQ(pre:List Int)(M:Mps):Prop where
 bf:kJ 1 4 pre M.bf
 keys:Keys pre M.mps
 to:∀m∈M.mps,∃a,97<=a/\a<=99/\(m.to=[a]\/m.to=[a,46])
 map:∀m∈M.mps,⟨m.lo,m.lo,3⟩∈M.bf
 sum:∀n,nN n M.bf=n+M.mps.length
theorem NM(n:Int)(L:List Sp)(s:Sp):nN n (L++[s])=if s.val=3 then nN n L+(s.hi - s.lo+1)else nN n L:=by
 induction L generalizing n with
 |nil=>simp[nN]
 |cons t r ih=>rw[List.cons_append,nN,nN,ih]
theorem xQ.plain{pre:List Int}{M:Mps}(h:xQ pre M){c a:Int}(d:∀x∈pre,x<c)(f:a<=4)(g:a≠3):xQ (pre++[c]) ⟨M.mps,iZ M.bf c c a⟩:=by
 refine⟨h.bf.add d (by omega) f,h.keys.pre c,h.to,λm b=> ?_,λn=> ?_⟩
 .have:=h.map m b;unfold iZ;split
  .simp[this]
  .exact this
 .unfold iZ;split
  .simp only;rw[NM,if_neg g];exact h.sum n
  .exact h.sum n
theorem xQ.mapped{pre:List Int}{M:Mps}(h:xQ pre M){c:Int}(g:∀x∈pre,x<c){b:List Int}(ht:∃a,97<=a/\a<=99/\(b=[a]\/b=[a,46])):xQ (pre++[c]) ⟨M.mps++[⟨c,b⟩],iZ M.bf c c 3⟩:=by
 have f:kJ 1 4 (pre++[c]) (iZ M.bf c c 3):=h.bf.add g (by omega) (by omega);refine⟨f,h.keys.snoc (m:=⟨c,b⟩) g,λm d=> ?_,λm d=> ?_,λn=> ?_⟩
 .rw[List.mem_append,List.mem_singleton]at d;rcases d with d|rfl
  .exact h.to m d
  .exact ht
 .rw[List.mem_append,List.mem_singleton]at d;rw[iZ,if_pos (by omega),List.mem_append,List.mem_singleton];rcases d with d|rfl
  .exact .inl (h.map m d)
  .exact .inr rfl
 .simp only[iZ];rw[if_pos (by omega),NM,if_pos rfl,h.sum n];simp;omega
theorem aFb(r:List Int):∃a,97<=a/\a<=99/\((oO r).1=[a]\/(oO r).1=[a,46]):=by
 have h:=fZ r (n:=3) (by omega);refine⟨97+aT 3 r,by omega,by omega,?_⟩;unfold oO;split
 .exact .inr rfl
 .exact .inl rfl
theorem xQ.step{pre:List Int}{M:Mps}(h:xQ pre M){c a:Int}(b:∀x∈pre,x<c)(d:a<=4)(f:a≠3)(r:List Int):xQ (pre++[c]) (stepM c a M r).1:=by
 unfold stepM;split
 .split
  .exact h.mapped b (aFb _)
  .exact h.plain b d f
 .exact h.plain b d f
structure aVx(bM:List Sp)(P:List Mp):Prop where
 sub:∃Q:List Mp,P.Sublist Q/\Q=jW
 bM:∀m∈P,fB bM m.lo≠1/\fB bM (mZ m.to)≠1
theorem Jc(c:Int)(w:World):Calls prog 141 #[.int .i64 c] w λe w'=>e= .returned (.bool (aY c))/\w=w':=by
 go_enter func141,ntmps141;go_wp2
 all_goals(go_ret;refine⟨aO ?_,rfl⟩;(first|(simp[aY, *];done)|(rw[Bool.eq_iff_iff];simp[aY];omega)|(simp[aY, *];omega)))
theorem xJ(c:Int)(w:World):Calls prog 206 #[.int .i64 c] w λe w'=>e= .returned (.int .i64 (utfLen c))/\w=w':=by
 cases a:aY c
 .have H:=ah a;clear a;go_enter func206,ntmps206;go_wp2_with(go_at_call 141;refine(Jc _ _).mono ?_;rintro e w'⟨rfl,rfl⟩;rw[H.out])
  all_goals(go_ret;refine⟨aU ?_,rfl⟩;simp[utfLen,H.out])
 .have H:=ah a;clear a;go_enter func206,ntmps206;go_wp2_with(go_at_call 141;refine(Jc _ _).mono ?_;rintro e w'⟨rfl,rfl⟩;rw[H.out])
  all_goals(go_ret;refine⟨aU ?_,rfl⟩;simp[utfLen,H.out];try omega)
theorem EK(c:Int)(w:World):Calls prog 214 #[.int .i64 c] w λe w'=>e= .returned (.bool (bg c))/\w=w':=by
 go_enter func214,ntmps214;go_wp2
 all_goals(go_ret;refine⟨aO ?_,rfl⟩;(first|(simp[bg, *];done)|(rw[Bool.eq_iff_iff];simp[bg];omega)|(simp[bg, *];omega)))
theorem J6(c:Int)(w:World):Calls prog 215 #[.int .i64 c] w λe w'=>e= .returned (.bool (dJ c))/\w=w':=by
 go_enter func215,ntmps215;go_wp2
 all_goals(go_ret;refine⟨aO ?_,rfl⟩;(first|(simp[dJ, *];done)|(rw[Bool.eq_iff_iff];simp[dJ];omega)|(simp[dJ, *];omega)))
theorem XH(c:Int)(w:World):Calls prog 288 #[.int .i64 c] w λe w'=>e= .returned (.bool (rE c))/\w=w':=by
 go_enter func288,ntmps288;go_wp2
 all_goals(go_ret;refine⟨aO ?_,rfl⟩;(first|(simp[rE, *];done)|(rw[Bool.eq_iff_iff];simp[rE];omega)|(simp[rE, *];omega)))
theorem aD7(c:Int)(w:World):Calls prog 212 #[.int .i64 c] w λe w'=>e= .returned (.bool (nameB c))/\w=w':=by
 go_enter func212,ntmps212;go_wp2
 all_goals(go_ret;refine⟨aO ?_,rfl⟩;(first|(simp[nameB, *];done)|(rw[Bool.eq_iff_iff];simp[nameB];omega)|(simp[nameB, *];omega)))
theorem Ij(c:Int)(w:World):Calls prog 265 #[.int .i64 c] w λe w'=>e= .returned (.bool (fD c))/\w=w':=by
 have H:Hid (fD c=(decide (0<=c)&&decide (c<=127)||rE c||bg c||dJ c)):=rfl;go_enter func265,ntmps265
 go_wp2_with(first
  |(go_at_call 288;refine(XH _ _).mono ?_;rintro e w'⟨rfl,rfl⟩;cases a:rE c)
  |(go_at_call 214;refine(EK _ _).mono ?_;rintro e w'⟨rfl,rfl⟩;cases b:bg c)
  |(go_at_call 215;refine(J6 _ _).mono ?_;rintro e w'⟨rfl,rfl⟩;cases d:dJ c))
 all_goals(go_ret;refine⟨aO ?_,rfl⟩;rw[H.out];(first|(simp[*];done)|(simp[*];omega)))
theorem OB(last c:Int)(w:World):Calls prog 211 #[.int .i64 last,.int .i64 c] w λe w'=>e= .returned (.bool (vT last c))/\w=w':=by
 have H:Hid (vT last c=(decide (last<c)&&decide (c<=1114111)&& !fD c)):=rfl;go_enter func211,ntmps211;go_wp2_with(go_at_call 265;refine(Ij _ _).mono ?_;rintro e w'⟨rfl,rfl⟩;cases a:fD c)
 all_goals(go_ret;refine⟨aO ?_,rfl⟩;rw[H.out];(first|(simp[*];done)|(simp[*];omega)))
theorem Yc(A:Option Addr)(n c:Nat)(l:List Sp)(f g:Int)(w:World)(h:bP w ⟨A,n,c⟩ l):
 Calls prog 209 #[.slice A n c,.int .i64 f,.int .i64 g] w λe w'=>e= .returned (.bool (kP f g l))/\Ext w w':=by
 obtain⟨p,q,r⟩:=h.len;subst p;go_enter func209,ntmps209;go_wp2;go_loopw[7,12] (λs i wr=>∃(k:Nat)(last:Int),k<=l.length/\i= .int .i64 k/\s= .int .i64 last/\Hid (kP f g l=(chain f g last (l.drop k)&&decide ((l.length:Int)<=256)))/\Ext w wr) (λ_ i _=>l.length - (intOf i).toNat);exact⟨0,-1,Nat.zero_le _,rfl,rfl,rfl,Ext.refl _⟩;obtain⟨k,last,D,rfl,rfl,j,d⟩:=hrel;by_cases a:k<l.length
 .obtain⟨b,o,t,y,z,B⟩:=(bP.ext h d).at_ a;subst t;have m:=ah (drop_at l k a);generalize l[k]=x at*;obtain⟨E,C,F⟩:=x;simp only at y z B;go_wp2
  all_goals first
   |(go_ret;exact⟨aO (by rw[j.out,m.out,aEj (by simp only;omega)];rfl),d.aC _⟩)
   |(go_roundw
     case rel=>exact⟨k+1,C,by omega,by go_num,rfl,aI j (by rw[m.out,OU (by simp only;omega)]),d.aC _⟩
     case measure=>simp[intOf];omega)
 .go_wp2;go_ret;exact⟨aO (by rw[j.out,bQ l k (by omega)];simp[chain]),d⟩
theorem Y9(a d val:Int)(w:World)(H:Glob w):
 Calls prog 210 #[.agg #[.int .i64 a,.int .i64 d,.int .i64 val]] w λe w'=>e= .returned (.bool (outsideB ⟨a,d,val⟩))/\Ext w w':=by
 obtain⟨A,n,c,p,g⟩:=H;have s:=bD (w':=w.alloc (.cells #[.int .i64 a,.int .i64 d,.int .i64 val] 70)) (bH ((Ext.refl w).aC _)) p;have t:Hid (outsideB ⟨a,d,val⟩=pY a d vS):=rfl;have h:vS.length=6:=rfl;generalize vS=l at*;obtain⟨y,z,B⟩:=g.len;subst y;have C:=ah h;clear h;go_enter func210,ntmps210;go_wp2;go_loopw[7] (λi wr=>∃(k:Nat),k<=l.length/\i= .int .i64 k/\Hid (outsideB ⟨a,d,val⟩=pY a d (l.drop k))/\Ext (w.alloc (.cells #[.int .i64 a,.int .i64 d,.int .i64 val] 70)) wr) (λi _=>l.length - (intOf i).toNat);exact⟨0,Nat.zero_le _,rfl,t,Ext.refl _⟩;obtain⟨k,I,rfl,q,m⟩:=hrel;have f:Ext w wr:=((Ext.refl w).aC _).trans' m;obtain⟨J,K⟩:=vZ m;by_cases j:k<l.length
 .obtain⟨b,o,D,E,F,G⟩:=(bP.ext g f).at_ j;subst D;have r:=ah (drop_at l k j);generalize l[k]=x at*;obtain⟨L,M,N⟩:=x;simp only at E F G;have O:w.heap.size<wr.heap.size:=by have:=m.b.size;simp at this;omega
  go_wp2
  all_goals first
   |(go_ret;exact⟨aO (by rw[q.out,r.out,zZ (by simp only;omega)]),f.aC _⟩)
   |(go_roundw
     case rel=>exact⟨k+1,by omega,by go_num,aI q (by rw[r.out,zX (by simp only;omega)]),m.aC _⟩
     case measure=>simp[intOf];omega)
 .go_wp2;go_ret;exact⟨aO (by rw[q.out,bQ l k (by omega)];simp[pY]),f⟩
theorem IE(f:FuncId)(d:Array Value)(n:Nat)(p:Nat->Bool)(w:World)(F:n<=4611686018427387904)
 (q:∀args w,(callFunc f args).run prog w= .ok (.enter f args) w)
 (t:∀i,i<n->∀w',Ext w w'->Calls prog f (#[.int .i64 i]++d) w' λe w''=>e= .returned (.bool (p i))/\Ext w' w''):
 Calls prog 66 #[.int .i64 n,.func (.func f) #[] d] w λe w'=>∃i:Nat,e= .returned (.int .i64 i)/\i<=n/\(i<n->p i=true)/\(0<i->p (i - 1)=false)/\Ext w w':=by
 have x:=ah t;clear t;go_enter func66,ntmps66;go_wp2;go_loopw[5,6] (λa b wr=>∃(i j:Nat),i<=j/\j<=n/\a= .int .i64 i/\b= .int .i64 j/\Hid (j<n->p j=true)/\Hid (0<i->p (i - 1)=false)/\Ext w wr) (λa b _=>(intOf b).toNat - (intOf a).toNat);exact⟨0,n,Nat.zero_le _,Nat.le_refl _,rfl,rfl,λh=>absurd h (by omega),λh=>absurd h (by omega),Ext.refl _⟩;obtain⟨i,j,y,z,rfl,rfl,r,s,k⟩:=hrel;by_cases A:i<j
 .go_wp2;obtain⟨m,B⟩:∃m:Nat,m=(i+j) / 2:=⟨_,rfl⟩;rw[show((i:Int)+j) / 2=(m:Int)from by omega];have C:i<=m:=by omega
  have D:m<j:=by omega
  clear B;refine(x.out m (by omega) wr k).mono ?_;rintro e E⟨rfl,l⟩;have g:=k.trans' l;cases c:p m
  .have o:=ah c;clear c;go_wp2;go_roundw;exact⟨m+1,j,by omega,z,by go_num,rfl,r,λ_=>by simpa using o.out,g⟩;simp[intOf];omega
  .have o:=ah c;clear c;go_wp2;go_roundw;exact⟨i,m,by omega,by omega,rfl,rfl,λ_=>o.out,s,g⟩;simp[intOf];omega
 .go_wp2;go_ret;exact⟨i,rfl,by omega,λh=>r.out (by omega)▸(by rw[show i=j from by omega]),s.out,k⟩
theorem YV(l:List Sp)(A:Option Addr)(n a:Nat)(i:Nat)(c:Int)(d f:Addr)(w:World)(r:i<l.length)
 (s:w.cell? d=some (.slice A n a)) (t:w.cell? f=some (.int .i64 c)) (g:bP w ⟨A,n,a⟩ l):
 Calls prog 290 (#[.int .i64 i]++ #[.pointer (some d),.pointer (some f)]) w λe w'=>e= .returned (.bool (decide (c<=l[i].hi)))/\Ext w w':=by
 obtain⟨h,j,k⟩:=g.len;subst h;obtain⟨b,o,m,x,y,B⟩:=g.at_ r;subst m;have p:=z0' i;have q:(i:Int)<(l.length:Int):=by omega
 generalize l[i].hi=z at*;go_enter func290,ntmps290;go_wp2;go_quiet (fail);go_wp2;go_ret;exact⟨rfl,(Ext.refl _).lG _⟩
theorem F6(l:List Sp)(A:Option Addr)(n f:Nat)(c:Int)(w:World)(t:bP w ⟨A,n,f⟩ l)(g:wL l)(y:l.length<=256):
 Calls prog 271 #[.slice A n f,.int .i64 c] w λe w'=>e= .returned (.int .i64 (fB l c))/\Ext w w':=by
 obtain⟨z,B,C⟩:=t.len;subst z;go_enter func271,ntmps271;go_wp2_with fail;refine(IE 290 _ l.length (λi=>decide (c<=(l.getD i ⟨0,0,0⟩).hi)) _ (by omega) Tryz.call290 ?_).mono ?_
 .intro i p w' j;have a:Ext w w':=(((Ext.refl w).aC _).aC _).trans' j;rw[getD_lt l i _ p];exact YV l A l.length f i c _ _ w' p (bD (bH j) (JO _ _ _ _)) (bD (bH j) (JQ _ _ _ _)) (t.ext a)
 .rintro e D⟨i,rfl,p,q,r,j⟩;have a:Ext w D:=(((Ext.refl w).aC _).aC _).trans' j;have s:=ah (Y0 g (c:=c) p (λh=>by have k:=q h;simp only[getD_lt l i _ h]at k;simpa using k) (λh=>by have k:=r h;simp only[getD_lt l (i - 1) _ (by omega)]at k;simpa using k));obtain⟨J,K⟩:=vZ j.b;clear q r;by_cases d:i<l.length
  .have E:((i:Int)==(l.length:Int))=false:=bF';obtain⟨b,o,F,r,q,G⟩:=(t.ext a).at_ d;subst F;have m:Hid (fB l c=if c<l[i].lo then 0 else l[i].val):=(by have h:=s.out;rw[dif_pos d]at h;exact h);clear s;have H:=z0' i;have I:(i:Int)<(l.length:Int):=(by omega);generalize l[i]=x at*;obtain⟨L,M,N⟩:=x;simp only at r q G m;go_wp2;go_quiet (fail);go_wp2
   .go_ret;exact⟨aU (by rw[m.out,if_pos (by assumption)]),a.lG _⟩
   .go_ret;exact⟨aU (by rw[m.out,if_neg (by omega)]),a.lG _⟩
  .obtain rfl:i=l.length:=by omega
   have m:Hid (fB l c=0):=(by have h:=s.out;rw[dif_neg d]at h;exact h);clear s;go_wp2;go_quiet (fail);go_wp2;go_ret;exact⟨aU (by rw[m.out]),a.lG _⟩
theorem Zk(l:List Mp)(A:Option Addr)(n a:Nat)(i:Nat)(c:Int)(d f:Addr)(w:World)(t:i<l.length)
 (x:w.cell? d=some (.slice A n a)) (y:w.cell? f=some (.int .i64 c)) (g:dA w ⟨A,n,a⟩ l):
 Calls prog 266 (#[.int .i64 i]++ #[.pointer (some d),.pointer (some f)]) w λe w'=>e= .returned (.bool (decide (c<=l[i].lo)))/\Ext w w':=by
 obtain⟨h,j,k⟩:=g.len;subst h;obtain⟨b,o,B,C,D,m,E,p,q⟩:=g.at_ t;subst m;have r:=z0' i;have s:(i:Int)<(l.length:Int):=by omega
 clear p q;generalize l[i].lo=z at*;go_enter func266,ntmps266;go_wp2;go_quiet (fail);go_wp2;go_ret;exact⟨rfl,(Ext.refl _).lG _⟩
theorem IW{l:List Mp}{c:Int}(h:uO l c=false):∀i(hi:i<l.length),l[i].lo≠c:=by
 intro i hi a;simp only[uO,List.any_eq_false,au]at h;exact h l[i] (by simp) a
theorem PD(l:List Mp)(A:Option Addr)(n k:Nat)(c:Int)(w:World)(B:Option Addr)(C D:Nat)(E:dA w ⟨A,n,k⟩ l)(m:vN l)(G:l.length<=256)
 (H:∀i b o(hi:i<l.length),A=some ⟨b,o,none⟩->l[i].lo=c->w.cell? ⟨b,o+i*2+1,none⟩=some (.slice B C D))
 (r:(∀i(hi:i<l.length),l[i].lo≠c)->B=none/\C=0/\D=0):
 Calls prog 217 #[.slice A n k,.int .i64 c] w λe w'=>e= .returned (.slice B C D)/\Ext w w':=by
 obtain⟨I,J,K⟩:=E.len;subst I;have x:=ah H;have d:=ah r;clear H r;go_enter func217,ntmps217;go_wp2_with fail;refine(IE 266 _ l.length (λi=>decide (c<=(l.getD i ⟨0,[]⟩).lo)) _ (by omega) Tryz.call266 ?_).mono ?_
 .intro i hi w' p;have a:Ext w w':=(((Ext.refl w).aC _).aC _).trans' p;rw[getD_lt l i _ hi];exact Zk l A l.length k i c _ _ w' hi (bD (bH p) (JO _ _ _ _)) (bD (bH p) (JQ _ _ _ _)) (E.ext a)
 .rintro e L⟨i,rfl,hi,s,y,p⟩;have a:Ext w L:=(((Ext.refl w).aC _).aC _).trans' p;have t:=ah (XV m (c:=c) hi (λh=>by have q:=s h;simp only[getD_lt l i _ h]at q;simpa using q) (λh=>by have q:=y h;simp only[getD_lt l (i - 1) _ (by omega)]at q;simpa using q)).2;obtain⟨U,V⟩:=vZ p.b;clear s y;by_cases f:i<l.length
  .have M:((i:Int)==(l.length:Int))=false:=bF';obtain⟨b,o,W,X,Y,F,y,s,N⟩:=(E.ext a).at_ f;have g:=ah λh=>bD (bH a) (x.out i b o f F h)
   subst F;have z:Hid (uO l c=decide (l[i].lo=c)):=(by have h:=t.out;rw[dif_pos f]at h;exact h);clear t x N;have O:=z0' i;have P:(i:Int)<(l.length:Int):=(by omega);generalize l[i].lo=xl at*;by_cases j:xl=c
   .subst j;have e:=s.symm.trans (g.out rfl);injection e with e;injection e with Q R S;subst Q R S;clear g z d;go_wp2;go_quiet (fail);go_wp2;go_ret;exact⟨rfl,a.lG _⟩
   .obtain⟨rfl,rfl,rfl⟩:=d.out (IW (by rw[z.out];simpa using j));have T:(xl != c)=true:=bN' j;clear g z d;go_wp2;go_quiet (fail);go_wp2;go_ret;exact⟨rfl,a.lG _⟩
  .obtain rfl:i=l.length:=by omega
   obtain⟨rfl,rfl,rfl⟩:=d.out (IW (by have h:=t.out;rw[dif_neg f]at h;exact h));clear t x d;go_wp2;go_quiet (fail);go_wp2;go_ret;exact⟨rfl,a.lG _⟩
theorem Af(l:List Mp)(A:Option Addr)(n f:Nat)(c:Int)(w:World)(B:dA w ⟨A,n,f⟩ l)(a:vN l)(g:l.length<=256):
 ∃za zn zc,aF w ⟨za,zn,zc⟩ (aJ l c)/\(uO l c=false->za=none/\zn=0/\zc=0)/\
  ∀w',Ext w w'->Calls prog 217 #[.slice A n f,.int .i64 c] w' λe w''=>e= .returned (.slice za zn zc)/\Ext w' w'':=by
 cases x:uO l c
 .have C:=IW x;have D:aJ l c=[]:=Bf λs y=>by
   obtain⟨j,k,rfl⟩:=List.getElem_of_mem y;exact C j k
  refine⟨none,0,0,by rw[D];exact aF.nil_ w,λ_=>⟨rfl,rfl,rfl⟩,λw' t=> ?_⟩;exact PD l A n f c w' none 0 0 (B.ext t) a g (λi b o p _ h=>absurd h (C i p)) λ_=>⟨rfl,rfl,rfl⟩
 .simp only[uO,List.any_eq_true,au]at x;obtain⟨m,y,q⟩:=x;obtain⟨i,p,rfl⟩:=List.getElem_of_mem y;obtain⟨b,o,za,zn,zc,E,K,F,G⟩:=B.at_ p;have t:∀j(k:j<i),l[j].lo<c:=λj k=>by have:=a j i k p;omega
  refine⟨za,zn,zc,by rw[Fa i p q t];exact G,(λh=>by cases h),λw' r=> ?_⟩;refine PD l A n f c w' za zn zc (B.ext r) a g (λj L M k d H=> ?_) λz=>absurd q (z i p)
  obtain rfl:j=i:=by
   rcases Nat.lt_trichotomy j i with h|h|h
   .have:=t j h;omega
   .exact h
   .have:=a i j h k;omega
  rw[E]at d;injection d with d;injection d with I J;subst I J;exact bD (bH r) F
theorem find_spec(l:List Mp)(A:Option Addr)(n a:Nat)(c:Int)(w:World)(k:dA w ⟨A,n,a⟩ l)(b:vN l)(f:Au l)(d:l.length<=256):
 Calls prog 217 #[.slice A n a,.int .i64 c] w λe w'=>∃za zn zc,e= .returned (.slice za zn zc)/\aF w' ⟨za,zn,zc⟩ (aJ l c)/\(aJ l c=[]->za=none/\zc=0)/\Ext w w':=by
 obtain⟨za,zn,zc,g,i,j⟩:=Af l A n a c w k b d;refine(j w (Ext.refl w)).mono λe w'⟨he,hb⟩=>⟨za,zn,zc,he,g.ext hb,λh=> ?_,hb⟩
 have:=i (Bl f h);exact⟨this.1,this.2.2⟩
theorem zV{w:World}{a:Option Addr}{d c:Nat}{l:List Int}(h:aF w ⟨a,d,c⟩ l)(k:l=[]->a=none/\c=0):
 (l=[]/\a=none/\d=0/\c=0)\/∃b o,l≠[]/\a=some ⟨b,o,none⟩:=by
 cases l with
 |nil=>
  obtain⟨f,g⟩:=k rfl;exact .inl ⟨rfl,f,h.len.1,g⟩
 |cons x r=>
  obtain⟨b,o,j,_⟩:=h.at_ (i:=0) (by simp);exact .inr ⟨b,o,by simp,j⟩
theorem Xe(l:List Int)(A:Option Addr)(n a:Nat)(i:Nat)(c:Int)(d f:Addr)(w:World)(r:i<l.length)
 (s:w.cell? d=some (.slice A n a)) (t:w.cell? f=some (.int .i64 c)) (g:aF w ⟨A,n,a⟩ l):
 Calls prog 307 (#[.int .i64 i]++ #[.pointer (some d),.pointer (some f)]) w λe w'=>e= .returned (.bool (decide (c<=l[i])))/\Ext w w':=by
 obtain⟨h,j,k⟩:=g.len;subst h;obtain⟨b,o,m,x⟩:=g.at_ r;subst m;have p:=z0' i;have q:(i:Int)<(l.length:Int):=by omega
 generalize l[i]=z at*;go_enter func307,ntmps307;go_wp2;go_quiet (fail);go_wp2;go_ret;exact⟨rfl,(Ext.refl _).lG _⟩
theorem Xp(l:List Int)(A:Option Addr)(n b:Nat)(c:Int)(w:World)(m:aF w ⟨A,n,b⟩ l)(o:l.length<=256):
 Calls prog 289 #[.slice A n b,.int .i64 c] w λe w'=>∃i:Nat,e= .returned (.int .i64 i)/\i<=l.length/\(∀h:i<l.length,c<=l[i])/\(∀_:0<i,∀_:i - 1<l.length,l[i - 1]<c)/\Ext w w':=by
 obtain⟨p,q,r⟩:=m.len;subst p;go_enter func289,ntmps289;go_wp2_with fail;refine(IE 307 _ l.length (λi=>decide (c<=l.getD i 0)) _ (by omega) Tryz.call307 ?_).mono ?_
 .intro i g w' d;have a:Ext w w':=(((Ext.refl w).aC _).aC _).trans' d;rw[getD_lt l i _ g];exact Xe l A l.length b i c _ _ w' g (bD (bH d) (JO _ _ _ _)) (bD (bH d) (JQ _ _ _ _)) (m.ext a)
 .rintro e s⟨i,rfl,g,j,k,d⟩;have a:Ext w s:=(((Ext.refl w).aC _).aC _).trans' d;have t:Hid (∀h:i<l.length,c<=l[i]):=λh=>by have f:=j h;simp only[getD_lt l i _ h]at f;simpa using f
  have x:Hid (∀_:0<i,∀_:i - 1<l.length,l[i - 1]<c):=λh y=>by have f:=k h;simp only[getD_lt l (i - 1) _ y]at f;simpa using f
  clear j k;go_wp2;go_ret;exact⟨i,rfl,g,t.out,x.out,a⟩
theorem XQ(t:TV)(T:aj)(c:Int)(w:World)(ht:aV w t T)(f:Fg T.exc)(g:T.exc.length<=256):
 Calls prog 267 #[t.v,.int .i64 c] w λe w'=>e= .returned (.bool (jw T.exc c))/\Ext w w':=by
 obtain⟨I,J,K,L,M,N,O,P,Q,R,⟨A,n,s⟩,x⟩:=t;have j:aF w ⟨A,n,s⟩ T.exc:=ht.exc;clear ht;generalize T.exc=l at*;obtain⟨y,B,C⟩:=j.len;subst y;simp only[TV.v];go_enter func267,ntmps267;go_wp2_with fail;refine(Xp l _ _ _ c _ (j.ext ((Ext.refl w).aC _)) g).mono ?_;rintro e D⟨i,rfl,E,p,q,r⟩;have a:Ext w D:=((Ext.refl w).aC _).trans' r;have k:=ah (Y5 f E p λh=>q h (by omega));clear p q;obtain⟨S,U⟩:=vZ r.b;by_cases d:i<l.length
 .obtain⟨b,o,F,j⟩:=(j.ext a).at_ d;subst F;have G:=z0' i;have H:(i:Int)<(l.length:Int):=by omega
  have m:Hid (jw l c=decide (l[i]=c)):=by have h:=k.out;rw[dif_pos d]at h;exact h
  clear k;generalize l[i]=z at*;go_wp2;go_ret;exact⟨aO (by rw[m.out,Bool.eq_iff_iff];simp),a⟩
 .obtain rfl:i=l.length:=by omega
  have m:Hid (jw l c=false):=by have h:=k.out;rw[dif_neg d]at h;exact h
  clear k;go_wp2;go_ret;exact⟨aO (by rw[m.out]),a⟩
def Gn(c:Int):Value:= .agg #[.int .i64 (qB c),.int .i64 (oH c),.int .i64 (uJ c),.int .i64 (qZ c)]
theorem Zl(c:Int)(w:World):Calls prog 270 #[.int .i64 c] w λe w'=>e= .returned (Gn c)/\Ext w w':=by
 go_enter func270,ntmps270
 go_wp2_with(first
  |(go_at_call 214;refine(EK _ _).mono ?_;rintro e w'⟨rfl,rfl⟩;cases a:bg c)
  |(go_at_call 215;refine(J6 _ _).mono ?_;rintro e w'⟨rfl,rfl⟩;cases b:dJ c))
 all_goals(refine bodyPost_ret (v:=Gn c) ?_ rfl ⟨rfl,?_⟩)
 all_goals first
  |(refine Ext.aC (Ext.refl _) _)
  |(simp[results,Tryz.results270,go_sem,Gn]
    try(simp only[beq_iff_eq,aP,ne_eq]at*)
    unfold qB oH uJ qZ
    first
     |omega
     |(repeat(first|rw[if_pos (by first|omega|assumption)]|rw[if_neg (by first|omega|(simp[*];done))])
       simp))
theorem Yj(a b c d:Int)(w:World):Calls prog 310 #[.agg #[.int .i64 a,.int .i64 b,.int .i64 c,.int .i64 d]] w λe w'=>e= .returned (.int .i64 c)/\Ext w w':=by
 go_enter func310,ntmps310;go_wp2;go_ret;exact⟨rfl,(Ext.refl w).aC _⟩
theorem Yo(a b c d:Int)(w:World):Calls prog 222 #[.agg #[.int .i64 a,.int .i64 b,.int .i64 c,.int .i64 d]] w λe w'=>e= .returned (.int .i64 d)/\Ext w w':=by
 go_enter func222,ntmps222;go_wp2;go_ret;exact⟨rfl,(Ext.refl w).aC _⟩
theorem Fv(f:FuncId)(own:Int->Int)(l:List Sp)(A:Option Addr)(n i:Nat)(c:Int)(w:World)(k:bP w ⟨A,n,i⟩ l)(d:wL l)(j:l.length<=256)
 (q:∀args w,(callFunc f args).run prog w= .ok (.enter f args) w)
 (b:∀w,Calls prog f #[Gn c] w λe w'=>e= .returned (.int .i64 (own c))/\Ext w w'):
 Calls prog 221 #[.slice A n i,.int .i64 c,.func (.func f) #[] #[]] w λe w'=>e= .returned (.int .i64 (mM l own c))/\Ext w w':=by
 have t:=ah b;clear b;cases r:utfLen c==0
 .have a:aY c=true:=by
   cases k:aY c
   .have:=(utfLen_eq_zero c).2 k;simp[this]at r
   .rfl
  cases g:fD c
  .have h:Hid (mM l own c=fB l c):=by unfold mM;rw[a,g];rfl
   have m:=ah g;clear g a;go_enter func221,ntmps221
   go_wp2_with(first
    |(go_at_call 206;refine(xJ _ _).mono ?_;rintro e w'⟨rfl,rfl⟩)
    |(go_at_call 265;refine(Ij _ _).mono ?_;rintro e w'⟨rfl,rfl⟩;rw[m.out])
    |(go_at_call 271;refine(F6 l _ _ _ _ _ k d j).mono ?_;rintro e s⟨rfl,o⟩))
   go_ret;exact⟨aU (by rw[h.out]),o⟩
  .have h:Hid (mM l own c=own c):=by unfold mM;rw[a,g];rfl
   have m:=ah g;clear g a;go_enter func221,ntmps221
   go_wp2_with(first
    |(go_at_call 206;refine(xJ _ _).mono ?_;rintro e w'⟨rfl,rfl⟩)
    |(go_at_call 265;refine(Ij _ _).mono ?_;rintro e w'⟨rfl,rfl⟩;rw[m.out])
    |(go_at_call 270;refine(Zl _ _).mono ?_;rintro e s⟨rfl,o⟩))
   refine(t.out s).mono ?_;rintro e x⟨rfl,p⟩;go_wp2;go_ret;exact⟨aU (by rw[h.out]),o.trans' p⟩
 .have h:Hid (mM l own c=0):=by
   have:=(utfLen_eq_zero c).1 (by simpa using r);unfold mM;rw[this];rfl
  go_enter func221,ntmps221
  go_wp2_with(first
   |(go_at_call 206;refine(xJ _ _).mono ?_;rintro e w'⟨rfl,rfl⟩))
  go_ret;exact⟨aU (by rw[h.out]),Ext.refl _⟩
structure fM(T:aj):Prop where
 cat:wL T.cat/\T.cat.length<=256
 cls:wL T.cls/\T.cls.length<=256
 dI:wL T.dI/\T.dI.length<=256
 bW:wL T.bW/\T.bW.length<=256
 scr:wL T.scr/\T.scr.length<=256
 bf:wL T.bf/\T.bf.length<=256
 bM:wL T.bM/\T.bM.length<=256
 ext:vN T.ext/\T.ext.length<=256
 mps:vN T.mps/\T.mps.length<=256
 dec:vN T.dec/\T.dec.length<=256
 exc:Fg T.exc/\T.exc.length<=256
 dZ:vN T.dZ/\T.dZ.length<=256
structure ny(T:aj):Prop where
 ext:Au T.ext
 mps:Au T.mps
 dec:Au T.dec
 dZ:Au T.dZ
theorem iH(t:TV)(T:aj)(c:Int)(w:World)(ht:aV w t T)(a:fM T):
 Calls prog 226 #[t.v,.int .i64 c] w λe w'=>e= .returned (.int .i64 (aH T c))/\Ext w w':=by
 have b:=ht.cls.ext ((Ext.refl w).aC (.cells t.v.cells 26));go_enter func226,ntmps226;go_wp2_with(go_at_call 271;refine(F6 T.cls _ _ _ _ _ b a.cls.1 a.cls.2).mono ?_;rintro e f⟨rfl,d⟩);go_ret;exact⟨rfl,((Ext.refl w).aC _).trans' d⟩
theorem Ir(t:TV)(T:aj)(c:Int)(w:World)(ht:aV w t T)(a:fM T):
 Calls prog 309 #[t.v,.int .i64 c] w λe w'=>e= .returned (.int .i64 (jQ T c))/\Ext w w':=by
 have b:=ht.dI.ext ((Ext.refl w).aC (.cells t.v.cells 26));go_enter func309,ntmps309;go_wp2_with(go_at_call 271;refine(F6 T.dI _ _ _ _ _ b a.dI.1 a.dI.2).mono ?_;rintro e f⟨rfl,d⟩);go_ret;exact⟨rfl,((Ext.refl w).aC _).trans' d⟩
theorem Ou(t:TV)(T:aj)(c:Int)(w:World)(ht:aV w t T)(a:fM T):
 Calls prog 242 #[t.v,.int .i64 c] w λe w'=>e= .returned (.bool (um T c))/\Ext w w':=by
 have b:=ht.bM.ext ((Ext.refl w).aC (.cells t.v.cells 26));go_enter func242,ntmps242;go_wp2_with(go_at_call 271;refine(F6 T.bM _ _ _ _ _ b a.bM.1 a.bM.2).mono ?_;rintro e f⟨rfl,d⟩);go_ret;exact⟨rfl,((Ext.refl w).aC _).trans' d⟩
theorem F7(t:TV)(T:aj)(c:Int)(w:World)(ht:aV w t T)(a:fM T):
 Calls prog 153 #[t.v,.int .i64 c] w λe w'=>e= .returned (.int .i64 (dW T c))/\Ext w w':=by
 have b:=ht.bf.ext ((Ext.refl w).aC (.cells t.v.cells 26));go_enter func153,ntmps153;go_wp2_with(go_at_call 221;refine(Fv 222 qZ T.bf _ _ _ _ _ b a.bf.1 a.bf.2 Tryz.call222 (λ_=>Yo _ _ _ _ _)).mono ?_;rintro e f⟨rfl,d⟩);go_ret;exact⟨rfl,((Ext.refl w).aC _).trans' d⟩
theorem ER(t:TV)(T:aj)(c:Int)(w:World)(ht:aV w t T)(a:fM T):
 Calls prog 304 #[t.v,.int .i64 c] w λe w'=>e= .returned (.int .i64 (iY T c))/\Ext w w':=by
 have b:=ht.scr.ext ((Ext.refl w).aC (.cells t.v.cells 26));go_enter func304,ntmps304;go_wp2_with(go_at_call 221;refine(Fv 310 uJ T.scr _ _ _ _ _ b a.scr.1 a.scr.2 Tryz.call310 (λ_=>Yj _ _ _ _ _)).mono ?_;rintro e f⟨rfl,d⟩);go_ret;exact⟨rfl,((Ext.refl w).aC _).trans' d⟩
theorem OA(t:TV)(T:aj)(c:Int)(w:World)(ht:aV w t T)(l:fM T)(q:ny T):
 Calls prog 219 #[t.v,.int .i64 c] w λe w'=>e= .returned (.bool (qV T c))/\Ext w w':=by
 have n:=ht.dec.ext ((Ext.refl w).aC (.cells t.v.cells 26));have h:Hid (qV T c=((aJ T.dec c).isEmpty&& !um T c)):=rfl;go_enter func219,ntmps219;go_wp2_with fail;refine(find_spec T.dec _ _ _ c _ n l.dec.1 q.dec l.dec.2).mono ?_;rintro e p⟨r,s,x,rfl,i,a,m⟩;have d:Ext w p:=((Ext.refl w).aC _).trans' m;obtain⟨y,z⟩:=vZ m.b;rcases zV i a with⟨f,rfl,rfl,rfl⟩|⟨b,o,f,rfl⟩
 .have g:Hid (aJ T.dec c=[]):=f;clear f i a;go_wp2_with fail;refine(Ou t T c _ (ht.aB d) l).mono ?_;rintro e A⟨rfl,j⟩;have k:Hid (qV T c= !um T c):=by rw[h.out,g.out];rfl
  clear h g;go_wp2;go_ret;exact⟨aO (by rw[k.out]),d.trans' j⟩
 .have g:Hid (aJ T.dec c≠[]):=f;clear f i a;have k:Hid (qV T c=false):=by
   rw[h.out];have:(aJ T.dec c).isEmpty=false:=by simpa using g.out
   rw[this];rfl
  clear h g;go_wp2;go_ret;exact⟨aO (by rw[k.out]),d⟩
end Go.Proofs.YtlmkgaoakcjlnaaGreatDoor
