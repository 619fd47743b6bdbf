/- Part Bx01. -/
import Derived.Test.YtlmkgaoakcjlnaaGreatDoorBx00
import Derived.Deep.RegionHeld3
import Derived.Deep.RegionLaw
import Derived.Deep.DrawnRows
import Derived.Deep.AppendLies
import Derived.Outline
open Go.Proofs.Tryz
namespace Go.Proofs.YtlmkgaoakcjlnaaGreatDoor
set_option maxHeartbeats 25600000
set_option maxRecDepth 100000
open Go.RowKit
variable (t:TV)(T:aj)(c:Int)(w:World)
def hide(M:List Nat)(w:World):World:= {w with heap:=w.heap.mapIdx λi o=>if i∈M then .pending #[] 0 else o}
theorem Jy(M:List Nat)(w:World):(hide M w).heap.size=w.heap.size:=by simp[hide]
theorem sD(M:List Nat)(w:World)(p:Addr):(hide M w).cell? p=if p.block∈M then none else w.cell? p:=by
 unfold World.cell? hide;simp only[Array.getElem?_mapIdx];cases h:w.heap[p.block]? with
 |none=>simp
 |some o=>
  by_cases a:p.block∈M
  .simp[a]
  .simp[a]
structure Kp(M:List Nat)(w w':World):Prop where
 os:w'.os=w.os
 tape:w'.tape=w.tape
 output:w'.output=w.output
 size:w.heap.size<=w'.heap.size
 block:∀k,k<w.heap.size->k∉M->w'.heap[k]? =w.heap[k]?
theorem Kp.cell{M:List Nat}{w w':World}(h:Kp M w w'):∀p:Addr,p.block<w.heap.size->p.block∉M->w'.cell? p=w.cell? p:=λ_ a b=>World.cell?_of_block (h.block _ a b)
theorem Kp.frozen{M:List Nat}{w w':World}(h:Kp M w w'):∀p:Addr,p.block<w.heap.size->p.block∉M->w'.frozen? p=w.frozen? p:=λ_ a b=>World.frozen?_of_block (h.block _ a b)
theorem Kp.refl(M:List Nat)(w:World):Kp M w w:=⟨rfl,rfl,rfl,lr' _,λ_ _ _=>rfl⟩
theorem Kp.trans{M:List Nat}{a b c:World}(h:Kp M a b)(k:Kp M b c):Kp M a c:=
 ⟨k.os.trans h.os,k.tape.trans h.tape,k.output.trans h.output,Nat.le_trans h.size k.size,λp d f=>(k.block p (lt' d h.size) f).trans (h.block p d f)⟩
theorem Kp.mono{M M':List Nat}{w w':World}(h:Kp M w w')(f:∀b∈M,b∈M'\/w.heap.size<=b):Kp M' w w':=
 ⟨h.os,h.tape,h.output,h.size,λp a c=>h.block p a λd=>(f _ d).elim c (λh=>by omega)⟩
theorem Kp.bY{M:List Nat}{w w':World}(h:Ext w w'):Kp M w w':=⟨h.b.os,h.b.tape,h.b.output,h.b.size,λ_ a _=>h.b.block _ a⟩
theorem Kp.nC{M:List Nat}{w w':World}{row:Option Nat}(h:w.grownBy w' row)(d:∀b,row=some b->b∈M):Kp M w w':=
 ⟨h.os,h.tape,h.output,h.size,λk a c=>h.block k a λe=>c (d _ e.symm)⟩
theorem Kp.setCell(M:List Nat)(w:World)(p:Addr)(v:Value)(c:p.block∈M):Kp M w (w.setCell p v):=by
 refine⟨rfl,rfl,rfl,by simp,λk _ b=>?_⟩;have a:p.block≠k:=λe=>b (e▸c)
 simp[World.setCell,Array.getElem?_modify,a]
theorem Own.kp{M:List Nat}{w w':World}{f n c:Nat}{e:TypeId}{size:Nat}{A:Option Addr}{o:List Value}(h:Own w f e size A n c o)(s:Kp M w w')(t:∀b,aG A=some b->b∉M):Own w' f e size A n c o:=by
 cases A with
 |none=>
  rcases h.2 with k|⟨g,i,j,d,_⟩
  .exact⟨h.1,.inl k⟩
  .cases d
 |some a=>
  have l:=(h.lt a.block rfl).2;have p:=s.block a.block l (t _ rfl);rcases h.2 with⟨d,_⟩|⟨g,i,j,d,q,k,r⟩
  .cases d
  .have m:a.block=g:=by injection d with d;injection d with d;rw[d]
   refine⟨h.1,.inr ⟨g,i,j,d,q,?_,r⟩⟩;rw[<- m,p,m];exact k
theorem zF{M M':List Nat}{w w':World}(h:Kp M w w')(f:∀b∈M,b∈M')(g:∀b∈M',b∈M\/w.heap.size<=b):∀p:Addr,p.block<(hide M w).heap.size->(hide M' w').cell? p=(hide M w).cell? p:=by
 intro p c;rw[Jy]at c;rw[sD,sD];by_cases a:p.block∈M
 .rw[pP' a,pP' (f _ a)]
 .rw[nN' a,nN' (λd=>(g _ d).elim a (λh=>by omega)),h.cell p c a]
theorem gy{M:List Nat}{w w':World}(h:Kp M w w'):∀p:Addr,p.block<(hide M w).heap.size->(hide M w').cell? p=(hide M w).cell? p:=zF h (λ_ h=>h) (λ_ h=>.inl h)
theorem wG{M:List Nat}{w:World}{p:Addr}{v:Value}(h:(hide M w).cell? p=some v):w.cell? p=some v:=by
 rw[sD]at h;by_cases a:p.block∈M
 .rw[pP' a]at h;cases h
 .rw[nN' a]at h;exact h
theorem aF.sub{w w':World}{s:SV}{l:List Int}(h:aF w s l)(f:∀p v,w.cell? p=some v->w'.cell? p=some v):aF w' s l:=
 ⟨h.1,λi x a=>by obtain⟨b,o,c,d⟩:=h.2 i x a;exact⟨b,o,c,f _ _ d⟩⟩
theorem bQ.sub{w w':World}{s:SV}{l:List Sp}(h:bQ w s l)(a:∀p v,w.cell? p=some v->w'.cell? p=some v):bQ w' s l:=
 ⟨h.1,λi x c=>by obtain⟨b,o,d,f,g,j⟩:=h.2 i x c;exact⟨b,o,d,a _ _ f,a _ _ g,a _ _ j⟩⟩
theorem dI.sub{w w':World}{s:SV}{l:List Mp}(h:dI w s l)(a:∀p v,w.cell? p=some v->w'.cell? p=some v):dI w' s l:=
 ⟨h.1,λi x c=>by obtain⟨b,o,d,f,g,j,k,m,n⟩:=h.2 i x c;exact⟨b,o,d,f,g,j,a _ _ k,a _ _ m,n.sub a⟩⟩
def BO(v n:Int):Int:=v % 18446744073709551616 % n
def aT(n:Int):List Int->Int
 |[]=>0
 |v::_=>BO v n
theorem XP(v:Int){n:Int}(h:0<n):0<=BO v n/\BO v n<n:=⟨Int.emod_nonneg _ (by omega),Int.emod_lt_of_pos _ h⟩
theorem gJ(r:List Int){n:Int}(h:0<n):0<=aT n r/\aT n r<n:=by
 cases r with
 |nil=>exact⟨Int.le_refl 0,h⟩
 |cons v r=>exact XP v h
theorem u64wrap(v:Int):IntKind.u64.wrap v=v % 18446744073709551616:=rfl
theorem aIU{v n:Int}(c:0<n)(d:n<=4611686018427387904):wrap64 ((IntKind.u64.wrap v).tmod n)=BO v n:=by
 have a:0<=v % 18446744073709551616:=Int.emod_nonneg _ (by omega);have b:(v % 18446744073709551616).tmod n=BO v n:=Int.tmod_eq_emod_of_nonneg a;rw[u64wrap,b];have:=XP v c;unfold wrap64;omega
theorem dD'(v n:Int)(c:0<n)(a:n<=4611686018427387904)(w:World):
 cW' 23 #[.int .i64 v,.int .i64 n] w (.int .i64 (BO v n)):=by
 have b:=ah (aIU (v:=v) c a);go_enter func23,ntmps23;go_wp2;go_ret;exact⟨aV b.out,rfl⟩
def Src(w0 w:World)(g:Nat)(r:List Int):Prop:=∃A n c L k,aF w0 ⟨A,n,c⟩ L/\w0.heap.size<=g/\w.cell? ⟨g,0,none⟩=some (.slice A n c)/\w.cell? ⟨g,1,none⟩=some (.int .i64 (k:Nat))/\w.frozen? ⟨g,1,none⟩=false/\k<=L.length/\r=L.drop k
theorem Src.kp{i w w':World}{g:Nat}{r:List Int}{M:List Nat}(h:Src i w g r)(b:Kp M w w')(d:g∉M):Src i w' g r:=by
 obtain⟨A,n,c,L,k,j,l,f,m,o,p,q⟩:=h;have a:=World.block_lt_of_cell? w _ f;exact⟨A,n,c,L,k,j,l,by rw[b.cell _ a d];exact f,by rw[b.cell ⟨g,1,none⟩ a d];exact m,by rw[b.frozen ⟨g,1,none⟩ a d];exact o,p,q⟩
theorem OV(l:List Int)(A:Option Addr)(n c:Nat)(w:World)(h:aF w ⟨A,n,c⟩ l):
 Calls prog 28 #[.slice A n c] w λe w'=>e=.returned (.pointer (some ⟨w.heap.size,0,none⟩))/\Src w w' w.heap.size l/\Ext w w':=by
 go_enter func28,ntmps28;go_wp2;go_ret;refine⟨rfl,⟨A,n,c,l,0,h,lr' _,?_,?_,?_,zl' _,rfl⟩,(Ext.refl w).aB _⟩
 .exact World.cell?_alloc_new w _ _ 0
 .exact World.cell?_alloc_new w _ _ 1
 .simp
theorem iH(j w:World)(g:Nat)(r:List Int)(m:Int)(hm:0<m)(F:m<=4611686018427387904)(hs:Src j w g r)(Q:Ext j w):
 Calls prog 29 #[.pointer (some ⟨g,0,none⟩),.int .i64 m] w λe w'=>e=.returned (.int .i64 (aT m r))/\Src j w' g r.tail/\Kp [g] w w'/\Ext j w':=by
 obtain⟨A,n,c,L,k,t,y,G,H,I,R,rfl⟩:=hs;obtain⟨S,_,_⟩:=t.len;subst S;have T:=z0' k;have J:=ah t;by_cases l:k<L.length
 .have z:=ah (drop_at L k l);obtain⟨b,o,U,K⟩:=t.at_ l;subst U;have V:=World.block_lt_of_cell? j _ K;generalize L[k]=x at*;have W:(k:Int)<(L.length:Int):=by omega
  have X:decide ((L.length:Int)<=(k:Int))=false:=dF';have B:decide (L.length<=k)=false:=dF';go_enter func29,ntmps29;go_wp2_with fail;go_region;go_wp2_with fail;obtain⟨d,a⟩:=eX' ((w.setCell ⟨g,1,none⟩ (.int .i64 ((k:Int)+1))).drew);rw[<- a];have f:Ext j d:=by rw[a];exact(Q.kQ y _).dL
  have C:Kp [g] w d:=by rw[a];exact Kp.trans (Kp.setCell _ _ _ _ (by simp)) (Kp.bY eR'.dL)
  have Y:d.cell? ⟨g,0,none⟩=some (.slice (some ⟨b,o,none⟩) L.length c):=by rw[a];exact(World.cell?_setCell_other _ _ _ _ (by simp)).trans G
  have M:d.cell? ⟨g,1,none⟩=some (.int .i64 ((k:Int)+1)):=by rw[a];exact World.cell?_setCell_same _ _ _ H
  have Z:d.frozen? ⟨g,1,none⟩=false:=by rw[a];exact(World.frozen?_setCell _ _ _ _).trans I
  have cx:d.cell? ⟨b,o+k,none⟩=some (.int .i64 x):=bg (bD f) K;clear a;have N:∀q:ak d,q.w.cell? ⟨g,0,none⟩=some (.slice (some ⟨b,o,none⟩) L.length c):=cZ Y;have O:∀q:ak d,q.w.cell? ⟨g,1,none⟩=some (.int .i64 ((k:Int)+1)):=cZ M;have r2:∀q:ak d,q.w.cell? ⟨b,o+k,none⟩=some (.int .i64 x):=cZ cx;have P:(k:Int)+1-1=(k:Int):=by omega
  refine rX' ?_
  repeat(go_big_quiet_step((go_at_call 23;exact iU (dD' x m hm F _))))
  refine wpQuiet_nil ?_;rintro _⟨i,rfl⟩;have D:Hid (aT m (L.drop k)=BO x m):=ah (by rw[z.out];rfl);have E:Hid ((L.drop k).tail=L.drop (k+1)):=ah (by rw[z.out];rfl);have e0:=N i;have e1:=O i;have ef:i.w.frozen? ⟨g,1,none⟩=false:=by rw[i.h.b.frozen (p:=⟨g,1,none⟩) (World.block_lt_of_cell? d _ M)];exact Z
  clear N O r2 z;go_wp2;go_ret;exact⟨aV D.out.symm,⟨_,_,_,L,k+1,J.out,y,e0,by rw[e1];rfl,ef,by omega,E.out⟩,C.trans (Kp.bY i.h),f.trans' i.h⟩
 .have s:k=L.length:=by omega
  have X:decide ((L.length:Int)<=(k:Int))=true:=dT';have B:decide (L.length<=k)=true:=dT';go_enter func29,ntmps29;go_wp2_with fail;go_region;go_wp2_with fail;have D:Hid (aT m (L.drop k)=0):=ah (by rw[s,List.drop_length];rfl);have E:Hid ((L.drop k).tail=L.drop k):=ah (by rw[s,List.drop_length];rfl);go_ret;exact⟨aV D.out.symm,⟨_,_,_,L,k,J.out,y,G,H,I,R,E.out⟩,Kp.bY eR'.dL,Q.dL⟩
def fH:List Int:=[0xad,0xb7,0x301,0x308,0x323,0x345,0x375,0x3b1,0x3b2,0x3b3,0x430,0x5d0,0x5f3,0x628,0x629,0x660,0x6f0,0x94d,0x1e00,0x1e01,0x1e02,0x1e03,0x1e04,0x200c,0x200d,0x30fb,0x4e00,0x1f600]
structure Us where
 cat:Int
 cls:Int
 dM:Int
 cO:Int
 scr:Int
 bn:Int
deriving DecidableEq
def usV(c:Int):Us:=
 if(c==0xad||c==0x200c||c==0x200d)=true then⟨8,0,5,9,1,4⟩
 else if(c==0xb7||c==0x375||c==0x30fb)=true then⟨5,0,0,8,1,1⟩
 else if c=0x323 then⟨2,220,5,10,2,1⟩
 else if c=0x94d then⟨2,9,5,10,20,1⟩
 else if 0x301<=c/\c<=0x345 then⟨2,230,5,10,2,1⟩
 else if 0x3b1<=c/\c<=0x3b3 then⟨1,0,0,0,4,1⟩
 else if c=0x430 then⟨1,0,0,0,5,1⟩
 else if(c==0x5d0||c==0x5f3)=true then⟨1,0,0,1,11,1⟩
 else if(c==0x628||c==0x629)=true then⟨1,0,3,2,12,1⟩
 else if c=0x660 then⟨3,0,0,3,1,1⟩
 else if c=0x6f0 then⟨3,0,0,4,1,1⟩
 else if c=0x4e00 then⟨1,0,0,0,6,1⟩
 else if 0x1e00<=c/\c<=0x1e04 then⟨1,0,0,0,3,1⟩
 else⟨6,0,0,8,1,0⟩
abbrev Us.v(u:Us):Value:=.agg #[.int .i64 u.cat,.int .i64 u.cls,.int .i64 u.dM,.int .i64 u.cO,.int .i64 u.scr,.int .i64 u.bn]
theorem usual_spec(a:c∈fH)(w:World):Calls prog 34 #[.int .i64 c] w λe w'=>e=.returned (usV c).v/\Ext w w':=by
 simp only[fH,List.mem_cons,List.not_mem_nil,or_false]at a;rcases a with rfl|rfl|rfl|rfl|rfl|rfl|rfl|rfl|rfl|rfl|rfl|rfl|rfl|rfl|rfl|rfl|rfl|rfl|rfl|rfl|rfl|rfl|rfl|rfl|rfl|rfl|rfl|rfl
 all_goals
  go_enter func34,ntmps34;go_wp2_with fail;refine bodyPost_ret (v:=(usV _).v) ?_ rfl ⟨rfl,?_⟩
  .simp[results,Tryz.results34,go_sem];decide
  .exact(Ext.refl w).aB _
theorem uV(l:List Int)(t:TypeId)(h:l.length<=maxLen):aF (w.alloc (.cells (l.map (Value.int .i64)).toArray t)) ⟨some ⟨w.heap.size,0,none⟩,l.length,l.length⟩ l:=by
 refine⟨⟨rfl,lr' _,h⟩,λi x a=>⟨w.heap.size,0,rfl,?_⟩⟩;rw[Nat.zero_add,World.cell?_alloc_new];simp[a]
theorem aF.sJ{w:World}{q o n c:Nat}{l:List Int}{M:List Nat}(h:aF w ⟨some ⟨q,o,none⟩,n,c⟩ l)(k:q∉M):aF (hide M w) ⟨some ⟨q,o,none⟩,n,c⟩ l:=by
 refine⟨h.1,λi x d=>?_⟩;obtain⟨b,f,a,g⟩:=h.2 i x d;refine⟨b,f,a,?_⟩;simp only[Option.some.injEq]at a;have j:q=b:=by injection a
 rw[sD,nN' (by rw[<- j];exact k)];exact g
theorem Kw:Calls prog 33 #[] w λe w'=>e=.returned (.slice (some ⟨w.heap.size,0,none⟩) 28 28)/\aF w' ⟨some ⟨w.heap.size,0,none⟩,28,28⟩ fH/\Ext w w':=by
 go_enter func33,ntmps33;go_wp2;go_ret;exact⟨rfl,uV w fH _ (by decide),(Ext.refl w).aB _⟩
def gq(r:List Int)(vs:List Int):Int:=if 0<aT 3 r then vs.getD 0 0 else vs.getD (aT vs.length r.tail).toNat 0
def bM(r:List Int):List Int:=if 0<aT 3 r then r.tail else r.tail.tail
theorem choose_spec(j w:World)(g:Nat)(r vs:List Int)(A:Option Addr)(n c:Nat)(Y:Src j w g r)(Z:Ext j w)(H:aF (hide [g] w) ⟨A,n,c⟩ vs)(K:0<vs.length)(h1:vs.length<=1000):
 Calls prog 35 #[.pointer (some ⟨g,0,none⟩),.slice A n c] w λe w'=>e=.returned (.int .i64 (gq r vs))/\Src j w' g (bM r)/\Kp [g] w w'/\Ext j w':=by
 obtain⟨L,_,_⟩:=H.len;subst L;have M:=ah H;obtain⟨b,o,N,a⟩:=H.at_ K;subst N;simp only[Nat.add_zero]at a;have O:Hid (vs.getD 0 0=vs[0]):=getD_lt vs 0 0 K;generalize vs[0]=x at*;go_enter func35,ntmps35;go_wp2_with fail;refine(iH j w g r 3 (by decide) (by decide) Y Z).mono ?_;rintro e I⟨rfl,m,i,k⟩;have J:=ah m;by_cases f:0<aT 3 r
 .have P:decide (0<aT 3 r)=true:=by rw[au];exact f
  have p:Hid (gq r vs=x):=ah (by rw[gq,pP' f,O.out]);have s:Hid (bM r=r.tail):=ah (pP' f);have Q:I.cell? ⟨b,o,none⟩=some (.int .i64 x):=by
   rw[i.cell _ (by have:=World.block_lt_of_cell? _ _ a;rw[Jy]at this;exact this) (λt=>by rw[sD,pP' t]at a;cases a)];exact wG a
  clear f;go_wp2;go_ret;exact⟨aV p.out.symm,by rw[s.out];exact J.out,i,k⟩
 .have P:decide (0<aT 3 r)=false:=by rw[aA];exact f
  have z:=gJ r.tail (n:=(vs.length:Int)) (by omega);obtain⟨q,B⟩:∃q:Nat,aT (vs.length:Int) r.tail=q:=⟨(aT (vs.length:Int) r.tail).toNat,by omega⟩;have l:q<vs.length:=by omega
  have p:Hid (gq r vs=vs[q]):=ah (by rw[gq,nN' f,B,Int.toNat_natCast];exact getD_lt vs q 0 l);have s:Hid (bM r=r.tail.tail):=ah (nN' f);obtain⟨b',o',C,d⟩:=M.out.at_ l;injection C with C;injection C with R S;subst R S;generalize vs[q]=y at*;have T:=ah B;have U:=z0' q;have V:(q:Int)<(vs.length:Int):=by omega
  clear f z B;go_wp2_with fail;refine(iH j I g r.tail vs.length (by omega) (by omega) J.out k).mono ?_;rintro e W⟨rfl,D,E,F⟩;rw[T.out];have G:=ah D;have h:=i.trans E;have X:W.cell? ⟨b,o+q,none⟩=some (.int .i64 y):=by
   rw[h.cell _ (by have:=World.block_lt_of_cell? _ _ d;rw[Jy]at this;exact this) (λt=>by rw[sD,pP' t]at d;cases d)];exact wG d
  go_wp2;go_ret;exact⟨aV p.out.symm,by rw[s.out];exact G.out,h,F⟩
def jK:List Int->List Int->Bool
 |[],[]=>true
 |x::r,y::s=>x==y&&jK r s
 |_,_=>false
theorem Gs:∀(l m:List Int),l.length≠m.length->jK l m=false
 |[],[],h=>absurd rfl h
 |[],_::_,_=>rfl
 |_::_,[],_=>rfl
 |x::r,y::s,h=>by
  simp only[jK,Gs r s (by simpa using h),Bool.and_false]
theorem J9:∀(l m:List Int),jK l m=true↔l=m
 |[],[]=>by simp[jK]
 |[],_::_=>by simp[jK]
 |_::_,[]=>by simp[jK]
 |x::r,y::s=>by simp[jK,J9 r s]
theorem Ja(l m:List Int)(A:Option Addr)(n c:Nat)(I:Option Addr)(J K:Nat)(w:World)(h:aF w ⟨A,n,c⟩ l)(L:aF w ⟨I,J,K⟩ m):
 cE' 20 #[.slice A n c,.slice I J K] w (.bool (jK l m)):=by
 obtain⟨M,_,_⟩:=h.len;obtain⟨t,_,_⟩:=L.len;subst M t;have N:=ah h;have O:=ah L;by_cases a:l.length=m.length
 .have P:((l.length:Int) != (m.length:Int))=false:=by rw[a];simp
  have D:=ah a;have Q:Hid ((m.length:Int)=(l.length:Int)):=ah (by rw[a]);clear a;go_enter func20,ntmps20;go_wp2;go_loopw[13] (λi wr=>∃(k:Nat),k<=l.length/\i=.int .i64 k/\Hid (jK l m=jK (l.drop k) (m.drop k))/\Ext w wr) (λi _=>l.length-(intOf i).toNat);exact⟨0,zl' _,rfl,rfl,eR'⟩;obtain⟨k,hk,rfl,r,f⟩:=hrel;by_cases j:k<l.length
  .have g:k<m.length:=by rw[<- D.out];exact j
   obtain⟨b,o,R,E⟩:=(N.out.ext f).at_ j;obtain⟨S,T,z,F⟩:=(O.out.ext f).at_ g;subst R z;have G:=ah (drop_at l k j);have H:=ah (drop_at m k g);generalize l[k]=x at*;generalize m[k]=y at*;have s:=aI r (show _=(x==y&&jK (l.drop (k+1)) (m.drop (k+1)))from by rw[G.out,H.out];rfl);clear r G H;have U:∀B:ak wr,B.w.cell? ⟨b,o+k,none⟩=some (.int .i64 x):=cZ E;have V:∀B:ak wr,B.w.cell? ⟨S,T+k,none⟩=some (.int .i64 y):=cZ F;have W:=z0' k;have X:(k:Int)<(l.length:Int):=(by omega);have Y:(k:Int)<(m.length:Int):=(by omega);go_wp2_with fail;refine rX' ?_
   repeat(go_big_quiet_step(fail))
   refine wpQuiet_nil ?_;rintro _⟨Z,rfl⟩;have q:=f.trans' Z.h;clear U V E F;by_cases d:x=y
   .have C:(x != y)=false:=(by rw[d];simp);have p:=aI s (show _=jK (l.drop (k+1)) (m.drop (k+1))from by rw[d];simp);clear s d;go_wp2;go_roundw;exact⟨k+1,by omega,by go_num,p,q⟩;simp[intOf];omega
   .have C:(x != y)=true:=bN' d;have p:=aI s (show _=false from by rw[beq_eq_false_iff_ne.2 d];rfl);clear s d;go_wp2;go_ret;exact⟨aP p.out.symm,q⟩
  .have p:=aI r (show _=true from by rw[bT l k (by omega),bT m k (by rw[<- D.out];omega)];rfl);clear r;go_wp2;go_ret;exact⟨aP p.out.symm,f⟩
 .have P:((l.length:Int) != (m.length:Int))=true:=by rw[bne_iff_ne];omega
  have p:=ah (Gs l m a);clear a;go_enter func20,ntmps20;go_wp2;go_ret;exact⟨aP p.out.symm,eR'⟩
structure KpW(M:List Nat)(w0:World) where
 w:World
 h:Kp M w0 w
instance (M:List Nat)(w0:World):Nonempty (KpW M w0):=⟨⟨w0,Kp.refl M w0⟩⟩
section
variable {P:Program}{ops:Array Oper}{Q:Exit→Act→World→Prop}
def xJ(M:List Nat)(P:Program)(ops:Array Oper)(Q:Exit->Act->World->Prop):Nat->Array Bool->Act->World->Prop
 |0,listed,a,w=>Region.ready .any ops listed=[]/\Q .normal a w
 |fuel+1,listed,a,w=>(Region.ready .any ops listed=[]->Q .normal a w)/\
  ∀i∈Region.ready .any ops listed,wpOp P ops Q i (λa' w'=>Kp M w w'/\xJ M P ops Q fuel (listed.setIfInBounds i true) a' w') a w
theorem Qj{M:List Nat}{Post:Act->World->Prop}(b:∀a w,Post a w->Q .normal a w):∀(fuel:Nat)(listed:Array Bool)(a:Act)(w:World),xJ M P ops (jV Q Post) fuel listed a w->wpAny P .any ops Q fuel listed a w
 |0,_,_,_,h=>⟨h.1,b _ _ h.2⟩
 |fuel+1,_,_,_,h=>⟨λc=>b _ _ (h.1 c),λi d=>wpOp_mono (λf g j=>Qj b fuel _ f g j.2) (PG (h.2 i d))⟩
theorem Zq{M:List Nat}{o:Oper}{v:Value}{a:Act}{w w':World}(h:YieldsIf P ops (Kp M w) o v a)(c:Kp M w w'):YieldsIf P ops (Kp M w') o v a:=
 h.imp (λ⟨hw,hv⟩=>⟨hw,λx b=>hv x (c.trans b)⟩) id
theorem ZY{M:List Nat}{Post:Act->World->Prop}{i:Nat}{q:Oper}{v:Value}(G:ops[i]? =some q)(l:∀(j:Nat)(o:Oper)cs b,ops[j]? =some o->o.op≠ .select cs b):
 ∀(fuel:Nat)(listed:Array Bool)(a:Act)(w:World),
  (∀j oj,ops[j]? =some oj->j≠i->listed.getD j true=false->(∀e∈oj.after,Region.binds .any e=true->e.on≠i)->q.apart ops oj=true)->
  i∈Region.ready .any ops listed->YieldsIf P ops (Kp M w) q v a->
  xJ M P ops (jV Q Post) fuel (listed.setIfInBounds i true) (a.put q.dst v) w->xJ M P ops (jV Q Post) (fuel+1) listed a w:=by
 intro fuel
 induction fuel with
 |zero=>
  intro listed a w _ m z H;refine⟨λh=>(by rw[h]at m;cases m),λj A=>?_⟩;by_cases c:j=i
  .subst c;exact z.wpOp G (Kp.refl M w) ⟨Kp.refl M w,H⟩
  .have:=ready_mono A c;rw[H.1]at this;cases this
 |succ fuel ih=>
  intro listed a w d m z H;refine⟨λh=>(by rw[h]at m;cases m),λj A=>?_⟩;by_cases c:j=i
  .subst c;exact z.wpOp G (Kp.refl M w) ⟨Kp.refl M w,H⟩
  .have n:=H.2 j (ready_mono A c);obtain⟨g,oj,p,r⟩:=mem_ready.1 A;have s:∀e∈oj.after,Region.binds .any e=true->e.on≠i:=λe J K C=>by
    have n:=r e J K;have I:=(mem_ready.1 m).1;rw[C]at n;rcases Nat.lt_or_ge i listed.size with D|D
    .simp[D]at I n;rw[I]at n;cases n
    .simp[Array.getElem?_eq_none D]at n
   have L:=wpOp_putIf p (d j oj p c g s) (λcs b=>l i q cs b G) (λcs b=>l j oj cs b p) (λ_ _ _ h=>h) z n;have f:∀k t,ops[k]? =some t->k≠i->(listed.setIfInBounds j true).getD k true=false->
    (∀e∈t.after,Region.binds .any e=true->e.on≠i)->q.apart ops t=true:=λk t N E x F=>by
    refine d k t N E ?_ F;by_cases y:j=k
    .subst y;exact g
    .rw[getD_set_ne true y]at x;exact x
   refine wpOp_mono (λO R B=>⟨B.2.1,ih (listed.setIfInBounds j true) O R f (ready_mono m (Ne.symm c)) (Zq B.1 B.2.1) ?_⟩) L;rw[Array.setIfInBounds_comm _ _ c];exact B.2.2
theorem aA3{M:List Nat}{Post:Act->World->Prop}{b:Array Bool}{a:Act}{w:World}(d:Region.ready .any ops b=[])(h:Post a w):∀fuel,xJ M P ops (jV Q Post) fuel b a w
 |0=>⟨d,h⟩
 |fuel+1=>⟨λ_=>h,λi c=>by rw[d]at c;cases c⟩
def LH(M:List Nat)(w:World)(next:Act->World->Prop)(a':Act)(w':World):Prop:=Kp M w w'/\next a' w'
def xK(M:List Nat)(P:Program)(ops:Array Oper)(Q:Exit->Act->World->Prop)(Post:Act->World->Prop):List (List Nat×Nat)->List Nat->Act->World->Prop
 |[],last,a,w=>wpQuiet P ops (λw'=>∃x:KpW M w,w'=x.w) (λa'=>Post a' w) (opsOf ops last) a
 |(s,i)::r,last,a,w=>wpQuiet P ops (λw'=>∃x:KpW M w,w'=x.w) (λa'=>wpList P ops (jV Q (LH M w (xK M P ops Q Post r last))) (opsOf ops [i]) a' w) (opsOf ops s) a
theorem JG{M:List Nat}{Post:Act->World->Prop}{w:World}(p:Region.noSelect ops=true):∀(s:List Nat)(fuel:Nat)(listed:Array Bool)(a:Act),xE ops s listed=true->
 wpQuiet P ops (λw'=>∃x:KpW M w,w'=x.w) (λa'=>xJ M P ops (jV Q Post) fuel (ru s listed) a' w) (opsOf ops s) a->xJ M P ops (jV Q Post) (s.length+fuel) listed a w
 |[],fuel,listed,a,_,h=>by simpa[opsOf,wpQuiet,ru]using h
 |i::s,fuel,listed,a,hB,h=>by
  simp only[xE,aU]at hB;obtain⟨⟨⟨f,q⟩,b⟩,g⟩:=hB;cases c:ops[i]? with
  |none=>rw[c]at f;cases f
  |some o=>
   rw[c]at f;have j:opsOf ops (i::s)=o::opsOf ops s:=(by simp[opsOf,c]);rw[j]at h;unfold wpQuiet at h;have k:∃v,YieldsIf P ops (Kp M w) o v a/\wpQuiet P ops (λw'=>∃x:KpW M w,w'=x.w) (λa'=>xJ M P ops (jV Q Post) fuel (ru s (listed.setIfInBounds i true)) a' w) (opsOf ops s) (a.put o.dst v):=by
    split at h
    .rename_i l;obtain⟨v,r,t⟩:=h;refine⟨v,.inl ⟨l,λw' m=>?_⟩,t⟩;have d:=r w' ⟨⟨w',m⟩,rfl⟩;unfold Oper.quietAt at d;cases b:(execOp a.eval o).run P w' with
     |ok n w2=>
      obtain⟨u,rfl⟩:=PX f b;rw[b]at d;obtain⟨j,y⟩:=d;rw[j,y]
     |halt x w2=>rw[b]at d;exact d.elim
    .rename_i l;exact⟨undef,.inr ⟨by simpa using l,rfl⟩,h⟩
   obtain⟨v,z,A⟩:=k;rw[show(i::s).length+fuel=(s.length+fuel)+1 from by simp only[List.length_cons];omega];exact ZY c (Region.noSelect_spec p) (s.length+fuel) listed a w (Region.free_spec c q) (by simpa using b) z (JG p s fuel _ _ g A)
theorem QH{M:List Nat}{Post:Act->World->Prop}(n:Region.noSelect ops=true):∀(ord:List (List Nat×Nat))(last:List Nat)(fuel:Nat)(listed:Array Bool)(a:Act)(w:World),Eu ord last<=fuel->Et ops ord last listed=true->
 xK M P ops Q Post ord last a w->xJ M P ops (jV Q Post) fuel listed a w
 |[],last,fuel,listed,a,w,hn,hB,h=>by
  simp only[Et,aU,au]at hB;simp only[Eu]at hn;rw[show fuel=last.length+(fuel-last.length)from by omega];refine JG n last _ listed a hB.1 ?_;unfold xK at h;exact Jf (λk c=>aA3 hB.2 c _) _ _ h
 |(s,i)::r,last,fuel,listed,a,w,hn,hB,h=>by
  simp only[Et,aU,au]at hB;obtain⟨⟨⟨A,p⟩,q⟩,B⟩:=hB;simp only[Eu]at hn;rw[show fuel=s.length+((fuel-s.length-1)+1)from by omega];refine JG n s _ listed a A ?_;unfold xK at h;refine Jf (λk c=>?_) _ _ h;refine⟨λt=>(by rw[p]at t;cases t),λj x=>?_⟩;rw[p]at x;obtain rfl:j=i:=by simpa using x
  cases m:ops[j]? with
  |none=>rw[m]at q;cases q
  |some o=>
   have D:opsOf ops [j]=[o]:=(by simp[opsOf,m]);rw[D]at c;have y:∀d b,Kp M w b/\xK M P ops Q Post r last d b->Kp M w b/\xJ M P ops (jV Q Post) (fuel-s.length-1) ((ru s listed).setIfInBounds j true) d b:=λd b z=>
    ⟨z.1,QH n r last _ _ d b (by omega) B z.2⟩
   unfold wpOp;simp only[m];unfold wpList at c;split
   .rename_i f;rw[pP' f]at c;rcases c with c|c
    .exact .inl (Q5 (Oper.wp_mono (λd b g=>y d b g) c))
    .exact .inr c
   .rename_i f;rw[nN' f]at c;exact y _ _ c
where
 Jf {C:World->Prop} {K K':Act->Prop} (g:∀a,K a->K' a):∀(l:List Oper)(a:Act),wpQuiet P ops C K l a->wpQuiet P ops C K' l a
  |[],a,h=>g a h
  |o::l,a,h=>by
   unfold wpQuiet at*;split
   .rename_i f;rw[pP' f]at h;exact Oper.quiet_mono (λk c=>Jf g l k c) h
   .rename_i f;rw[nN' f]at h;exact Jf g l _ h
theorem region_xk(M:List Nat){d:Nat}{a:Act}{w:World}{l:List Oper}(b:List (List Nat×Nat))(last:List Nat)(f:P.follows .mixedOrders=true)
 (c:(Region.noSelect l.toArray&&Et l.toArray b last (Array.replicate l.length false)&&decide (Eu b last<=l.length))=true)
 (h:xK M P l.toArray Q (λa' w'=>Q .normal a' w') b last a w.drew):(Code.region d l.toArray true).wp P Q a w:=by
 simp only[aU,au]at c;refine wp_region_any f (Qj (M:=M) (Post:=λa' w'=>Q .normal a' w') (λ_ _ h=>h) _ _ _ _ ?_);have:=QH c.1.1 b last l.length (Array.replicate l.length false) a w.drew c.2 c.1.2 h;simpa using this
theorem aM5{M:List Nat}{Post:Act->World->Prop}{s:List Nat}{i:Nat}{r:List (List Nat×Nat)}{last:List Nat}{a:Act}{w:World}{l:List Oper}
 {b:List Oper} {o:Oper} (f:fE l s b) (g:dD l i o) (h:wpQuiet P l.toArray (λw'=>∃x:KpW M w,w'=x.w) (λa'=>wpList P l.toArray (jV Q (LH M w (xK M P l.toArray Q Post r last))) [o] a' w) b a):xK M P l.toArray Q Post ((s,i)::r) last a w:=by
 have c:=f.eq;have d:=(fE.cons g fE.nil).eq;subst c;unfold xK;rw[d];exact h
theorem aMs{M:List Nat}{Post:Act->World->Prop}{last:List Nat}{a:Act}{w:World}{l:List Oper}{b:List Oper}(d:fE l last b)(h:wpQuiet P l.toArray (λw'=>∃x:KpW M w,w'=x.w) (λa'=>Post a' w) b a):xK M P l.toArray Q Post [] last a w:=by
 have c:=d.eq;subst c;exact h
theorem qJ'{M:List Nat}{w w':World}{next:Act->World->Prop}{a:Act}(b:Kp M w w')(h:next a w'):LH M w next a w':=⟨b,h⟩
end
def oH:List Sp->List Value
 |[]=>[]
 |s::r=>.int .i64 s.lo:: .int .i64 s.hi:: .int .i64 s.val::oH r
theorem Jr:∀l,(oH l).length=l.length*3
 |[]=>rfl
 |s::r=>by simp only[oH,List.length_cons,Jr r];omega
theorem Qc:∀l m,oH (l++m)=oH l++oH m
 |[],m=>rfl
 |s::r,m=>by simp[oH,Qc r m]
theorem Qd:∀(l:List Sp)(i:Nat)(x:Sp),l[i]? =some x->(oH l)[i*3]? =some (.int .i64 x.lo)/\(oH l)[i*3+1]? =some (.int .i64 x.hi)/\(oH l)[i*3+2]? =some (.int .i64 x.val)
 |[],i,x,h=>by simp at h
 |s::r,0,x,h=>by simp at h;subst h;simp[oH]
 |s::r,i+1,x,h=>by
  simp only[List.getElem?_cons_succ]at h;have:=Qd r i x h;rw[show(i+1)*3=i*3+3 from by omega];exact this
theorem Qe:∀(l:List Sp)(j:Nat)(u:Value),(oH l)[j]? =some u->∃i x,l[i]? =some x/\(j=i*3/\u=.int .i64 x.lo\/j=i*3+1/\u=.int .i64 x.hi\/j=i*3+2/\u=.int .i64 x.val)
 |[],j,u,h=>by simp[oH]at h
 |s::r,0,u,h=>⟨0,s,rfl,.inl ⟨rfl,by simp[oH]at h;exact h.symm⟩⟩
 |s::r,1,u,h=>⟨0,s,rfl,.inr (.inl ⟨rfl,by simp[oH]at h;exact h.symm⟩)⟩
 |s::r,2,u,h=>⟨0,s,rfl,.inr (.inr ⟨rfl,by simp[oH]at h;exact h.symm⟩)⟩
 |s::r,j+3,u,h=>by
  obtain⟨i,x,c,d⟩:=Qe r j u h;refine⟨i+1,x,c,?_⟩;rcases d with⟨b,a⟩|⟨b,a⟩|⟨b,a⟩
  .exact .inl ⟨by omega,a⟩
  .exact .inr (.inl ⟨by omega,a⟩)
  .exact .inr (.inr ⟨by omega,a⟩)
theorem infoSpan:(prog.info? 70).map (λi=>(i.zero,i.size,i.bytes))=some (some (.agg #[.int .i64 0,.int .i64 0,.int .i64 0]),3,24):=by kernel_rfl
abbrev uY(w:World)(base:Nat)(A:Option Addr)(n c:Nat)(l:List Sp):Prop:=Own w base 70 3 A n c (oH l)
theorem uY.spans{w:World}{f n c:Nat}{A:Option Addr}{l:List Sp}(h:uY w f A n c l):bQ w ⟨A,n,c⟩ l:=by
 have k:=h.len;rw[Jr]at k;obtain⟨t,m⟩:=h.le;refine⟨⟨by show n=_;omega,by show l.length<=c;omega,m⟩,λi x o=>?_⟩;obtain⟨p,q,r⟩:=Qd l i x o;obtain⟨b,rfl,s⟩:=h.qL _ _ p;obtain⟨y,a,g⟩:=h.qL _ _ q;obtain⟨z,d,j⟩:=h.qL _ _ r;injection a with a;injection a with a;subst a;injection d with d;injection d with d;subst d;exact⟨b,0,rfl,by rw[Nat.zero_add];exact s,by rw[Nat.zero_add];exact g,by rw[Nat.zero_add];exact j⟩
theorem bQ.qL{w:World}{A:Option Addr}{n c:Nat}{l:List Sp}(h:bQ w ⟨A,n,c⟩ l):∀j u,(oH l)[j]? =some u->∃b o,A=some ⟨b,o,none⟩/\w.cell? ⟨b,o+j,none⟩=some u:=by
 intro j u a;obtain⟨i,x,d,f⟩:=Qe l j u a;obtain⟨b,o,g,k,m,p⟩:=h.2 i x d;refine⟨b,o,g,?_⟩;rcases f with⟨rfl,rfl⟩|⟨rfl,rfl⟩|⟨rfl,rfl⟩
 .exact k
 .exact m
 .exact p
theorem a96{l:List Sp}:∀u∈oH l,u.oneCell'=true:=by
 induction l with
 |nil=>intro u a;cases a
 |cons s r ih=>
  intro u a;simp only[oH,List.mem_cons]at a;rcases a with rfl|rfl|rfl|a
  .rfl
  .rfl
  .rfl
  .exact ih u a
theorem Yq{w:World}{a n c:Nat}{A:Option Addr}{l:List Sp}(d:uY w a A n c l){f:Option Addr}{m g:Nat}{h:List Sp}(i:bQ w ⟨f,m,g⟩ h)(r:n+m<=1099511627776)(b:a<=w.heap.size):
 ∃A' c' w',(∀ty,(Builtin.append_ #[23,23] ty #[.slice A n c,.slice f m g]).run prog w=.ok (.slice A' (n+m) c') w')/\uY w' a A' (n+m) c' (l++h)/\w.grownBy w' (aG A)/\(aG A'=aG A\/aG A'=some w.heap.size):=by
 have j:=i.len.1;obtain⟨A',c',w',k,o,p,q⟩:=AU underlying23 infoSpan rfl (by omega) d f m g (oH h) (by rw[Jr,j]) i.qL a96 (by simp only[maxLen];omega) (by omega) b;exact⟨A',c',w',k,by rw[uY,Qc];exact o,p,q⟩
theorem P7{ops:Array Oper}{o:Oper}{a:Act}{w:World}{K:Act->World->Prop}{Q:Exit->Act->World->Prop}{E:Prop}(i:o.guard=none)(s x:Operand)
 (z:o.op=.call {callee:=.builtin .append,args:= #[s,x],argTypes:= #[23,23]}) (b:Nat) {A:Option Addr} {n c:Nat} {l:List Sp} (B:a.eval s=.slice A n c) (g:uY w b A n c l)
 {j:Option Addr} {m k:Nat} {p:List Sp} (C:a.eval x=.slice j m k) (D:bQ w ⟨j,m,k⟩ p) (F:n+m<=1099511627776) (d:b<=w.heap.size)
 (h:∀A' c' w',uY w' b A' (n+m) c' (l++p)->w.grownBy w' (aG A)->(aG A'=aG A\/aG A'=some w.heap.size)->K (a.put o.dst (.slice A' (n+m) c')) w'):
 if Region.wanted o (yielded ops a.tmps)=true then Oper.wp prog o a w K Q else E:=by
 have q:Region.wanted o (yielded ops a.tmps)=true:=by simp[Region.wanted,i]
 rw[pP' q];obtain⟨A',c',w',f,r,t,y⟩:=Yq g D F d;unfold Oper.wp execOp;simp only[z,resolve,invoke,builtin,Sem.run_bind,Sem.run_pure,Result.andThen_ok,List.map_toArray,List.map_cons,List.map_nil,B,C,f];exact h A' c' w' r t y
theorem Yh{ops:Array Oper}{o:Oper}{a:Act}{w:World}{K:Act->World->Prop}{Q:Exit->Act->World->Prop}{E:Prop}(f:o.guard=none)(s x:Operand)
 (l:o.op=.call {callee:=.builtin .append,args:= #[s,x],argTypes:= #[23,23]}) (b:Nat) (n:a.eval s=.slice none 0 0)
 {i:Option Addr} {m j:Nat} {k:List Sp} (p:a.eval x=.slice i m j) (d:bQ w ⟨i,m,j⟩ k) (r:m<=1099511627776) (c:b<=w.heap.size)
 (h:∀A' c' w',uY w' b A' m c' k->w.grownBy w' none->K (a.put o.dst (.slice A' m c')) w'):
 if Region.wanted o (yielded ops a.tmps)=true then Oper.wp prog o a w K Q else E:=by
 refine P7 f s x l b n (show uY _ _ none 0 0 []from Own.nil_ _ _ _ _) p d (by omega) c ?_;intro A' c' w' g d q;simp only[Nat.zero_add,List.nil_append]at g |-;exact h A' c' w' g d
theorem uY.hidden{w:World}{a n c:Nat}{A:Option Addr}{l:List Sp}(h:uY w a A n c l){M:List Nat}(p:∀b∈M,b<a):bQ (hide M w) ⟨A,n,c⟩ l:=by
 obtain⟨f,g⟩:=h.spans;refine⟨f,λi x j=>?_⟩;obtain⟨b,o,d,q,r,s⟩:=g i x j;simp only at d;subst d;have k:b∉M:=λm=>by
  have:=(h.lt b rfl).1;have:=p b m;omega
 refine⟨b,o,rfl,?_,?_,?_⟩<;>rw[sD,nN' k]<;>assumption
theorem Po(b c v:Int)(t:TypeId):bQ (w.alloc (.cells #[.int .i64 b,.int .i64 c,.int .i64 v] t)) ⟨some ⟨w.heap.size,0,none⟩,1,1⟩ [⟨b,c,v⟩]:=by
 refine⟨⟨rfl,lr' _,by simp[maxLen]⟩,λi y a=>?_⟩
 match i,a with
 |0,a=>
  simp at a;subst a;refine⟨w.heap.size,0,rfl,?_,?_,?_⟩<;>exact World.cell?_alloc_new w _ _ _
 |i+1,a=>simp at a
theorem CJ{w:World}{H:Nat}(c:w.heap.size=H)(a b v:Int)(t:TypeId):bQ (w.alloc (.cells #[.int .i64 a,.int .i64 b,.int .i64 v] t)) ⟨some ⟨H,0,none⟩,1,1⟩ [⟨a,b,v⟩]:=by
 subst c;exact Po w a b v t
def Fr(M:List Nat)(w:World)(tb:Nat)(A:Option Addr):Prop:=∀b,aG A=some b->tb<b/\b∉M/\b<w.heap.size/\∀k:Nat,w.frozen? ⟨b,k,none⟩=false
theorem Fr.kp{M M' N:List Nat}{w w':World}{g:Nat}{A:Option Addr}(h:Fr M w g A)(i:Kp N w w')(n:∀b∈N,b∈M\/w.heap.size<=b)(o:∀b∈M',b∈M\/w.heap.size<=b):Fr M' w' g A:=by
 intro b j;obtain⟨l,c,d,m⟩:=h b j;exact⟨l,λa=>(o b a).elim c (λf=>by omega),lt' d i.size,λk=>by rw[i.frozen ⟨b,k,none⟩ d (λa=>(n b a).elim c (λf=>by have p:w.heap.size<=b:=f;omega))];exact m k⟩
theorem Own.unfr{w:World}{d n c:Nat}{e:TypeId}{size:Nat}{A:Option Addr}{o:List Value}(h:Own w d e size A n c o):∀b,aG A=some b->∀k:Nat,w.frozen? ⟨b,k,none⟩=false:=by
 intro b f k;rcases h.2 with⟨a,_⟩|⟨g,i,j,a,p,l,q⟩
 .injection a with a;subst a;cases f
 .injection a with a _ m;subst a m;injection f with f;subst f;simp[World.frozen?,l]
structure xB(M:List Nat)(w0 w w':World)(tb j:Nat)(L':List Sp):Prop where
 row:∃A' n' c',w'.cell? ⟨tb,j,none⟩=some (.slice A' n' c')/\bQ (hide M w') ⟨A',n',c'⟩ L'/\Fr M w' tb A'
 kp:Kp [tb] w w'
 other:∀k,k≠j->w'.cell? ⟨tb,k,none⟩=w.cell? ⟨tb,k,none⟩
 frozen:∀k,w'.frozen? ⟨tb,k,none⟩=w.frozen? ⟨tb,k,none⟩
 ext:Ext w0 w'
def jk(L:List Sp)(lo hi v:Int):List Sp:=if 0<v then L++[⟨lo,hi,v⟩]else L
theorem aEY(M:List Nat)(P w:World)(d j:Nat)(A:Option Addr)(n c:Nat)(L:List Sp)(m o Q v:Int)(hM:d∈M)(B:∀b∈M,b<w.heap.size)(hb:Ext P w)(R:P.heap.size<=d)
 (S:w.cell? ⟨d,j,none⟩=some (.slice A n c)) (hf:w.frozen? ⟨d,j,none⟩=false) (h:bQ (hide M w) ⟨A,n,c⟩ L) (hl:L.length<=1000) (D:Fr M w d A):
 Calls prog 36 #[.pointer (some ⟨d,j,none⟩),.agg #[.int .i64 m,.int .i64 o,.int .i64 Q],.int .i64 v] w λe w'=>e=.returned (.tuple #[])/\xB M P w w' d j (jk L m o v):=by
 have q:d<w.heap.size:=B _ hM;have F:=ah D;clear D;obtain⟨hn,_,_⟩:=h.len;subst hn;by_cases E:0<v
 .have hd:decide (0<v)=true:=by rw[au];exact E
  have G:Hid (jk L m o v=L++[⟨m,o,v⟩]):=ah (pP' E);have T:Ext w (w.alloc (.cells #[.int .i64 m,.int .i64 o,.int .i64 Q] 70)):=eR'.aB _;go_enter func36,ntmps36;go_wp2_with fail;obtain⟨a,f⟩:=eX' (w.alloc (.cells #[.int .i64 m,.int .i64 o,.int .i64 v] 70));rw[<- f];have r:Ext w a:=by rw[f];exact eR'.aB _
  have H:a.heap.size=w.heap.size+1:=by rw[f];simp
  have U:a.cell? ⟨w.heap.size,0,none⟩=some (.int .i64 m):=by rw[f];exact World.cell?_alloc_new w _ _ 0
  have V:a.cell? ⟨w.heap.size,1,none⟩=some (.int .i64 o):=by rw[f];exact World.cell?_alloc_new w _ _ 1
  have W:a.cell? ⟨w.heap.size,2,none⟩=some (.int .i64 v):=by rw[f];exact World.cell?_alloc_new w _ _ 2
  have X:a.cell? ⟨d,j,none⟩=some (.slice A L.length c):=bg (bD r) S;have cf:a.frozen? ⟨d,j,none⟩=false:=by rw[r.b.frozen (p:=⟨d,j,none⟩) q];exact hf
  have HS:Hid (bQ a ⟨A,L.length,c⟩ L):=ah ((h.sub (λp v=>wG)).ext r);have Y:Hid (bQ (hide M a) ⟨A,L.length,c⟩ L):=ah (h.keep (gy (Kp.bY r)));have n0:=World.new_ne a _ U;have n1:=World.new_ne a _ V;have n2:=World.new_ne a _ W;have n3:=World.new_ne a _ X;clear f S hf h;have Z:∀w',Ext a w'->(w'.cell? ⟨w.heap.size,0,none⟩=some (.int .i64 m)/\w'.cell? ⟨w.heap.size,1,none⟩=some (.int .i64 o)/\w'.cell? ⟨w.heap.size,2,none⟩=some (.int .i64 v)):=λw' l=>
   ⟨bg (bD l) U,bg (bD l) V,bg (bD l) W⟩
  have I:=ah Z;have HC:Hid (∀w',Ext a w'->w'.cell? ⟨d,j,none⟩=some (.slice A L.length c)/\w'.frozen? ⟨d,j,none⟩=false):=λw' l=>⟨bg (bD l) X,by rw[l.b.frozen (p:=⟨d,j,none⟩) (by show d<_;omega)];exact cf⟩
  have aa:d≠w.heap.size:=by omega
  have a0:¬d=w.heap.size:=by omega
  clear Z;go_region_law
   (first
    |(refine Yh (by rfl) _ _ (by rfl) a.heap.size (by rfl) (by rfl) (HS.out.ext (by first|exact eR'.dL|exact eR'.dL.aB _)) (by omega) (by simp) ?_
      intro A1 k1 w2 g Vx;have s:Hid (Ext a w2):=dW (by first|exact eR'.dL|exact eR'.dL.aB _) Vx (by intro k y;cases y)
      obtain⟨e0,e1,e2⟩:=I.out _ s.out)
    |(refine P7 (by rfl) _ _ (by rfl) a.heap.size (by rfl) (show uY _ _ A1 L.length k1 L from by first|exact g|exact g.ext (eR'.aB _)) (by rfl) (show bQ _ ⟨some ⟨_,0,none⟩,1,1⟩ [⟨m,o,v⟩]from by first|exact Po _ _ _ _ _|exact(CJ H m o v 70).ext (dW eR'.dL Vx (by intro k y;cases y))) (by omega) (by first|exact s.out.b.size|exact(s.out.aB _).b.size) ?_
      intro A2 k2 J i K ag;have C:Hid (Ext a J):=dW (by first|exact s.out|exact s.out.aB _) K (λk y=>(g.lt k y).1)
      obtain⟨O,ai⟩:=HC.out J C.out))
  all_goals
   have t:=r.trans' C.out;go_wp2;go_end0;refine⟨rfl,⟨⟨A2,_,k2,World.cell?_setCell_same _ _ _ O,?_,?_⟩,(Kp.bY t).trans (Kp.setCell _ _ _ _ (by simp)),λk y=>?_,λk=>?_,(hb.trans' t).kQ R _⟩⟩
   .rw[G.out];exact(uY.hidden i (λb x=>by have:=B b x;omega)).keep (gy (Kp.setCell M J _ _ hM))
   .intro b x;have h1:=i.lt b x;exact⟨by omega,λh2=>by have:=B b h2;omega,by simpa using h1.2,λk=>by rw[World.frozen?_setCell];exact Own.unfr i b x k⟩
   .rw[World.cell?_setCell_other _ _ _ _ (by intro e;injection e with _ e;exact y e.symm)];exact t.b.cell (p:=⟨d,k,none⟩) q
   .rw[World.frozen?_setCell];exact t.b.frozen (p:=⟨d,k,none⟩) q
 .have hd:decide (0<v)=false:=by rw[aA];exact E
  have G:Hid (jk L m o v=L):=ah (nN' E);go_enter func36,ntmps36;go_wp2_with fail;have Y:=ah h;have z:Ext w (w.alloc (.cells #[.int .i64 m,.int .i64 o,.int .i64 Q] 70)):=eR'.aB _;go_end0;refine⟨rfl,⟨⟨_,_,_,bg (bD z) S,?_,F.out.kp (N:=[]) (Kp.bY z) (λ_ h=>by cases h) (λ_ h=>.inl h)⟩,Kp.bY z,λk _=>z.b.cell (p:=⟨d,k,none⟩) q,λk=>z.b.frozen (p:=⟨d,k,none⟩) q,hb.trans' z⟩⟩;rw[G.out];exact Y.out.keep (gy (Kp.bY z))
def Ue(u:Us)(r:List Int):Us×List Int:=
 let r1:=bM r
 let r2:=bM r1
 let r3:=bM r2
 let r4:=bM r3
 let r5:=bM r4
 (⟨gq r [u.cat,2,1],gq r1 [u.cls,0,1,9,202,220,230,254],gq r2 [u.dM,0,1,2,3,4,5],gq r3 [u.cO,0,1,2,3,4,8,10,11],gq r4 [u.scr,0,1,2,3,6,7,9,10],gq r5 [u.bn,0,1,2,4]⟩,bM r5)
def vM(wild:Bool)(c:Int)(r:List Int):Us×List Int:=if wild=true then Ue (usV c) r else(usV c,r)
def Bf(wild:Bool)(c:Int)(r:List Int):Bool×List Int:=if c=173 then(true,r)else if wild=true then(aT 12 r==0,r.tail)else(false,r)
structure kU where
 cat:List Sp
 cls:List Sp
 dM:List Sp
 cO:List Sp
 scr:List Sp
 bP:List Sp
 bn:List Int
def yL(wild:Bool)(c:Int)(C:kU)(r:List Int):kU×List Int:=
 let u:=vM wild c r
 let g:=Bf wild c u.2
 (⟨jk C.cat c c u.1.cat,jk C.cls c c u.1.cls,jk C.dM c c u.1.dM,jk C.cO c c u.1.cO,jk C.scr c c u.1.scr,if g.1=true then C.bP++[⟨c,c,1⟩]else C.bP,C.bn++[u.1.bn]⟩,g.2)
def He(wild:Bool):List Int->kU->List Int->kU×List Int
 |[],C,r=>(C,r)
 |c::l,C,r=>He wild l (yL wild c C r).1 (yL wild c C r).2
theorem Cc(L:List Sp)(a b v:Int):(jk L a b v).length<=L.length+1:=by
 unfold jk;split<;>simp
def iV(M:List Nat)(w:World)(tb j:Nat)(L:List Sp):Prop:=∃A n c,w.cell? ⟨tb,j,none⟩=some (.slice A n c)/\bQ (hide M w) ⟨A,n,c⟩ L/\w.frozen? ⟨tb,j,none⟩=false/\Fr M w tb A
theorem iV.kp{M N:List Nat}{w w':World}{d j:Nat}{L:List Sp}(h:iV M w d j L)(f:Kp N w w')(i:∀b∈N,b∈M\/w.heap.size<=b)(ht:d∉N):iV M w' d j L:=by
 obtain⟨A,n,c,g,k,l,m⟩:=h;have a:=World.block_lt_of_cell? w _ g;exact⟨A,n,c,by rw[f.cell _ a ht];exact g,k.keep (gy (f.mono i)),by rw[f.frozen ⟨d,j,none⟩ a ht];exact l,m.kp f i (λ_ h=>.inl h)⟩
theorem iV.add{M:List Nat}{q w w':World}{d j k:Nat}{L r:List Sp}(h:iV M w d k L)(f:xB M q w w' d j r)(g:k≠j)(i:d∈M):iV M w' d k L:=by
 obtain⟨A,n,c,l,m,o,p⟩:=h;exact⟨A,n,c,(f.other k g).trans l,m.keep (gy (f.kp.mono (by intro b a;simp at a;subst a;exact .inl i))),(f.frozen k).trans o,p.kp f.kp (by intro b a;simp at a;subst a;exact .inl i) (λ_ h=>.inl h)⟩
theorem iV.self{M:List Nat}{p w w':World}{a j:Nat}{L b:List Sp}(h:iV M w a j L)(d:xB M p w w' a j b):iV M w' a j b:=by
 obtain⟨A,n,c,_,_,f,_⟩:=h;obtain⟨g,i,k,l,m,o⟩:=d.row;exact⟨g,i,k,l,m,(d.frozen j).trans f,o⟩
theorem iV.nil_{M:List Nat}{w:World}{a j:Nat}(h:w.cell? ⟨a,j,none⟩=some (.slice none 0 0))(d:w.frozen? ⟨a,j,none⟩=false):iV M w a j []:=⟨none,0,0,h,bQ.nil_ _,d,λb c=>by cases c⟩
theorem AQ(M:List Nat)(d w:World)(a j:Nat)(L:List Sp)(f g l v:Int)(r:a∈M)(i:∀b∈M,b<w.heap.size)(s:Ext d w)(k:d.heap.size<=a)(h:iV M w a j L)(t:L.length<=1000):
 Calls prog 36 #[.pointer (some ⟨a,j,none⟩),.agg #[.int .i64 f,.int .i64 g,.int .i64 l],.int .i64 v] w λe w'=>e=.returned (.tuple #[])/\xB M d w w' a j (jk L f g v):=by
 obtain⟨A,n,c,m,o,p,q⟩:=h;exact aEY M d w a j A n c L f g l v r i s k m p o t q
def zH:List Int:=[0x301,0x308,0x323,0x345,0x3b1]
def sQ(k:Nat)(r:List Int):Int×List Int:=
 if k=0 then(97+aT 2 r,r.tail)else if aT 3 r.tail=0 then(7680+aT k r.tail.tail,r.tail.tail.tail)else(97+aT 2 r,r.tail.tail)
def vk(k:Nat)(r:List Int):List Int×List Int:=
 if 0<aT 8 (sQ k r).2 then([(sQ k r).1,zH.getD (aT 5 (sQ k r).2.tail).toNat 0],(sQ k r).2.tail.tail)else([(sQ k r).1],(sQ k r).2.tail)
def wJ(to:List Int):Bool->List Mp->Bool
 |b,[]=>b
 |b,m::r=>wJ to (b||jK m.to to) r
structure qN where
 dec:List Mp
 exc:List Int
def stepD(k:Nat)(D:qN)(r:List Int):qN×List Int:=
 if aT 4 r=0 then(D,r.tail)else
  (⟨D.dec++[⟨7680+k,(vk k r.tail).1⟩],if wJ (vk k r.tail).1 (aT 6 (vk k r.tail).2==0) D.dec=true then D.exc++[7680+(k:Int)]else D.exc⟩,(vk k r.tail).2.tail)
def yN:Nat->Nat->qN->List Int->qN×List Int
 |0,_,D,r=>(D,r)
 |n+1,k,D,r=>yN n (k+1) (stepD k D r).1 (stepD k D r).2
structure Mps where
 mps:List Mp
 bn:List Sp
def sS(c:Int)(r:List Int):Bool×List Int:=if(c==128512||c==7684)=true then(true,r)else if c=947 then(aT 2 r==0,r.tail)else(false,r)
def nZ(r:List Int):List Int×List Int:=(if aT 2 r.tail=0 then[97+aT 3 r,46]else[97+aT 3 r],r.tail.tail)
def stepM(c st:Int)(M:Mps)(r:List Int):Mps×List Int:=
 if(sS c r).1=true then
  if 0<aT 3 (nZ (sS c r).2).2 then(⟨M.mps++[⟨c,(nZ (sS c r).2).1⟩],jk M.bn c c 3⟩,(nZ (sS c r).2).2.tail)else(⟨M.mps,jk M.bn c c st⟩,(nZ (sS c r).2).2.tail)
 else(⟨M.mps,jk M.bn c c st⟩,(sS c r).2)
def runM:List Int->List Int->Mps->List Int->Mps×List Int
 |c::cs,st::ss,M,r=>runM cs ss (stepM c st M r).1 (stepM c st M r).2
 |_,_,M,r=>(M,r)
def kG:List Mp:=[⟨48,[111]⟩,⟨109,[114,110]⟩,⟨945,[97]⟩,⟨1072,[97]⟩,⟨1632,[111,803]⟩]
def Ll(bP:List Sp)(m:Mp)(P:List Mp)(r:List Int):List Mp×List Int:=
 (if((aT 3 r==0)||(fJ bP m.lo==1)||(fJ bP (nU m.to)==1))=true then P else P++[m],r.tail)
def wU(bP:List Sp):List Mp->List Mp->List Int->List Mp×List Int
 |[],P,r=>(P,r)
 |m::l,P,r=>wU bP l (Ll bP m P r).1 (Ll bP m P r).2
def Lc:kU:=⟨[],[],[],[],[],[],[]⟩
def zJ(l:List Int):kU×List Int:=He (aT 3 l==0) fH Lc l.tail
def H7(l:List Int):qN×List Int:=yN 5 0 ⟨[],[]⟩ (zJ l).2
def H9(l:List Int):Mps×List Int:=runM fH (zJ l).1.bn ⟨[],[]⟩ (H7 l).2
def GV(l:List Int):List Mp×List Int:=wU (zJ l).1.bP kG [] (H9 l).2
def KY(l:List Int):List Mp:=if aT 2 (GV l).2=0 then[⟨12539,[7,8]⟩]else[]
def mkT(C:kU)(D:qN)(M:Mps)(P E:List Mp):aj:=⟨C.cat,C.cls,C.dM,C.cO,C.scr,M.bn,C.bP,E,M.mps,D.dec,D.exc,P⟩
def jX(l:List Int):aj:=mkT (zJ l).1 (H7 l).1 (H9 l).1 (GV l).1 (KY l)
structure kX(a b:Int)(pre:List Int)(L:List Sp):Prop where
 one:∀s∈L,s.lo=s.hi/\s.lo∈pre
 ord:L.Pairwise λs t=>s.hi<t.lo
 val:∀s∈L,a<=s.val/\s.val<=b
theorem kX.nil_(a b:Int)(pre:List Int):kX a b pre []:=⟨λs h=>(by cases h),.nil,λs h=>(by cases h)⟩
theorem kX.pre{a b:Int}{pre:List Int}{L:List Sp}(h:kX a b pre L)(c:Int):kX a b (pre++[c]) L:=
 ⟨λs d=>⟨(h.one s d).1,by simp[(h.one s d).2]⟩,h.ord,h.val⟩
theorem kX.snoc{a b:Int}{pre:List Int}{L:List Sp}(h:kX a b pre L){c v:Int}(f:∀x∈pre,x<c)(g:a<=v)(i:v<=b):kX a b (pre++[c]) (L++[⟨c,c,v⟩]):=by
 refine⟨λs d=>?_,?_,λs d=>?_⟩
 .rw[List.mem_append,List.mem_singleton]at d;rcases d with d|rfl
  .exact(h.pre c).one s d
  .simp
 .rw[List.pairwise_append];refine⟨h.ord,List.pairwise_singleton _ _,λs d t ht=>?_⟩;rw[List.mem_singleton]at ht;subst ht;have:=h.one s d;have:=f _ this.2;show s.hi<c
  omega
 .rw[List.mem_append,List.mem_singleton]at d;rcases d with d|rfl
  .exact h.val s d
  .exact⟨g,i⟩
theorem kX.add{a b:Int}{pre:List Int}{L:List Sp}(h:kX a b pre L){c v:Int}(f:∀x∈pre,x<c)(g:0<v->a<=v)(i:v<=b):kX a b (pre++[c]) (jk L c c v):=by
 unfold jk;by_cases d:0<v
 .rw[pP' d];exact h.snoc f (g d) i
 .rw[nN' d];exact h.pre c
theorem kX.len{a b:Int}{pre:List Int}{L:List Sp}(h:kX a b pre L)(i:pre=fH):L.length<=28:=by
 have f:(L.map Sp.lo).Nodup:=by
  rw[List.nodup_iff_pairwise_ne,List.pairwise_map];refine(List.Pairwise.and_mem.1 h.ord).imp ?_;intro s t ⟨c,_,g⟩ e;have:=(h.one s c).1;omega
 have c:(L.map Sp.lo) ⊆ fH:=by
  intro x d;rw[List.mem_map]at d;obtain⟨s,c,rfl⟩:=d;rw[<- i];exact(h.one s c).2
 have:=f.length_le_of_subset c;simpa[fH]using this
theorem aBr:∀c∈fH,0<=c/\c<=1114111:=by decide
theorem aG0:∀c∈fH,qK c c wK=true:=by decide
theorem aEk{last:Int}{L:List Sp}(b:∀s∈L,last<s.lo/\s.lo=s.hi/\0<=s.lo/\s.lo<=1114111)(a:L.Pairwise λs t=>s.hi<t.lo):chain 0 1114111 last L=true:=by
 induction L generalizing last with
 |nil=>rfl
 |cons s r ih=>
  obtain⟨c,d,f,g⟩:=b s (by simp);rw[QL (by omega)];rw[List.pairwise_cons]at a;refine ih (λt ht=>?_) a.2;have:=a.1 t ht;have:=b t (by simp[ht]);exact⟨by omega,this.2⟩
theorem kX.range{a b:Int}{L:List Sp}(h:kX a b fH L):lu 0 1114111 L=true:=by
 have d:=h.len rfl;unfold lu;rw[aEk (λs c=>by have:=h.one s c;have:=aBr _ this.2;omega) h.ord];simp;omega
theorem kX.out{a b:Int}{L:List Sp}(h:kX a b fH L):oK L=true:=by
 have:∀M:List Sp,(∀s∈M,s∈L)->oK M=true:=by
  intro M c
  induction M with
  |nil=>rfl
  |cons s r ih=>
   have d:=h.one s (c s (by simp));rw[oK,ih λt ht=>c t (by simp[ht])];unfold outsideB;rw[<- d.1,aG0 _ d.2];rfl
 exact this L λ_ h=>h
theorem kX.none{a b:Int}{pre:List Int}{L:List Sp}(h:kX a b pre L){c:Int}(d:c∉pre):fJ L c=0:=
 G6 λs hs⟨h1,h2⟩=>by
  have:=h.one s hs;exact d (by rw[show c=s.lo from by omega];exact this.2)
theorem Sm(r:List Int){vs:List Int}(h:0<vs.length):gq r vs∈vs:=by
 unfold gq;by_cases a:0<aT 3 r
 .rw[pP' a,getD_lt _ _ _ h];exact gM' _
 .rw[nN' a];have:=gJ r.tail (n:=(vs.length:Int)) (by omega);rw[getD_lt _ _ _ (by omega)];exact gM' _
theorem Em(r:List Int){vs:List Int}(b:Int)(h:0<vs.length)(a:∀x∈vs,x<=b):gq r vs<=b:=a _ (Sm r h)
theorem usV_bd:∀c∈fH,(usV c).cat<=8/\(usV c).cls<=254/\(usV c).dM<=5/\(usV c).cO<=11/\(usV c).scr<=60/\(usV c).bn<=4/\(usV c).bn≠3:=by decide
theorem aHT(a:Bool)(c:Int)(l:c∈fH)(r:List Int):let u:=(vM a c r).1;u.cat<=8/\u.cls<=254/\u.dM<=5/\u.cO<=11/\u.scr<=60/\u.bn<=4/\u.bn≠3:=by
 obtain⟨b,d,f,g,h,i,j⟩:=usV_bd c l;unfold vM;cases a
 .exact⟨b,d,f,g,h,i,j⟩
 .simp only[pP',Ue];refine⟨Em _ _ (by simp) ?_,Em _ _ (by simp) ?_,Em _ _ (by simp) ?_,Em _ _ (by simp) ?_,Em _ _ (by simp) ?_,?_⟩
  iterate 5
   .intro x k;simp only[List.mem_cons,List.not_mem_nil,or_false]at k;omega
  .have:=Sm (bM (bM (bM (bM (bM r))))) (vs:=[(usV c).bn,0,1,2,4]) (by simp);simp only[List.mem_cons,List.not_mem_nil,or_false]at this;omega
structure JM(pre:List Int)(C:kU):Prop where
 cat:kX 1 8 pre C.cat
 cls:kX 1 254 pre C.cls
 dM:kX 1 5 pre C.dM
 cO:kX 1 11 pre C.cO
 scr:kX 1 60 pre C.scr
 bP:kX 1 1 pre C.bP
 len:C.bn.length=pre.length
 bn:∀x∈C.bn,x<=4/\x≠3
theorem JM.step{pre:List Int}{C:kU}(h:JM pre C)(a:Bool)(c:Int)(n:c∈fH)(b:∀x∈pre,x<c)(r:List Int):JM (pre++[c]) (yL a c C r).1:=by
 obtain⟨f,g,i,j,k,l,m⟩:=aHT a c n r;unfold yL;refine⟨h.cat.add b (by omega) f,h.cls.add b (by omega) g,h.dM.add b (by omega) i,h.cO.add b (by omega) j,h.scr.add b (by omega) k,?_,by simp[h.len],?_⟩
 .simp only;split
  .exact h.bP.snoc b (by omega) (by omega)
  .exact h.bP.pre c
 .intro x d;simp only[List.mem_append,List.mem_singleton]at d;rcases d with d|rfl
  .exact h.bn x d
  .exact⟨l,m⟩
structure Keys(pre:List Int)(L:List Mp):Prop where
 mem:∀m∈L,m.lo∈pre
 ord:L.Pairwise λs t=>s.lo<t.lo
theorem Keys.snoc{pre:List Int}{L:List Mp}(h:Keys pre L){m:Mp}(b:∀x∈pre,x<m.lo):Keys (pre++[m.lo]) (L++[m]):=by
 refine⟨λs a=>?_,?_⟩
 .rw[List.mem_append,List.mem_singleton]at a;rcases a with a|rfl
  .simp[h.mem s a]
  .simp
 .rw[List.pairwise_append];refine⟨h.ord,List.pairwise_singleton _ _,λs a t ht=>?_⟩;rw[List.mem_singleton]at ht;subst ht;exact b _ (h.mem s a)
theorem Keys.pre{pre:List Int}{L:List Mp}(h:Keys pre L)(c:Int):Keys (pre++[c]) L:=⟨λm a=>by simp[h.mem m a],h.ord⟩
theorem Keys.len{pre:List Int}{L:List Mp}(h:Keys pre L):L.length<=pre.length:=by
 have c:(L.map Mp.lo).Nodup:=by
  rw[List.nodup_iff_pairwise_ne,List.pairwise_map];exact h.ord.imp λd e=>by omega
 have a:(L.map Mp.lo) ⊆ pre:=by
  intro x b;rw[List.mem_map]at b;obtain⟨s,a,rfl⟩:=b;exact h.mem s a
 have:=c.length_le_of_subset a;simpa using this
theorem Keys.none{pre:List Int}{L:List Mp}(h:Keys pre L){c:Int}(b:c∉pre):aJ L c=[]:=
 BR λs a e=>b (by rw[<- e];exact h.mem s a)
theorem a8Y{L:List Mp}{c:Int}(h:aJ L c≠[]):∃m∈L,m.lo=c/\aJ L c=m.to:=by
 induction L with
 |nil=>exact absurd rfl h
 |cons m r ih=>
  rw[aJ]at h |-;by_cases a:m.lo=c
  .rw[pP' a];exact⟨m,by simp,a,rfl⟩
  .rw[nN' a]at h |-;obtain⟨b,d,f⟩:=ih h;exact⟨b,by simp[d],f⟩
def Cm:List Int:=[7680,7681,7682,7683,7684]
structure yC(k:Nat)(D:qN):Prop where
 keys:∀m∈D.dec,7680<=m.lo/\m.lo<7680+k
 ord:D.dec.Pairwise λs t=>s.lo<t.lo
 to:∀m∈D.dec,∃a,(a=97\/a=98\/7680<=a/\a<m.lo)/\(m.to=[a]\/∃b∈zH,m.to=[a,b])
 exc:∀x∈D.exc,∃m∈D.dec,m.lo=x
 LX:D.exc.Pairwise (· < ·)
 uniq:D.dec.Pairwise λs t=>t.lo∉D.exc->s.to≠t.to
theorem aCf(k:Nat)(r:List Int):(sQ k r).1=97\/(sQ k r).1=98\/7680<=(sQ k r).1/\(sQ k r).1<7680+k:=by
 have a:=gJ r (n:=2) (by omega);unfold sQ;split
 .simp only;omega
 .split
  .have:=gJ r.tail.tail (n:=(k:Int)) (by omega);simp only;omega
  .simp only;omega
theorem aCg(k:Nat)(r:List Int):∃a,(a=97\/a=98\/7680<=a/\a<7680+(k:Int))/\((vk k r).1=[a]\/∃b∈zH,(vk k r).1=[a,b]):=by
 refine⟨(sQ k r).1,aCf k r,?_⟩;unfold vk;split
 .right;have c:=gJ (sQ k r).2.tail (n:=5) (by omega);refine⟨_,?_,rfl⟩;rw[getD_lt _ _ _ (by simp[zH];omega)];exact gM' _
 .left;rfl
theorem Zc{a:List Int}{b:Bool}{L:List Mp}(h:wJ a b L=false):∀m∈L,m.to≠a:=by
 induction L generalizing b with
 |nil=>intro m g;cases g
 |cons m r ih=>
  rw[wJ]at h;have i:∀f:List Mp,wJ a true f=true:=by
   intro f
   induction f with
   |nil=>rfl
   |cons x y ihy=>rw[wJ,Bool.true_or,ihy]
  have c:jK m.to a=false:=by
   cases c:jK m.to a
   .rfl
   .rw[c,Bool.or_true,i]at h;cases h
  intro x d;rw[List.mem_cons]at d;rcases d with rfl|d
  .intro e;rw[(J9 _ _).2 e]at c;cases c
  .exact ih h x d
theorem yC.mono{k:Nat}{D:qN}(h:yC k D):yC (k+1) D:=
 ⟨λm a=>by have:=h.keys m a;omega,h.ord,h.to,h.exc,h.LX,h.uniq⟩
theorem yC.step{k:Nat}{D:qN}(h:yC k D)(r:List Int):yC (k+1) (stepD k D r).1:=by
 unfold stepD;split
 .exact h.mono
 .obtain⟨a,q,l⟩:=aCg k r.tail;generalize w:vk k r.tail=s at*;have n:∀x∈D.exc,x<7680+(k:Int):=by
   intro x i;obtain⟨m,c,rfl⟩:=h.exc x i;exact(h.keys m c).2
  have f:∀m∈D.dec++[(⟨7680+k,s.1⟩:Mp)],7680<=m.lo/\m.lo<7680+((k+1:Nat):Int):=by
   intro m c;rw[List.mem_append,List.mem_singleton]at c;rcases c with c|rfl
   .have:=h.keys m c;omega
   .simp only;omega
  have j:(D.dec++[(⟨7680+k,s.1⟩:Mp)]).Pairwise λs t=>s.lo<t.lo:=by
   rw[List.pairwise_append];refine⟨h.ord,List.pairwise_singleton _ _,λm c t ht=>?_⟩;rw[List.mem_singleton]at ht;subst ht;exact(h.keys m c).2
  have p:∀m∈D.dec++[(⟨7680+k,s.1⟩:Mp)],∃a,(a=97\/a=98\/7680<=a/\a<m.lo)/\(m.to=[a]\/∃b∈zH,m.to=[a,b]):=by
   intro m c;rw[List.mem_append,List.mem_singleton]at c;rcases c with c|rfl
   .exact h.to m c
   .exact⟨a,q,l⟩
  cases ht:wJ s.1 (aT 6 s.2==0) D.dec
  .simp only[Bool.false_eq_true,if_false];refine⟨f,j,p,λx i=>?_,h.LX,?_⟩
   .obtain⟨m,c,e⟩:=h.exc x i;exact⟨m,by simp[c],e⟩
   .rw[List.pairwise_append];refine⟨h.uniq,List.pairwise_singleton _ _,λm c t d=>?_⟩;rw[List.mem_singleton]at d;subst d;exact λ_=>Zc ht m c
  .simp only[if_true];refine⟨f,j,p,λx i=>?_,?_,?_⟩
   .rw[List.mem_append,List.mem_singleton]at i;rcases i with i|rfl
    .obtain⟨m,c,e⟩:=h.exc x i;exact⟨m,by simp[c],e⟩
    .exact⟨⟨7680+(k:Int),s.1⟩,by simp,rfl⟩
   .rw[List.pairwise_append];refine⟨h.LX,List.pairwise_singleton _ _,λx i t d=>?_⟩;rw[List.mem_singleton]at d;subst d;exact n x i
   .rw[List.pairwise_append];refine⟨?_,List.pairwise_singleton _ _,λm c t d=>?_⟩
    .exact h.uniq.imp λ{s t}g o=>g λc=>o (by simp[c])
    .rw[List.mem_singleton]at d;subst d;exact λo=>absurd (by simp) o
section
variable {D:qN}(h:yC 5 D)
include h
theorem yC.Cm:Keys Cm D.dec:=⟨λm a=>by have:=h.keys m a;simp only[Go.Proofs.YtlmkgaoakcjlnaaGreatDoor.Cm,List.mem_cons,List.not_mem_nil,or_false];omega,h.ord⟩
theorem yC.none_{c:Int}(a:c<7680\/7684<c):aJ D.dec c=[]:=h.Cm.none (by simp only[Go.Proofs.YtlmkgaoakcjlnaaGreatDoor.Cm,List.mem_cons,List.not_mem_nil,or_false];omega)
omit h in
theorem aFd:∀b∈zH,b<7680:=by decide
theorem yC.size(n:Nat)(c:Int)(G:(D.dec.filter λm=>decide (m.lo<=c)).length<=n):dS D.dec n c<=(D.dec.filter λm=>decide (m.lo<=c)).length+1:=by
 induction n generalizing c with
 |zero=>
  have w:(D.dec.filter λm=>decide (m.lo<=c))=[]:=List.eq_nil_of_length_eq_zero (by omega);have:aJ D.dec c=[]:=BR λm f e=>by
   have:m∈D.dec.filter λm=>decide (m.lo<=c):=by rw[List.mem_filter];exact⟨f,by simp[e]⟩
   rw[w]at this;cases this
  rw[dS,pP' this];omega
 |succ n ih=>
  rw[dS];by_cases l:aJ D.dec c=[]
  .rw[pP' l];omega
  .rw[nN' l];obtain⟨m,f,rfl,e⟩:=a8Y l;obtain⟨a,s,g⟩:=h.to m f;have z:(D.dec.filter λx=>decide (x.lo<=m.lo)).length<=5:=Nat.le_trans (List.length_filter_le _ _) h.Cm.len;have A:dS D.dec n a+1<=(D.dec.filter λx=>decide (x.lo<=m.lo)).length+1:=by
    have t:0<(D.dec.filter λx=>decide (x.lo<=m.lo)).length:=List.length_pos_of_mem (List.mem_filter.2 ⟨f,by simp⟩);rcases s with rfl|rfl|s
    .have B:dS D.dec n 97=1:=(by cases n<;>rw[dS,pP' (h.none_ (by omega))]);omega
    .have B:dS D.dec n 98=1:=(by cases n<;>rw[dS,pP' (h.none_ (by omega))]);omega
    .have C:(D.dec.filter λx=>decide (x.lo<=a)).length+1<=(D.dec.filter λx=>decide (x.lo<=m.lo)).length:=by
      have i:((D.dec.filter λx=>decide (x.lo<=a))++[m]).Sublist (D.dec.filter λx=>decide (x.lo<=m.lo)):=by
       have d:=h.ord;generalize D.dec=L at f d |-
       induction L with
       |nil=>cases f
       |cons x r ihr=>
        rw[List.pairwise_cons]at d;rw[List.mem_cons]at f;rcases f with rfl|f
        .have E:(m::r).filter (λx=>decide (x.lo<=a))=[]:=by
          rw[List.filter_eq_nil_iff];intro y k;rw[List.mem_cons]at k;rcases k with rfl|k
          .simp;omega
          .have:=d.1 y k;simp;omega
         rw[E,List.nil_append,List.filter_cons_of_pos (by simp)];exact List.singleton_sublist.2 (by simp)
        .have:=d.1 m f;rw[List.filter_cons_of_pos (p:=λx:Mp=>decide (x.lo<=m.lo)) (a:=x) (by simp;omega)];by_cases F:x.lo<=a
         .rw[List.filter_cons_of_pos (by simp[F]),List.cons_append];exact(ihr f d.2).cons_cons x
         .rw[List.filter_cons_of_neg (by simp;omega)];exact(ihr f d.2).cons x
      have:=i.length_le;simpa using this
     have:=ih a (by omega);omega
   rw[e];have j:∀b∈zH,dS D.dec n b=1:=by
    intro b o;have q:aJ D.dec b=[]:=h.none_ (.inl (aFd b o));cases n<;>rw[dS,pP' q]
   rcases g with g|⟨b,o,g⟩
   .rw[g];simp only[szL];rw[nN' (by omega)];omega
   .rw[g];simp only[szL];rw[j b o,nN' (by omega),nN' (by omega)];omega
end
structure yF(pre:List Int)(M:Mps):Prop where
 bn:kX 1 4 pre M.bn
 keys:Keys pre M.mps
 to:∀m∈M.mps,∃a,97<=a/\a<=99/\(m.to=[a]\/m.to=[a,46])
 map:∀m∈M.mps,⟨m.lo,m.lo,3⟩∈M.bn
 sum:∀n,oG n M.bn=n+M.mps.length
theorem PD(n:Int)(L:List Sp)(s:Sp):oG n (L++[s])=if s.val=3 then oG n L+(s.hi-s.lo+1)else oG n L:=by
 induction L generalizing n with
 |nil=>simp[oG]
 |cons t r ih=>rw[List.cons_append,oG,oG,ih]
theorem yF.plain{pre:List Int}{M:Mps}(h:yF pre M){c a:Int}(d:∀x∈pre,x<c)(f:a<=4)(g:a≠3):yF (pre++[c]) ⟨M.mps,jk M.bn c c a⟩:=by
 refine⟨h.bn.add d (by omega) f,h.keys.pre c,h.to,λm b=>?_,λn=>?_⟩
 .have:=h.map m b;unfold jk;split
  .simp[this]
  .exact this
 .unfold jk;split
  .simp only;rw[PD,nN' g];exact h.sum n
  .exact h.sum n
theorem yF.mapped{pre:List Int}{M:Mps}(h:yF pre M){c:Int}(g:∀x∈pre,x<c){b:List Int}(ht:∃a,97<=a/\a<=99/\(b=[a]\/b=[a,46])):yF (pre++[c]) ⟨M.mps++[⟨c,b⟩],jk M.bn c c 3⟩:=by
 have f:kX 1 4 (pre++[c]) (jk M.bn c c 3):=h.bn.add g (by omega) (by omega);refine⟨f,h.keys.snoc (m:=⟨c,b⟩) g,λm d=>?_,λm d=>?_,λn=>?_⟩
 .rw[List.mem_append,List.mem_singleton]at d;rcases d with d|rfl
  .exact h.to m d
  .exact ht
 .rw[List.mem_append,List.mem_singleton]at d;rw[jk,pP' (by omega),List.mem_append,List.mem_singleton];rcases d with d|rfl
  .exact .inl (h.map m d)
  .exact .inr rfl
 .simp only[jk];rw[pP' (by omega),PD,pP' rfl,h.sum n];simp;omega
theorem aFb(r:List Int):∃a,97<=a/\a<=99/\((nZ r).1=[a]\/(nZ r).1=[a,46]):=by
 have h:=gJ r (n:=3) (by omega);refine⟨97+aT 3 r,by omega,by omega,?_⟩;unfold nZ;split
 .exact .inr rfl
 .exact .inl rfl
theorem yF.step{pre:List Int}{M:Mps}(h:yF pre M){c a:Int}(b:∀x∈pre,x<c)(d:a<=4)(f:a≠3)(r:List Int):yF (pre++[c]) (stepM c a M r).1:=by
 unfold stepM;split
 .split
  .exact h.mapped b (aFb _)
  .exact h.plain b d f
 .exact h.plain b d f
structure aVx(bP:List Sp)(P:List Mp):Prop where
 sub:∃Q:List Mp,P.Sublist Q/\Q=kG
 bP:∀m∈P,fJ bP m.lo≠1/\fJ bP (nU m.to)≠1
theorem KD:cW' 141 #[.int .i64 c] w (.bool (bf c)):=by
 go_enter func141,ntmps141;go_wp2
 all_goals(go_ret;refine⟨aP ?_,rfl⟩;(first|(simp[bf, *];done)|(rw[Bool.eq_iff_iff];simp[bf];omega)|(simp[bf, *];omega)))
theorem yA:cW' 206 #[.int .i64 c] w (.int .i64 (utfLen c)):=by
 cases a:bf c
 .have H:=ah a;clear a;go_enter func206,ntmps206;go_wp2_with(go_at_call 141;refine(KD _ _).mono ?_;rintro e w'⟨rfl,rfl⟩;rw[H.out])
  all_goals(go_ret;refine⟨aV ?_,rfl⟩;simp[utfLen,H.out])
 .have H:=ah a;clear a;go_enter func206,ntmps206;go_wp2_with(go_at_call 141;refine(KD _ _).mono ?_;rintro e w'⟨rfl,rfl⟩;rw[H.out])
  all_goals(go_ret;refine⟨aV ?_,rfl⟩;simp[utfLen,H.out];try omega)
theorem FQ:cW' 214 #[.int .i64 c] w (.bool (bG c)):=by
 go_enter func214,ntmps214;go_wp2
 all_goals(go_ret;refine⟨aP ?_,rfl⟩;(first|(simp[bG, *];done)|(rw[Bool.eq_iff_iff];simp[bG];omega)|(simp[bG, *];omega)))
theorem Kr:cW' 215 #[.int .i64 c] w (.bool (dN c)):=by
 go_enter func215,ntmps215;go_wp2
 all_goals(go_ret;refine⟨aP ?_,rfl⟩;(first|(simp[dN, *];done)|(rw[Bool.eq_iff_iff];simp[dN];omega)|(simp[dN, *];omega)))
theorem Z9:cW' 288 #[.int .i64 c] w (.bool (tu c)):=by
 go_enter func288,ntmps288;go_wp2
 all_goals(go_ret;refine⟨aP ?_,rfl⟩;(first|(simp[tu, *];done)|(rw[Bool.eq_iff_iff];simp[tu];omega)|(simp[tu, *];omega)))
theorem aD7:cW' 212 #[.int .i64 c] w (.bool (nameB c)):=by
 go_enter func212,ntmps212;go_wp2
 all_goals(go_ret;refine⟨aP ?_,rfl⟩;(first|(simp[nameB, *];done)|(rw[Bool.eq_iff_iff];simp[nameB];omega)|(simp[nameB, *];omega)))
theorem Ju:cW' 265 #[.int .i64 c] w (.bool (fM c)):=by
 have H:Hid (fM c=(decide (0<=c)&&decide (c<=127)||tu c||bG c||dN c)):=rfl;go_enter func265,ntmps265
 go_wp2_with(first
  |(go_at_call 288;refine(Z9 _ _).mono ?_;rintro e w'⟨rfl,rfl⟩;cases a:tu c)
  |(go_at_call 214;refine(FQ _ _).mono ?_;rintro e w'⟨rfl,rfl⟩;cases b:bG c)
  |(go_at_call 215;refine(Kr _ _).mono ?_;rintro e w'⟨rfl,rfl⟩;cases d:dN c))
 all_goals(go_ret;refine⟨aP ?_,rfl⟩;rw[H.out];(first|(simp[*];done)|(simp[*];omega)))
theorem Qy(last c:Int)(w:World):cW' 211 #[.int .i64 last,.int .i64 c] w (.bool (wL last c)):=by
 have H:Hid (wL last c=(decide (last<c)&&decide (c<=1114111)&& !fM c)):=rfl;go_enter func211,ntmps211;go_wp2_with(go_at_call 265;refine(Ju _ _).mono ?_;rintro e w'⟨rfl,rfl⟩;cases a:fM c)
 all_goals(go_ret;refine⟨aP ?_,rfl⟩;rw[H.out];(first|(simp[*];done)|(simp[*];omega)))
theorem ZC(A:Option Addr)(n c:Nat)(l:List Sp)(f g:Int)(w:World)(h:bQ w ⟨A,n,c⟩ l):
 cE' 209 #[.slice A n c,.int .i64 f,.int .i64 g] w (.bool (lu f g l)):=by
 obtain⟨p,q,r⟩:=h.len;subst p;go_enter func209,ntmps209;go_wp2;go_loopw[7,12] (λs i wr=>∃(k:Nat)(last:Int),k<=l.length/\i=.int .i64 k/\s=.int .i64 last/\Hid (lu f g l=(chain f g last (l.drop k)&&decide ((l.length:Int)<=256)))/\Ext w wr) (λ_ i _=>l.length-(intOf i).toNat);exact⟨0,-1,zl' _,rfl,rfl,rfl,eR'⟩;obtain⟨k,last,D,rfl,rfl,j,d⟩:=hrel;by_cases a:k<l.length
 .obtain⟨b,o,t,y,z,B⟩:=(bQ.ext h d).at_ a;subst t;have m:=ah (drop_at l k a);generalize l[k]=x at*;obtain⟨E,C,F⟩:=x;simp only at y z B;go_wp2
  all_goals first
   |(go_ret;exact⟨aP (by rw[j.out,m.out,aEj (by simp only;omega)];rfl),d.aB _⟩)
   |(go_roundw
     case rel=>exact⟨k+1,C,by omega,by go_num,rfl,aI j (by rw[m.out,QL (by simp only;omega)]),d.aB _⟩
     case measure=>simp[intOf];omega)
 .go_wp2;go_ret;exact⟨aP (by rw[j.out,bT l k (by omega)];simp[chain]),d⟩
theorem Zz(a d val:Int)(w:World)(H:Glob w):
 cE' 210 #[.agg #[.int .i64 a,.int .i64 d,.int .i64 val]] w (.bool (outsideB ⟨a,d,val⟩)):=by
 obtain⟨A,n,c,p,g⟩:=H;have s:=bg (w':=w.alloc (.cells #[.int .i64 a,.int .i64 d,.int .i64 val] 70)) (bD ((Ext.refl w).aB _)) p;have t:Hid (outsideB ⟨a,d,val⟩=qK a d wK):=rfl;have h:wK.length=6:=rfl;generalize wK=l at*;obtain⟨y,z,B⟩:=g.len;subst y;have C:=ah h;clear h;go_enter func210,ntmps210;go_wp2;go_loopw[7] (λi wr=>∃(k:Nat),k<=l.length/\i=.int .i64 k/\Hid (outsideB ⟨a,d,val⟩=qK a d (l.drop k))/\Ext (w.alloc (.cells #[.int .i64 a,.int .i64 d,.int .i64 val] 70)) wr) (λi _=>l.length-(intOf i).toNat);exact⟨0,zl' _,rfl,t,eR'⟩;obtain⟨k,I,rfl,q,m⟩:=hrel;have f:Ext w wr:=((Ext.refl w).aB _).trans' m;obtain⟨J,K⟩:=wS m;by_cases j:k<l.length
 .obtain⟨b,o,D,E,F,G⟩:=(bQ.ext g f).at_ j;subst D;have r:=ah (drop_at l k j);generalize l[k]=x at*;obtain⟨L,M,N⟩:=x;simp only at E F G;have O:w.heap.size<wr.heap.size:=by have:=m.b.size;simp at this;omega
  go_wp2
  all_goals first
   |(go_ret;exact⟨aP (by rw[q.out,r.out,AO (by simp only;omega)]),f.aB _⟩)
   |(go_roundw
     case rel=>exact⟨k+1,by omega,by go_num,aI q (by rw[r.out,AB (by simp only;omega)]),m.aB _⟩
     case measure=>simp[intOf];omega)
 .go_wp2;go_ret;exact⟨aP (by rw[q.out,bT l k (by omega)];simp[qK]),f⟩
theorem JI(f:FuncId)(d:Array Value)(n:Nat)(p:Nat->Bool)(w:World)(F:n<=4611686018427387904)
 (q:∀args w,(callFunc f args).run prog w=.ok (.enter f args) w)
 (t:∀i,i<n->∀w',Ext w w'->cE' f (#[.int .i64 i]++d) w' (.bool (p i))):
 Calls prog 66 #[.int .i64 n,.func (.func f) #[] d] w λe w'=>∃i:Nat,e=.returned (.int .i64 i)/\i<=n/\(i<n->p i=true)/\(0<i->p (i-1)=false)/\Ext w w':=by
 have x:=ah t;clear t;go_enter func66,ntmps66;go_wp2;go_loopw[5,6] (λa b wr=>∃(i j:Nat),i<=j/\j<=n/\a=.int .i64 i/\b=.int .i64 j/\Hid (j<n->p j=true)/\Hid (0<i->p (i-1)=false)/\Ext w wr) (λa b _=>(intOf b).toNat-(intOf a).toNat);exact⟨0,n,zl' _,lr' _,rfl,rfl,λh=>absurd h (by omega),λh=>absurd h (by omega),eR'⟩;obtain⟨i,j,y,z,rfl,rfl,r,s,k⟩:=hrel;by_cases A:i<j
 .go_wp2;obtain⟨m,B⟩:∃m:Nat,m=(i+j) / 2:=⟨_,rfl⟩;rw[show((i:Int)+j) / 2=(m:Int)from by omega];have C:i<=m:=by omega
  have D:m<j:=by omega
  clear B;refine(x.out m (by omega) wr k).mono ?_;rintro e E⟨rfl,l⟩;have g:=k.trans' l;cases c:p m
  .have o:=ah c;clear c;go_wp2;go_roundw;exact⟨m+1,j,by omega,z,by go_num,rfl,r,λ_=>by simpa using o.out,g⟩;simp[intOf];omega
  .have o:=ah c;clear c;go_wp2;go_roundw;exact⟨i,m,by omega,by omega,rfl,rfl,λ_=>o.out,s,g⟩;simp[intOf];omega
 .go_wp2;go_ret;exact⟨i,rfl,by omega,λh=>r.out (by omega)▸(by rw[show i=j from by omega]),s.out,k⟩
theorem a9F(l:List Sp)(A:Option Addr)(n a:Nat)(i:Nat)(c:Int)(d f:Addr)(w:World)(r:i<l.length)
 (s:w.cell? d=some (.slice A n a)) (t:w.cell? f=some (.int .i64 c)) (g:bQ w ⟨A,n,a⟩ l):
 cE' 290 (#[.int .i64 i]++ #[.pointer (some d),.pointer (some f)]) w (.bool (decide (c<=l[i].hi))):=by
 obtain⟨h,j,k⟩:=g.len;subst h;obtain⟨b,o,m,x,y,B⟩:=g.at_ r;subst m;have p:=z0' i;have q:(i:Int)<(l.length:Int):=by omega
 generalize l[i].hi=z at*;go_enter func290,ntmps290;go_wp2;go_quiet (fail);go_wp2;go_ret;exact⟨rfl,eR'.kK _⟩
theorem Gj(l:List Sp)(A:Option Addr)(n f:Nat)(c:Int)(w:World)(t:bQ w ⟨A,n,f⟩ l)(g:xu l)(y:l.length<=256):
 cE' 271 #[.slice A n f,.int .i64 c] w (.int .i64 (fJ l c)):=by
 obtain⟨z,B,C⟩:=t.len;subst z;go_enter func271,ntmps271;go_wp2_with fail;refine(JI 290 _ l.length (λi=>decide (c<=(l.getD i ⟨0,0,0⟩).hi)) _ (by omega) Tryz.call290 ?_).mono ?_
 .intro i p w' j;have a:Ext w w':=(((Ext.refl w).aB _).aB _).trans' j;rw[getD_lt l i _ p];exact a9F l A l.length f i c _ _ w' p (bg (bD j) (Hq _ _ _ _)) (bg (bD j) (Hr _ _ _ _)) (t.ext a)
 .rintro e D⟨i,rfl,p,q,r,j⟩;have a:Ext w D:=(((Ext.refl w).aB _).aB _).trans' j;have s:=ah (Zo g (c:=c) p (λh=>by have k:=q h;simp only[getD_lt l i _ h]at k;simpa using k) (λh=>by have k:=r h;simp only[getD_lt l (i-1) _ (by omega)]at k;simpa using k));obtain⟨J,K⟩:=wS j.b;clear q r;by_cases d:i<l.length
  .have E:((i:Int)==(l.length:Int))=false:=bF';obtain⟨b,o,F,r,q,G⟩:=(t.ext a).at_ d;subst F;have m:Hid (fJ l c=if c<l[i].lo then 0 else l[i].val):=(by have h:=s.out;rw[dif_pos d]at h;exact h);clear s;have H:=z0' i;have I:(i:Int)<(l.length:Int):=(by omega);generalize l[i]=x at*;obtain⟨L,M,N⟩:=x;simp only at r q G m;go_wp2;go_quiet (fail);go_wp2
   .go_ret;exact⟨aV (by rw[m.out,pP' (by assumption)]),a.kK _⟩
   .go_ret;exact⟨aV (by rw[m.out,nN' (by omega)]),a.kK _⟩
  .obtain rfl:i=l.length:=by omega
   have m:Hid (fJ l c=0):=(by have h:=s.out;rw[dif_neg d]at h;exact h);clear s;go_wp2;go_quiet (fail);go_wp2;go_ret;exact⟨aV (by rw[m.out]),a.kK _⟩
theorem aAM(l:List Mp)(A:Option Addr)(n a:Nat)(i:Nat)(c:Int)(d f:Addr)(w:World)(t:i<l.length)
 (x:w.cell? d=some (.slice A n a)) (y:w.cell? f=some (.int .i64 c)) (g:dI w ⟨A,n,a⟩ l):
 cE' 266 (#[.int .i64 i]++ #[.pointer (some d),.pointer (some f)]) w (.bool (decide (c<=l[i].lo))):=by
 obtain⟨h,j,k⟩:=g.len;subst h;obtain⟨b,o,B,C,D,m,E,p,q⟩:=g.at_ t;subst m;have r:=z0' i;have s:(i:Int)<(l.length:Int):=by omega
 clear p q;generalize l[i].lo=z at*;go_enter func266,ntmps266;go_wp2;go_quiet (fail);go_wp2;go_ret;exact⟨rfl,eR'.kK _⟩
theorem JR{l:List Mp}{c:Int}(h:vH l c=false):∀i(hi:i<l.length),l[i].lo≠c:=by
 intro i hi a;simp only[vH,List.any_eq_false,au]at h;exact h l[i] (by simp) a
theorem Rw(l:List Mp)(A:Option Addr)(n k:Nat)(c:Int)(w:World)(B:Option Addr)(C D:Nat)(E:dI w ⟨A,n,k⟩ l)(m:wH l)(G:l.length<=256)
 (H:∀i b o(hi:i<l.length),A=some ⟨b,o,none⟩->l[i].lo=c->w.cell? ⟨b,o+i*2+1,none⟩=some (.slice B C D))
 (r:(∀i(hi:i<l.length),l[i].lo≠c)->B=none/\C=0/\D=0):
 cE' 217 #[.slice A n k,.int .i64 c] w (.slice B C D):=by
 obtain⟨I,J,K⟩:=E.len;subst I;have x:=ah H;have d:=ah r;clear H r;go_enter func217,ntmps217;go_wp2_with fail;refine(JI 266 _ l.length (λi=>decide (c<=(l.getD i ⟨0,[]⟩).lo)) _ (by omega) Tryz.call266 ?_).mono ?_
 .intro i hi w' p;have a:Ext w w':=(((Ext.refl w).aB _).aB _).trans' p;rw[getD_lt l i _ hi];exact aAM l A l.length k i c _ _ w' hi (bg (bD p) (Hq _ _ _ _)) (bg (bD p) (Hr _ _ _ _)) (E.ext a)
 .rintro e L⟨i,rfl,hi,s,y,p⟩;have a:Ext w L:=(((Ext.refl w).aB _).aB _).trans' p;have t:=ah (Zk m (c:=c) hi (λh=>by have q:=s h;simp only[getD_lt l i _ h]at q;simpa using q) (λh=>by have q:=y h;simp only[getD_lt l (i-1) _ (by omega)]at q;simpa using q)).2;obtain⟨U,V⟩:=wS p.b;clear s y;by_cases f:i<l.length
  .have M:((i:Int)==(l.length:Int))=false:=bF';obtain⟨b,o,W,X,Y,F,y,s,N⟩:=(E.ext a).at_ f;have g:=ah λh=>bg (bD a) (x.out i b o f F h)
   subst F;have z:Hid (vH l c=decide (l[i].lo=c)):=(by have h:=t.out;rw[dif_pos f]at h;exact h);clear t x N;have O:=z0' i;have P:(i:Int)<(l.length:Int):=(by omega);generalize l[i].lo=xl at*;by_cases j:xl=c
   .subst j;have e:=s.symm.trans (g.out rfl);injection e with e;injection e with Q R S;subst Q R S;clear g z d;go_wp2;go_quiet (fail);go_wp2;go_ret;exact⟨rfl,a.kK _⟩
   .obtain⟨rfl,rfl,rfl⟩:=d.out (JR (by rw[z.out];simpa using j));have T:(xl != c)=true:=bN' j;clear g z d;go_wp2;go_quiet (fail);go_wp2;go_ret;exact⟨rfl,a.kK _⟩
  .obtain rfl:i=l.length:=by omega
   obtain⟨rfl,rfl,rfl⟩:=d.out (JR (by have h:=t.out;rw[dif_neg f]at h;exact h));clear t x d;go_wp2;go_quiet (fail);go_wp2;go_ret;exact⟨rfl,a.kK _⟩
theorem AX(l:List Mp)(A:Option Addr)(n f:Nat)(c:Int)(w:World)(B:dI w ⟨A,n,f⟩ l)(a:wH l)(g:l.length<=256):
 ∃za zn zc,aF w ⟨za,zn,zc⟩ (aJ l c)/\(vH l c=false->za=none/\zn=0/\zc=0)/\
  ∀w',Ext w w'->cE' 217 #[.slice A n f,.int .i64 c] w' (.slice za zn zc):=by
 cases x:vH l c
 .have C:=JR x;have D:aJ l c=[]:=BR λs y=>by
   obtain⟨j,k,rfl⟩:=List.getElem_of_mem y;exact C j k
  refine⟨none,0,0,by rw[D];exact aF.nil_ w,λ_=>⟨rfl,rfl,rfl⟩,λw' t=>?_⟩;exact Rw l A n f c w' none 0 0 (B.ext t) a g (λi b o p _ h=>absurd h (C i p)) λ_=>⟨rfl,rfl,rfl⟩
 .simp only[vH,List.any_eq_true,au]at x;obtain⟨m,y,q⟩:=x;obtain⟨i,p,rfl⟩:=List.getElem_of_mem y;obtain⟨b,o,za,zn,zc,E,K,F,G⟩:=B.at_ p;have t:∀j(k:j<i),l[j].lo<c:=λj k=>by have:=a j i k p;omega
  refine⟨za,zn,zc,by rw[Gq i p q t];exact G,(λh=>by cases h),λw' r=>?_⟩;refine Rw l A n f c w' za zn zc (B.ext r) a g (λj L M k d H=>?_) λz=>absurd q (z i p)
  obtain rfl:j=i:=by
   rcases Nat.lt_trichotomy j i with h|h|h
   .have:=t j h;omega
   .exact h
   .have:=a i j h k;omega
  rw[E]at d;injection d with d;injection d with I J;subst I J;exact bg (bD r) F
theorem find_spec(l:List Mp)(A:Option Addr)(n a:Nat)(c:Int)(w:World)(k:dI w ⟨A,n,a⟩ l)(b:wH l)(f:Bl l)(d:l.length<=256):
 Calls prog 217 #[.slice A n a,.int .i64 c] w λe w'=>∃za zn zc,e=.returned (.slice za zn zc)/\aF w' ⟨za,zn,zc⟩ (aJ l c)/\(aJ l c=[]->za=none/\zc=0)/\Ext w w':=by
 obtain⟨za,zn,zc,g,i,j⟩:=AX l A n a c w k b d;refine(j w (Ext.refl w)).mono λe w'⟨he,hb⟩=>⟨za,zn,zc,he,g.ext hb,λh=>?_,hb⟩
 have:=i (C9 f h);exact⟨this.1,this.2.2⟩
theorem Az{w:World}{a:Option Addr}{d c:Nat}{l:List Int}(h:aF w ⟨a,d,c⟩ l)(k:l=[]->a=none/\c=0):
 (l=[]/\a=none/\d=0/\c=0)\/∃b o,l≠[]/\a=some ⟨b,o,none⟩:=by
 cases l with
 |nil=>
  obtain⟨f,g⟩:=k rfl;exact .inl ⟨rfl,f,h.len.1,g⟩
 |cons x r=>
  obtain⟨b,o,j,_⟩:=h.at_ (i:=0) (by simp);exact .inr ⟨b,o,by simp,j⟩
theorem YD(l:List Int)(A:Option Addr)(n a:Nat)(i:Nat)(c:Int)(d f:Addr)(w:World)(r:i<l.length)
 (s:w.cell? d=some (.slice A n a)) (t:w.cell? f=some (.int .i64 c)) (g:aF w ⟨A,n,a⟩ l):
 cE' 307 (#[.int .i64 i]++ #[.pointer (some d),.pointer (some f)]) w (.bool (decide (c<=l[i]))):=by
 obtain⟨h,j,k⟩:=g.len;subst h;obtain⟨b,o,m,x⟩:=g.at_ r;subst m;have p:=z0' i;have q:(i:Int)<(l.length:Int):=by omega
 generalize l[i]=z at*;go_enter func307,ntmps307;go_wp2;go_quiet (fail);go_wp2;go_ret;exact⟨rfl,eR'.kK _⟩
theorem YN(l:List Int)(A:Option Addr)(n b:Nat)(c:Int)(w:World)(m:aF w ⟨A,n,b⟩ l)(o:l.length<=256):
 Calls prog 289 #[.slice A n b,.int .i64 c] w λe w'=>∃i:Nat,e=.returned (.int .i64 i)/\i<=l.length/\(∀h:i<l.length,c<=l[i])/\(∀_:0<i,∀_:i-1<l.length,l[i-1]<c)/\Ext w w':=by
 obtain⟨p,q,r⟩:=m.len;subst p;go_enter func289,ntmps289;go_wp2_with fail;refine(JI 307 _ l.length (λi=>decide (c<=l.getD i 0)) _ (by omega) Tryz.call307 ?_).mono ?_
 .intro i g w' d;have a:Ext w w':=(((Ext.refl w).aB _).aB _).trans' d;rw[getD_lt l i _ g];exact YD l A l.length b i c _ _ w' g (bg (bD d) (Hq _ _ _ _)) (bg (bD d) (Hr _ _ _ _)) (m.ext a)
 .rintro e s⟨i,rfl,g,j,k,d⟩;have a:Ext w s:=(((Ext.refl w).aB _).aB _).trans' d;have t:Hid (∀h:i<l.length,c<=l[i]):=λh=>by have f:=j h;simp only[getD_lt l i _ h]at f;simpa using f
  have x:Hid (∀_:0<i,∀_:i-1<l.length,l[i-1]<c):=λh y=>by have f:=k h;simp only[getD_lt l (i-1) _ y]at f;simpa using f
  clear j k;go_wp2;go_ret;exact⟨i,rfl,g,t.out,x.out,a⟩
theorem Zg(c:Int)(w:World)(ht:aW w t T)(f:Gu T.exc)(g:T.exc.length<=256):
 cE' 267 #[t.v,.int .i64 c] w (.bool (jI T.exc c)):=by
 obtain⟨I,J,K,L,M,N,O,P,Q,R,⟨A,n,s⟩,x⟩:=t;have j:aF w ⟨A,n,s⟩ T.exc:=ht.exc;clear ht;generalize T.exc=l at*;obtain⟨y,B,C⟩:=j.len;subst y;simp only[TV.v];go_enter func267,ntmps267;go_wp2_with fail;refine(YN l _ _ _ c _ (j.ext ((Ext.refl w).aB _)) g).mono ?_;rintro e D⟨i,rfl,E,p,q,r⟩;have a:Ext w D:=((Ext.refl w).aB _).trans' r;have k:=ah (Zv f E p λh=>q h (by omega));clear p q;obtain⟨S,U⟩:=wS r.b;by_cases d:i<l.length
 .obtain⟨b,o,F,j⟩:=(j.ext a).at_ d;subst F;have G:=z0' i;have H:(i:Int)<(l.length:Int):=by omega
  have m:Hid (jI l c=decide (l[i]=c)):=by have h:=k.out;rw[dif_pos d]at h;exact h
  clear k;generalize l[i]=z at*;go_wp2;go_ret;exact⟨aP (by rw[m.out,Bool.eq_iff_iff];simp),a⟩
 .obtain rfl:i=l.length:=by omega
  have m:Hid (jI l c=false):=by have h:=k.out;rw[dif_neg d]at h;exact h
  clear k;go_wp2;go_ret;exact⟨aP (by rw[m.out]),a⟩
def I7(c:Int):Value:=.agg #[.int .i64 (rE c),.int .i64 (pJ c),.int .i64 (vw c),.int .i64 (sV c)]
theorem aAO:cE' 270 #[.int .i64 c] w (I7 c):=by
 go_enter func270,ntmps270
 go_wp2_with(first
  |(go_at_call 214;refine(FQ _ _).mono ?_;rintro e w'⟨rfl,rfl⟩;cases a:bG c)
  |(go_at_call 215;refine(Kr _ _).mono ?_;rintro e w'⟨rfl,rfl⟩;cases b:dN c))
 all_goals(refine bodyPost_ret (v:=I7 c) ?_ rfl ⟨rfl,?_⟩)
 all_goals first
  |(refine Ext.aB eR' _)
  |(simp[results,Tryz.results270,go_sem,I7]
    try(simp only[bq',aO,ne_eq]at*)
    unfold rE pJ vw sV
    first
     |omega
     |(repeat(first|rw[pP' (by first|omega|assumption)]|rw[nN' (by first|omega|(simp[*];done))])
       simp))
theorem ZK(a b c d:Int)(w:World):cE' 310 #[.agg #[.int .i64 a,.int .i64 b,.int .i64 c,.int .i64 d]] w (.int .i64 c):=by
 go_enter func310,ntmps310;go_wp2;go_ret;exact⟨rfl,(Ext.refl w).aB _⟩
theorem ZP(a b c d:Int)(w:World):cE' 222 #[.agg #[.int .i64 a,.int .i64 b,.int .i64 c,.int .i64 d]] w (.int .i64 d):=by
 go_enter func222,ntmps222;go_wp2;go_ret;exact⟨rfl,(Ext.refl w).aB _⟩
theorem Gz(f:FuncId)(own:Int->Int)(l:List Sp)(A:Option Addr)(n i:Nat)(c:Int)(w:World)(k:bQ w ⟨A,n,i⟩ l)(d:xu l)(j:l.length<=256)
 (q:∀args w,(callFunc f args).run prog w=.ok (.enter f args) w)
 (b:∀w,cE' f #[I7 c] w (.int .i64 (own c))):
 cE' 221 #[.slice A n i,.int .i64 c,.func (.func f) #[] #[]] w (.int .i64 (nI l own c)):=by
 have t:=ah b;clear b;cases r:utfLen c==0
 .have a:bf c=true:=by
   cases k:bf c
   .have:=(utfLen_eq_zero c).2 k;simp[this]at r
   .rfl
  cases g:fM c
  .have h:Hid (nI l own c=fJ l c):=by unfold nI;rw[a,g];rfl
   have m:=ah g;clear g a;go_enter func221,ntmps221
   go_wp2_with(first
    |(go_at_call 206;refine(yA _ _).mono ?_;rintro e w'⟨rfl,rfl⟩)
    |(go_at_call 265;refine(Ju _ _).mono ?_;rintro e w'⟨rfl,rfl⟩;rw[m.out])
    |(go_at_call 271;refine(Gj l _ _ _ _ _ k d j).mono ?_;rintro e s⟨rfl,o⟩))
   go_ret;exact⟨aV (by rw[h.out]),o⟩
  .have h:Hid (nI l own c=own c):=by unfold nI;rw[a,g];rfl
   have m:=ah g;clear g a;go_enter func221,ntmps221
   go_wp2_with(first
    |(go_at_call 206;refine(yA _ _).mono ?_;rintro e w'⟨rfl,rfl⟩)
    |(go_at_call 265;refine(Ju _ _).mono ?_;rintro e w'⟨rfl,rfl⟩;rw[m.out])
    |(go_at_call 270;refine(aAO _ _).mono ?_;rintro e s⟨rfl,o⟩))
   refine(t.out s).mono ?_;rintro e x⟨rfl,p⟩;go_wp2;go_ret;exact⟨aV (by rw[h.out]),o.trans' p⟩
 .have h:Hid (nI l own c=0):=by
   have:=(utfLen_eq_zero c).1 (by simpa using r);unfold nI;rw[this];rfl
  go_enter func221,ntmps221
  go_wp2_with(first
   |(go_at_call 206;refine(yA _ _).mono ?_;rintro e w'⟨rfl,rfl⟩))
  go_ret;exact⟨aV (by rw[h.out]),eR'⟩
structure gu(T:aj):Prop where
 cat:xu T.cat/\T.cat.length<=256
 cls:xu T.cls/\T.cls.length<=256
 dM:xu T.dM/\T.dM.length<=256
 cO:xu T.cO/\T.cO.length<=256
 scr:xu T.scr/\T.scr.length<=256
 bn:xu T.bn/\T.bn.length<=256
 bP:xu T.bP/\T.bP.length<=256
 ext:wH T.ext/\T.ext.length<=256
 mps:wH T.mps/\T.mps.length<=256
 dec:wH T.dec/\T.dec.length<=256
 exc:Gu T.exc/\T.exc.length<=256
 eP:wH T.eP/\T.eP.length<=256
structure nY(T:aj):Prop where
 ext:Bl T.ext
 mps:Bl T.mps
 dec:Bl T.dec
 eP:Bl T.eP
theorem iT(c:Int)(w:World)(ht:aW w t T)(a:gu T):
 cE' 226 #[t.v,.int .i64 c] w (.int .i64 (aH T c)):=by
 have b:=ht.cls.ext ((Ext.refl w).aB (.cells t.v.cells 26));go_enter func226,ntmps226;go_wp2_with(go_at_call 271;refine(Gj T.cls _ _ _ _ _ b a.cls.1 a.cls.2).mono ?_;rintro e f⟨rfl,d⟩);go_ret;exact⟨rfl,((Ext.refl w).aB _).trans' d⟩
theorem JB(c:Int)(w:World)(ht:aW w t T)(a:gu T):
 cE' 309 #[t.v,.int .i64 c] w (.int .i64 (ku T c)):=by
 have b:=ht.dM.ext ((Ext.refl w).aB (.cells t.v.cells 26));go_enter func309,ntmps309;go_wp2_with(go_at_call 271;refine(Gj T.dM _ _ _ _ _ b a.dM.1 a.dM.2).mono ?_;rintro e f⟨rfl,d⟩);go_ret;exact⟨rfl,((Ext.refl w).aB _).trans' d⟩
theorem Qr(c:Int)(w:World)(ht:aW w t T)(a:gu T):
 cE' 242 #[t.v,.int .i64 c] w (.bool (uQ T c)):=by
 have b:=ht.bP.ext ((Ext.refl w).aB (.cells t.v.cells 26));go_enter func242,ntmps242;go_wp2_with(go_at_call 271;refine(Gj T.bP _ _ _ _ _ b a.bP.1 a.bP.2).mono ?_;rintro e f⟨rfl,d⟩);go_ret;exact⟨rfl,((Ext.refl w).aB _).trans' d⟩
theorem Gl(c:Int)(w:World)(ht:aW w t T)(a:gu T):
 cE' 153 #[t.v,.int .i64 c] w (.int .i64 (dZ T c)):=by
 have b:=ht.bn.ext ((Ext.refl w).aB (.cells t.v.cells 26));go_enter func153,ntmps153;go_wp2_with(go_at_call 221;refine(Gz 222 sV T.bn _ _ _ _ _ b a.bn.1 a.bn.2 Tryz.call222 (λ_=>ZP _ _ _ _ _)).mono ?_;rintro e f⟨rfl,d⟩);go_ret;exact⟨rfl,((Ext.refl w).aB _).trans' d⟩
theorem G5(c:Int)(w:World)(ht:aW w t T)(a:gu T):
 cE' 304 #[t.v,.int .i64 c] w (.int .i64 (ji T c)):=by
 have b:=ht.scr.ext ((Ext.refl w).aB (.cells t.v.cells 26));go_enter func304,ntmps304;go_wp2_with(go_at_call 221;refine(Gz 310 vw T.scr _ _ _ _ _ b a.scr.1 a.scr.2 Tryz.call310 (λ_=>ZK _ _ _ _ _)).mono ?_;rintro e f⟨rfl,d⟩);go_ret;exact⟨rfl,((Ext.refl w).aB _).trans' d⟩
theorem Qx(c:Int)(w:World)(ht:aW w t T)(l:gu T)(q:nY T):
 cE' 219 #[t.v,.int .i64 c] w (.bool (sO T c)):=by
 have n:=ht.dec.ext ((Ext.refl w).aB (.cells t.v.cells 26));have h:Hid (sO T c=((aJ T.dec c).isEmpty&& !uQ T c)):=rfl;go_enter func219,ntmps219;go_wp2_with fail;refine(find_spec T.dec _ _ _ c _ n l.dec.1 q.dec l.dec.2).mono ?_;rintro e p⟨r,s,x,rfl,i,a,m⟩;have d:Ext w p:=((Ext.refl w).aB _).trans' m;obtain⟨y,z⟩:=wS m.b;rcases Az i a with⟨f,rfl,rfl,rfl⟩|⟨b,o,f,rfl⟩
 .have g:Hid (aJ T.dec c=[]):=f;clear f i a;go_wp2_with fail;refine(Qr t T c _ (ht.aC d) l).mono ?_;rintro e A⟨rfl,j⟩;have k:Hid (sO T c= !uQ T c):=by rw[h.out,g.out];rfl
  clear h g;go_wp2;go_ret;exact⟨aP (by rw[k.out]),d.trans' j⟩
 .have g:Hid (aJ T.dec c≠[]):=f;clear f i a;have k:Hid (sO T c=false):=by
   rw[h.out];have:(aJ T.dec c).isEmpty=false:=by simpa using g.out
   rw[this];rfl
  clear h g;go_wp2;go_ret;exact⟨aP (by rw[k.out]),d⟩
end Go.Proofs.YtlmkgaoakcjlnaaGreatDoor
