/- Part Bz29. -/
import Derived.Shelf.Strings.OnBuilder
import Derived.Test.YtpmgophlhmcogaaGreatDoorBz25
open Go.Proofs.Tryz
namespace Go.Proofs.YtpmgophlhmcogaaGreatDoor
set_option maxHeartbeats 25600000
set_option maxRecDepth 100000
open Go.RowKit
variable (T:aj)(t:TV)(s:List Int)(w:World)
def Gy:TypeDesc->Bool
 | .struct _=>true
 | .array _ _=>true
 |_=>false
theorem l7{P:Program}{t:TypeId}{b:Bool}(h:(P.underlying t).map Gy=some b):∀w,(isAgg t).run P w=.ok b w:=λw=>by
 cases a:P.underlying t with
 |none=>rw[a]at h;cases h
 |some d=>
  rw[a]at h;have h:Gy d=b:=by simpa using h
  subst h;simp only[isAgg,Sem.run_bind,run_underlying a,Result.andThen_ok];cases d<;>rfl
theorem l9{P:Program}{t:TypeId}{n:Nat}(h:(P.info? t).map (·.size)=some n):∀w,(Go.sizeOf t).run P w=.ok n w:=λw=>by
 cases a:P.info? t with
 |none=>rw[a]at h;cases h
 |some i=>
  rw[a]at h;have h:i.size=n:=by simpa using h
  simp[Go.sizeOf,typeInfo,a,h]
theorem lq{P:Program}{t:TypeId}{z:Value}(h:(P.info? t).map (·.zero)=some (some z)):∀w,(zeroValue t).run P w=.ok z w:=λw=>by
 cases a:P.info? t with
 |none=>rw[a]at h;cases h
 |some i=>
  rw[a]at h;have h:i.zero=some z:=by simpa using h
  simp[zeroValue,typeInfo,a,h]
def rnJ:Go.Shelf.Ren:=⟨λx=>if x=156 then 226 else if x=165 then 278 else if x=166 then 279 else if x=169 then 280 else if x=240 then 311 else if x=241 then 312 else if x=276 then 333 else 334,λx=>if x=0 then 0 else if x=3 then 3 else if x=4 then 4 else if x=9 then 9 else if x=20 then 20 else if x=31 then 23 else if x=37 then 157 else if x=70 then 244 else if x=72 then 246 else if x=75 then 248 else if x=76 then 249 else if x=127 then 269 else if x=164 then 280 else if x=5 then 5 else 251,λx=>x⟩
theorem Qa:Lays.n156 prog rnJ where
 mixed:=by kernel_rfl
 f156:=func226.trans (by kernel_rfl)
 f165:=func278.trans (by kernel_rfl)
 f166:=func279.trans (by kernel_rfl)
 f169:=func280.trans (by kernel_rfl)
 f240:=func311.trans (by kernel_rfl)
 f241:=func312.trans (by kernel_rfl)
 f276:=func333.trans (by kernel_rfl)
 f277:=func334.trans (by kernel_rfl)
 t0:=by kernel_rfl
 a0:=l7 (by kernel_rfl)
 z0:=l9 (by kernel_rfl)
 v0:=lq (by kernel_rfl)
 t3:=by kernel_rfl
 a3:=l7 (by kernel_rfl)
 z3:=l9 (by kernel_rfl)
 v3:=lq (by kernel_rfl)
 t4:=by kernel_rfl
 a4:=l7 (by kernel_rfl)
 z4:=l9 (by kernel_rfl)
 v4:=lq (by kernel_rfl)
 t9:=by kernel_rfl
 a9:=l7 (by kernel_rfl)
 z9:=l9 (by kernel_rfl)
 v9:=lq (by kernel_rfl)
 t20:=by kernel_rfl
 a20:=l7 (by kernel_rfl)
 z20:=l9 (by kernel_rfl)
 v20:=lq (by kernel_rfl)
 t31:=by kernel_rfl
 a31:=l7 (by kernel_rfl)
 z31:=l9 (by kernel_rfl)
 v31:=lq (by kernel_rfl)
 t37:=by kernel_rfl
 a37:=l7 (by kernel_rfl)
 z37:=l9 (by kernel_rfl)
 v37:=lq (by kernel_rfl)
 t70:=by kernel_rfl
 a70:=l7 (by kernel_rfl)
 z70:=l9 (by kernel_rfl)
 v70:=lq (by kernel_rfl)
 t72:=by kernel_rfl
 a72:=l7 (by kernel_rfl)
 z72:=l9 (by kernel_rfl)
 v72:=lq (by kernel_rfl)
 t75:=by kernel_rfl
 a75:=l7 (by kernel_rfl)
 z75:=l9 (by kernel_rfl)
 v75:=lq (by kernel_rfl)
 t76:=by kernel_rfl
 a76:=l7 (by kernel_rfl)
 z76:=l9 (by kernel_rfl)
 v76:=lq (by kernel_rfl)
 t127:=by kernel_rfl
 a127:=l7 (by kernel_rfl)
 z127:=l9 (by kernel_rfl)
 v127:=lq (by kernel_rfl)
 t164:=by kernel_rfl
 a164:=l7 (by kernel_rfl)
 z164:=l9 (by kernel_rfl)
 v164:=lq (by kernel_rfl)
theorem Q9:Builder.Extra prog rnJ where
 sizeBuilder:=by kernel_rfl
 liesBuilder:=by kernel_rfl
 t5:=by kernel_rfl
 a5:=l7 (by kernel_rfl)
 z5:=l9 (by kernel_rfl)
 v5:=lq (by kernel_rfl)
 infoByte:=by kernel_rfl
 cellsByte:=by kernel_rfl
 sizeByte:=by kernel_rfl
 neB5:=by decide
def toU(l:List Int):List UInt8:=l.map λn=>UInt8.ofNat n.toNat
theorem Gz:∀r:List (List Int),Lib.joinTail (toU [46]) (r.map toU)=toU (jnG false r)
 |[]=>rfl
 |x::r=>by
  have h:=Gz r;unfold Lib.joinTail at h |-;rw[List.map_cons,List.map_cons,List.flatten_cons,h];show _=toU ((46::x)++jnG false r)
  unfold toU;simp
theorem join_eq{ls:List (List Int)}(h:ls≠[]):(⟨(Lib.join ((ls.map sB).map (·.data.toList)) (⟨#[46]⟩:ByteArray).data.toList).toArray⟩:ByteArray)=sB (jnL ls):=by
 cases ls with
 |nil=>exact absurd rfl h
 |cons x r=>
  have a:((x::r).map sB).map (·.data.toList)=toU x::r.map toU:=by
   simp only[List.map_cons,List.map_map];rfl
  have b:(⟨#[46]⟩:ByteArray).data.toList=toU [46]:=rfl;rw[a,b,Lib.join_cons,Gz];refine yM _ _ ?_;show toU x++toU (jnG false r)=_
  unfold toU;rw[<- List.map_append];rfl
theorem Qb(ls:List (List Int))(A:Option Addr)(n c:Nat)(w:World)(q:fP w ⟨A,n,c⟩ ls)(N:ls.length<=1000000):Calls prog 174 #[.slice A n c] w (xk w (mF ls)):=by
 have i:Hid (mF ls=if(gJ ls).2≠0 then([],(gJ ls).2)else(jnL ls,0)):=rfl;have z:=ah (Gu ls A n c w q N);have d:=ah (@Gx ls);generalize mF ls=D at*;generalize gJ ls=C at*;obtain⟨O,B⟩:=C;have E:n=ls.length:=q.1.1;subst E;simp only at i d;by_cases r:B=0
 case neg=>
  rw[pP' r]at i;go_enter func174,ntmps174;go_wp2_with fail;refine z.out.mono ?_;rintro e F⟨k,rfl⟩;unfold IE2 at k;subst k;go_wp2;go_ret2;exact⟨by rw[i.out];rfl,eR'⟩
 rw[nN' (by rw[r];simp)]at i;subst r;obtain⟨l,_,G,_⟩:=d.out rfl;have a:=List.length_pos_iff.2 l;obtain⟨b,o,rfl,m⟩:=q.at_ a;have p:=World.block_lt_of_cell? w _ m;have f:=join_eq l
 have g:=Any.strings_Join (P:=prog) Qa Q9 b o c (ls.map sB) ⟨#[46]⟩ w (λj x h=>by
  rw[List.getElem?_map]at h;cases s:ls[j]? with
  |none=>rw[s]at h;cases h
  |some y=>
   rw[s]at h;simp only[Option.map_some,Option.some.injEq]at h;subst h;obtain⟨H,I,e,t⟩:=q.2 j y s;have e:some (⟨b,o,none⟩:Addr)=some ⟨H,I,none⟩:=e;injection e with e;injection e with J K;subst J K
   exact t) p (by rw[List.length_map];omega) (by rw[List.length_map];exact q.1.2.1) (by
  have:=congrArg ByteArray.size f;rw[ny]at this;have e:(⟨(Lib.join ((ls.map sB).map (·.data.toList)) (⟨#[46]⟩:ByteArray).data.toList).toArray⟩:ByteArray).size=(Lib.join ((ls.map sB).map (·.data.toList)) (⟨#[46]⟩:ByteArray).data.toList).length:=by simp[ByteArray.size]
  omega)
 rw[f,List.length_map]at g;have L:=ah g;clear g f d m a p;go_enter func174,ntmps174;go_wp2_with fail;refine z.out.mono ?_;rintro e F⟨k,rfl⟩;unfold IE2 at k;subst k;go_wp2_with fail;refine L.out.mono ?_;rintro e Q⟨rfl,M⟩;go_wp2;go_ret2;exact⟨by rw[i.out];rfl,M⟩
abbrev dZ(w:World)(base:Nat)(A:Option Addr)(n c:Nat)(ls:List (List Int)):Prop:=Own w base 9 1 A n c (ls.map λx=>Value.string (sB x))
theorem infoSt:(prog.info? 9).map (λi=>(i.zero,i.size,i.bytes))=some (some (.string ⟨#[]⟩),1,16):=by kernel_rfl
theorem dZ.sts{w:World}{a n c:Nat}{A:Option Addr}{ls:List (List Int)}(h:dZ w a A n c ls):fP w ⟨A,n,c⟩ ls:=by
 have d:=Own.len h;simp only[List.length_map,Nat.mul_one]at d;obtain⟨f,g⟩:=Own.le h;refine⟨⟨d.symm,by rw[d];exact f,g⟩,λi x j=>?_⟩;obtain⟨b,rfl,k⟩:=Own.tK h i (.string (sB x)) (by simp[j]);exact⟨b,0,rfl,by simpa using k⟩
theorem vU{w:World}{a n c:Nat}{A:Option Addr}{ls:List (List Int)}(k:dZ w a A n c ls)(x:List Int)(p:n<=1000000)(f:a<=w.heap.size):
 ∃A' c' w',(∀ty,(Builtin.append_ #[23,23] ty #[.slice A n c,.slice (some ⟨w.heap.size,0,none⟩) 1 1]).run prog (w.alloc (.cells #[.string (sB x)] 9))=.ok (.slice A' (n+1) c') w')/\dZ w' a A' (n+1) c' (ls++[x])/\
  (w.alloc (.cells #[.string (sB x)] 9)).grownBy w' (aK A):=by
 have g:Ext w (w.alloc (.cells #[.string (sB x)] 9)):=eR'.aA _;obtain⟨A',o,w',h,d,l,_⟩:=wH (T:=23) underlying23 infoSt rfl (by omega) (Own.ext k g) (some ⟨w.heap.size,0,none⟩) 1 1 [.string (sB x)] rfl
  (λj u i=>by
   refine⟨w.heap.size,0,rfl,?_⟩;rw[Nat.zero_add,World.cell?_alloc_new]
   match j,i with
   |0,i=>simpa using i
   |j+1,i=>simp at i)
  (by intro u m;simp at m;subst m;rfl) (by simp only[maxLen];omega) (by omega) (Nat.le_trans f g.b.size)
 exact⟨A',o,w',h,by unfold dZ;rw[List.map_append];exact d,l⟩
noncomputable def jf:Int->List (List Int)->Option (Int×Int)
 |_,[]=>none
 |i,l::r=>if(alE l).2≠0 then some (i,(alE l).2)else jf (i+1) r
theorem QM{L:List (List Int)}{k:Nat}(a:k<L.length):jf k (L.drop k)=if(alE L[k]).2≠0 then some ((k:Int),(alE L[k]).2)else jf ((k+1:Nat):Int) (L.drop (k+1)):=by
 rw[drop_at L k a];rfl
noncomputable def oI(L:List (List Int)):List Int×Int×Int:=match jf 0 L with
 |some q=>([],q)
 |none=>if(gJ (L.map λl=>(alE l).1)).2≠0 then([],gJ (L.map λl=>(alE l).1))else((mF (L.map λl=>(alE l).1)).1,0,(mF (L.map λl=>(alE l).1)).2)
noncomputable def dA(T:aj)(s:List Int):List Int×Int×Int:=if(bT T s).2.2≠0 then([],(bT T s).2)else oI (bT T s).1
theorem zD{L:List (List Int)}{q:Int×Int}(h:jf 0 L=some q):oI L=([],q):=by
 unfold oI;rw[h]
theorem zC{L:List (List Int)}(h:jf 0 L=none):oI L=if(gJ (L.map λl=>(alE l).1)).2≠0 then([],gJ (L.map λl=>(alE l).1))else((mF (L.map λl=>(alE l).1)).1,0,(mF (L.map λl=>(alE l).1)).2):=by
 unfold oI;rw[h]
theorem QL{T:aj}{L:List (List Int)}(h:(oH T L).2.2=0):(oH T L).1=L.map (λl=>(fB T l).1)/\∀l∈L,(fB T l).2=0:=by
 cases a:jJ T 0 L with
 |some p=>
  exfalso;rw[CB a]at h;have:∀(L:List (List Int))(i:Int)(p:Int×Int),jJ T i L=some p->p.2≠0:=by
   intro L
   induction L with
   |nil=>intro i p h;cases h
   |cons x r ih=>
    intro i p h;unfold jJ at h;split at h
    .injection h with h;subst h;assumption
    .exact ih _ _ h
  exact this L 0 p a h
 |none=>
  rw[Cj a]at h |-;split at h
  .exact absurd h ‹_›
  .rename_i b;rw[nN' b];exact⟨rfl,Ci a⟩
theorem xH{T:aj}{s:List Int}(h:(bT T s).2.2=0):(bT T s).1.length<=5000/\∀l∈(bT T s).1,gu T l=0/\l.length<=4096:=by
 unfold bT at h |-;split at h
 .cases h
 split at h
 .cases h
 split at h
 .exact absurd h ‹_›
 split at h
 .exact absurd h ‹_›
 split at h
 .exact absurd h ‹_›
 rename_i f g i j b;rw[nN' f,nN' g,nN' i,nN' j,nN' b];obtain⟨k,m⟩:=QL h;have c:=Decidable.not_not.1 b;have p:=(Aa c).2;have q:=Dj (T:=T) (jH T (fC s).1);have r:(kU T (jH T (fC s).1)).length<=4096:=by rw[kU,pP' c];omega
 have n:=Hr (kU T (jH T (fC s).1));rw[k];refine⟨by rw[List.length_map];omega,λl d=>?_⟩;rw[List.mem_map]at d;obtain⟨x,o,rfl⟩:=d;have a:=Hw (m x o);exact⟨a,C9 (Cm a)⟩
def QN(w:World)(L:List (List Int))(d:List Int×Int×Int)(e:Ending)(w':World):Prop:=∃A n c,e=.returned (.tuple #[.slice A n c,.string (sB d.1),.int .i64 d.2.1,.int .i64 d.2.2])/\(d.2.2=0->jR w' ⟨A,n,c⟩ L)/\Ext w w'
def AsL(wb:World)(L:List (List Int))(gh:Nat)(s11 s32:Value)(wx:World):Prop:=
 ∃(k:Nat)(A:Option Addr)(c:Nat),k+gh=L.length/\s32=.int .i64 k/\s11=.slice A k c/\Hid (dZ wx wb.heap.size A k c ((L.take k).map λl=>(alE l).1))/\Hid (jf k (L.drop k)=jf 0 L)/\Hid (Ext wb wx)
theorem Hz(ht:aN w t T)(hs:IsB s):Calls prog 109 #[t.v,.string (sB s)] w (QN w (bT T s).1 (dA T s)):=by
 have F:=dI w t;have q:=ah F;have HP:=ah (Ht T t s (tW' w t) (ht.ay F) hs);have S:Hid (dA T s=if(bT T s).2.2≠0 then([],(bT T s).2)else oI (bT T s).1):=rfl;have G:=ah (@xH T s);generalize dA T s=D at*;generalize bT T s=Y at*;obtain⟨L,pi,pe⟩:=Y;simp only[]at S G |-;clear ht F hs;go_enter func109,ntmps109;go_wp2_with fail;refine HP.out.mono ?_;rintro e w1⟨A,n,c,rfl,U,H⟩;have I:=ah H;have r:=ah U;have V:=q.out.trans' H;simp only[]at r;clear H U HP;by_cases a:pe=0
 case neg=>
  have p:=ah (S.out.trans (pP' a));have e1:(pe != 0)=true:=bN' a;have f:=ah a;clear a S;go_wp2_with fail
  (try simp only[Exit.inBlock,Exit.then]);refine bodyPost_ret (results_tmp4 rfl _ _ _) rfl ?_
  exact⟨none,0,0,by rw[p.out];rfl,λh=>absurd (by rw[p.out]at h;exact h) f.out,V⟩
 have W:=ah (S.out.trans (nN' (by rw[a];simp)));have e1:(pe != 0)=false:=bZ' a;have HO:=ah (G.out a);have hn:=r.out.len.1;subst hn;have hm:L.length<=5000:=HO.out.1;clear a S G V;go_wp2;go_loopg[11,32] L.length (λgh a4 a5 wx=>AsL w1 L gh a4 a5 wx);exact⟨0,none,0,by omega,rfl,rfl,ah (Own.nil_ _ _ _ _),ah rfl,ah eR'⟩;obtain⟨k,A2,c2,aL,rfl,rfl,z,d,J⟩:=hrel;have N:=q.out.trans' (I.out.trans' J.out);by_cases R:k<L.length
 .obtain⟨a6,rfl⟩:=gS' gk;obtain⟨b,o,za,zn,zc,rfl,b0,hz⟩:=(r.out.ext J.out).at_ R;have g:=ah (QM R);have X:Hid (((L.take (k+1)).map λl=>(alE l).1)=((L.take k).map λl=>(alE l).1)++[(alE L[k]).1]):=ah (by rw[tS' R,List.map_append];rfl);have HE:=ah (Gg L[k] za zn zc wr hz (by have:=(HO.out.2 _ (gM' R)).2;omega));clear hz N;generalize L[k]=x at*;generalize alE x=Y at*;obtain⟨y,ev⟩:=Y;simp only[]at g X;have b2:=z0' k;have b3:(k:Int)<(L.length:Int):=by omega
  go_wp2_with fail;refine HE.out.mono ?_;rintro e w2⟨rfl,Z⟩;have i:=ah Z;clear Z;by_cases a:ev=0
  .have e2:(ev != 0)=false:=bZ' a;have aa:=ah ((g.out.trans (nN' (by rw[a];simp))).symm.trans d.out);obtain⟨A5,c5,w5,C,j,E⟩:=vU (Own.ext z.out i.out) y (by omega) (J.out.trans' i.out).b.size;have a0:Ext w2 (w2.alloc (.cells #[.string (sB y)] 9)):=eR'.aA _;have aZ:Hid (dZ w5 w1.heap.size A5 (k+1) c5 ((L.take (k+1)).map λl=>(alE l).1)):=ah (by rw[X.out];exact j);have bg:Hid (Ext w1 w5):=ah (dP ((J.out.trans' i.out).trans' a0) E (λk R=>(Own.lt (Own.ext z.out i.out) k R).1));clear j E a0 a g d;go_wp2_with(at_builtin;refine bP rfl _ _ _ rfl _ _ rfl rfl _ _ C ?_);clear C;go_roundg a6;exact⟨k+1,A5,c5,by omega,by go_num,rfl,aZ,aa,bg⟩;omega
  .have e2:(ev != 0)=true:=bN' a;have p:=ah (W.out.trans (zD (d.out.symm.trans (g.out.trans (pP' a)))));have hx:=q.out.trans' (I.out.trans' (J.out.trans' i.out));have f:=ah a;clear a g d;go_wp2_with fail
   (try simp only[Exit.inBlock,Exit.then]);refine bodyPost_ret (results_tmp4 rfl _ _ _) rfl ?_
   exact⟨none,0,0,by rw[p.out];rfl,λh=>absurd (by rw[p.out]at h;exact h) f.out,hx⟩
 .have ac:k=L.length:=by omega
  subst ac;have a1:Hid (jf 0 L=none):=ah (by rw[<- d.out,List.drop_of_length_le (by omega)];rfl);have P:=ah (W.out.trans (zC a1.out));have B:=dZ.sts z.out;rw[List.take_length]at B;have ad:=ah (Gu _ _ _ _ wr B (by rw[List.length_map];omega));have ae:=ah (Qb _ _ _ _ wr B (by rw[List.length_map];omega));have af:Hid ((gJ (L.map λl=>(alE l).1)).2=0->(mF (L.map λl=>(alE l).1)).2=0):=ah (λh=>by unfold mF;rw[nN' (by rw[h];simp)]);have ag:=ah (r.out.ext J.out);clear B z d a1;generalize(L.map λl=>(alE l).1)=O at*;generalize gJ O=K at*;generalize mF O=M at*;obtain⟨ki,ke⟩:=K;obtain⟨m,me⟩:=M;simp only[]at P af;go_wp2_with fail;refine ad.out.mono ?_;rintro e w2⟨he,rfl⟩;unfold IE2 at he;subst he;simp only[];by_cases a:ke=0
  .have e2:(ke != 0)=false:=bZ' a;have p:=ah (P.out.trans (nN' (by rw[a];simp)));clear a N;go_wp2_with fail;refine ae.out.mono ?_;rintro e w3⟨rfl,Q⟩;have hx:=q.out.trans' (I.out.trans' (J.out.trans' Q));have al:=ah (ag.out.ext Q);clear Q;go_wp2_with fail
   (try simp only[Exit.inBlock,Exit.then]);refine bodyPost_ret (results_tmp4 rfl _ _ _) rfl ?_
   exact⟨_,_,_,by rw[p.out];rfl,λ_=>al.out,hx⟩
  .have e2:(ke != 0)=true:=bN' a;have p:=ah (P.out.trans (pP' a));have f:=ah a;clear a;go_wp2_with fail
   (try simp only[Exit.inBlock,Exit.then]);refine bodyPost_ret (results_tmp4 rfl _ _ _) rfl ?_
   exact⟨none,0,0,by rw[p.out];rfl,λh=>absurd (by rw[p.out]at h;exact h) f.out,N⟩
def zF(w:World)(d:List Int×Int×Int)(e:Ending)(w':World):Prop:=e=.returned (.tuple #[.string (sB d.1),.int .i64 d.2.1,.int .i64 d.2.2])/\Ext w w'
theorem QO(ht:aN w t T)(g:IsB s):Calls prog 66 #[t.v,.string (sB s)] w (zF w (dA T s)):=by
 have a:=dI w t;have h:=ah (Hz T t s (tW' w t) (ht.ay a) g);generalize dA T s=D at*;clear ht g;go_enter func66,ntmps66;go_wp2_with fail;refine h.out.mono ?_;rintro e i⟨A,n,c,rfl,d,b⟩;have f:=a.trans' b;clear b d;go_wp2;go_ret3;exact⟨rfl,f⟩
theorem Hy:∀(f:Bool)(ls:List (List Int)),(∀x∈ls,x.length<=4096)->(jnG f ls).length<=4097*ls.length
 |_,[],_=>by simp[jnG]
 |f,x::r,h=>by
  have b:=Hy false r λy a=>h y (List.mem_cons_of_mem _ a)
  have c:=h x (List.mem_cons_self ..);unfold jnG;rw[lA'];have d:(if f=true then x else 46::x).length<=4097:=by
   split
   .omega
   .simp;omega
  simp only[List.length_cons];omega
theorem QS{L:List (List Int)}(h:(oI L).2.2=0):L.length<=127:=by
 cases a:jf 0 L with
 |some q=>
  exfalso;rw[zD a]at h;have:∀(L:List (List Int))(i:Int)(p:Int×Int),jf i L=some p->p.2≠0:=by
   intro L
   induction L with
   |nil=>intro i p h;cases h
   |cons x r ih=>
    intro i p h;unfold jf at h;split at h
    .injection h with h;subst h;assumption
    .exact ih _ _ h
  exact this L 0 q a h
 |none=>
  rw[zC a]at h;split at h
  .exact absurd h ‹_›
  .rename_i b;have:=(Gx (Decidable.not_not.1 b)).2.1;rwa[List.length_map]at this
noncomputable def uniD(T:aj)(s:List Int):List Int×Int×Int:=if(dA T s).2.2≠0 then([],(dA T s).2)else((jU (jnL (bT T s).1)).1,0,(jU (jnL (bT T s).1)).2)
theorem QT{T:aj}{s:List Int}(h:(dA T s).2.2=0):(jnL (bT T s).1).length<=1000000:=by
 unfold dA at h;split at h
 .exact absurd h ‹_›
 .rename_i a;have c:=QS h;have d:=Hy true (bT T s).1 λx b=>((xH (Decidable.not_not.1 a)).2 x b).2
  unfold jnL;omega
theorem QU(ht:aN w t T)(B:IsB s):Calls prog 67 #[t.v,.string (sB s)] w (zF w (uniD T s)):=by
 have d:=dI w t;have C:=ah (Hz T t s (tW' w t) (ht.ay d) B);have f:Hid (uniD T s=if(dA T s).2.2≠0 then([],(dA T s).2)else((jU (jnL (bT T s).1)).1,0,(jU (jnL (bT T s).1)).2)):=rfl;have l:=ah (@QT T s);generalize uniD T s=V at*;generalize dA T s=D at*;generalize(bT T s).1=L at*;obtain⟨m,K,o⟩:=D;simp only[]at f l;clear ht B;go_enter func67,ntmps67;go_wp2_with fail;refine C.out.mono ?_;rintro e E⟨A,n,c,rfl,a,g⟩;have h:=d.trans' g;simp only[]at a;clear g;by_cases b:o=0
 .have p:=ah (a b);have q:=ah (l.out b);have r:=ah (f.out.trans (nN' (by rw[b];simp)));have F:(o != 0)=false:=bZ' b;clear b a f l;go_wp2_with fail;refine(PX L A n c E p.out q.out).mono ?_;rintro e G⟨H,I,J,rfl,i,j⟩;have x:=ah i;have y:=h.trans' j;clear i j;go_wp2_with fail;refine(uenc_spec (jnL L) H I J G x.out).mono ?_;rintro e M⟨rfl,k⟩;have z:=y.trans' k;clear k;go_wp2;go_ret3;exact⟨by rw[r.out];rfl,z⟩
 .have r:=ah (f.out.trans (pP' b));have F:(o != 0)=true:=bN' b;clear b a f l;go_wp2;go_ret3;exact⟨by rw[r.out];rfl,h⟩
end Go.Proofs.YtpmgophlhmcogaaGreatDoor
