/- Part By31. -/
import Derived.Shelf.Strings.OnBuilder
import Derived.Test.YtlmkgaoakcjlnaaGreatDoorBy30
open Go.Proofs.Tryz
namespace Go.Proofs.YtlmkgaoakcjlnaaGreatDoor
set_option maxHeartbeats 25600000
set_option maxRecDepth 100000
open Go.RowKit
variable (T:aj)(t:TV)(s:List Int)(w:World)
def WV:TypeDesc->Bool
 | .struct _=>true
 | .array _ _=>true
 |_=>false
theorem uX{P:Program}{t:TypeId}{b:Bool}(h:(P.underlying t).map WV=some b):∀w,(isAgg t).run P w=.ok b w:=λw=>by
 cases a:P.underlying t with
 |none=>rw[a]at h;cases h
 |some d=>
  rw[a]at h;have h:WV d=b:=by simpa using h
  subst h;simp only[isAgg,Sem.run_bind,run_underlying a,Result.andThen_ok];cases d<;>rfl
theorem uY{P:Program}{t:TypeId}{n:Nat}(h:(P.info? t).map (·.size)=some n):∀w,(Go.sizeOf t).run P w=.ok n w:=λw=>by
 cases a:P.info? t with
 |none=>rw[a]at h;cases h
 |some i=>
  rw[a]at h;have h:i.size=n:=by simpa using h
  simp[Go.sizeOf,typeInfo,a,h]
theorem uZ{P:Program}{t:TypeId}{z:Value}(h:(P.info? t).map (·.zero)=some (some z)):∀w,(zeroValue t).run P w=.ok z w:=λw=>by
 cases a:P.info? t with
 |none=>rw[a]at h;cases h
 |some i=>
  rw[a]at h;have h:i.zero=some z:=by simpa using h
  simp[zeroValue,typeInfo,a,h]
def rnJ:Go.Shelf.Ren:=⟨λx=>if x=156 then 205 else if x=165 then 262 else if x=166 then 263 else if x=169 then 264 else if x=240 then 286 else if x=241 then 287 else if x=276 then 305 else 306,λx=>if x=0 then 0 else if x=3 then 3 else if x=4 then 4 else if x=9 then 9 else if x=20 then 20 else if x=31 then 29 else if x=37 then 95 else if x=70 then 210 else if x=72 then 212 else if x=75 then 215 else if x=76 then 216 else if x=127 then 228 else if x=164 then 232 else if x=5 then 5 else 218,λx=>x⟩
theorem aNs:Lays.n156 prog rnJ where
 mixed:=by kernel_rfl
 f156:=func205.trans (by kernel_rfl)
 f165:=func262.trans (by kernel_rfl)
 f166:=func263.trans (by kernel_rfl)
 f169:=func264.trans (by kernel_rfl)
 f240:=func286.trans (by kernel_rfl)
 f241:=func287.trans (by kernel_rfl)
 f276:=func305.trans (by kernel_rfl)
 f277:=func306.trans (by kernel_rfl)
 t0:=by kernel_rfl
 a0:=uX (by kernel_rfl)
 z0:=uY (by kernel_rfl)
 v0:=uZ (by kernel_rfl)
 t3:=by kernel_rfl
 a3:=uX (by kernel_rfl)
 z3:=uY (by kernel_rfl)
 v3:=uZ (by kernel_rfl)
 t4:=by kernel_rfl
 a4:=uX (by kernel_rfl)
 z4:=uY (by kernel_rfl)
 v4:=uZ (by kernel_rfl)
 t9:=by kernel_rfl
 a9:=uX (by kernel_rfl)
 z9:=uY (by kernel_rfl)
 v9:=uZ (by kernel_rfl)
 t20:=by kernel_rfl
 a20:=uX (by kernel_rfl)
 z20:=uY (by kernel_rfl)
 v20:=uZ (by kernel_rfl)
 t31:=by kernel_rfl
 a31:=uX (by kernel_rfl)
 z31:=uY (by kernel_rfl)
 v31:=uZ (by kernel_rfl)
 t37:=by kernel_rfl
 a37:=uX (by kernel_rfl)
 z37:=uY (by kernel_rfl)
 v37:=uZ (by kernel_rfl)
 t70:=by kernel_rfl
 a70:=uX (by kernel_rfl)
 z70:=uY (by kernel_rfl)
 v70:=uZ (by kernel_rfl)
 t72:=by kernel_rfl
 a72:=uX (by kernel_rfl)
 z72:=uY (by kernel_rfl)
 v72:=uZ (by kernel_rfl)
 t75:=by kernel_rfl
 a75:=uX (by kernel_rfl)
 z75:=uY (by kernel_rfl)
 v75:=uZ (by kernel_rfl)
 t76:=by kernel_rfl
 a76:=uX (by kernel_rfl)
 z76:=uY (by kernel_rfl)
 v76:=uZ (by kernel_rfl)
 t127:=by kernel_rfl
 a127:=uX (by kernel_rfl)
 z127:=uY (by kernel_rfl)
 v127:=uZ (by kernel_rfl)
 t164:=by kernel_rfl
 a164:=uX (by kernel_rfl)
 z164:=uY (by kernel_rfl)
 v164:=uZ (by kernel_rfl)
theorem aNq:Builder.Extra prog rnJ where
 sizeBuilder:=by kernel_rfl
 liesBuilder:=by kernel_rfl
 t5:=by kernel_rfl
 a5:=uX (by kernel_rfl)
 z5:=uY (by kernel_rfl)
 v5:=uZ (by kernel_rfl)
 infoByte:=by kernel_rfl
 cellsByte:=by kernel_rfl
 sizeByte:=by kernel_rfl
 neB5:=by decide
def toU(l:List Int):List UInt8:=l.map λn=>UInt8.ofNat n.toNat
theorem WX:∀r:List (List Int),Lib.joinTail (toU [46]) (r.map toU)=toU (jnG false r)
 |[]=>rfl
 |x::r=>by
  have h:=WX r;unfold Lib.joinTail at h |-;rw[List.map_cons,List.map_cons,List.flatten_cons,h];show _=toU ((46::x)++jnG false r)
  unfold toU;simp
theorem join_eq{ls:List (List Int)}(h:ls≠[]):(⟨(Lib.join ((ls.map sB).map (·.data.toList)) (⟨#[46]⟩:ByteArray).data.toList).toArray⟩:ByteArray)=sB (jnL ls):=by
 cases ls with
 |nil=>exact absurd rfl h
 |cons x r=>
  have a:((x::r).map sB).map (·.data.toList)=toU x::r.map toU:=by
   simp only[List.map_cons,List.map_map];rfl
  have b:(⟨#[46]⟩:ByteArray).data.toList=toU [46]:=rfl;rw[a,b,Lib.join_cons,WX];refine LK _ _ ?_;show toU x++toU (jnG false r)=_
  unfold toU;rw[<- List.map_append];rfl
theorem aO5(ls:List (List Int))(A:Option Addr)(n c:Nat)(w:World)(q:nO w ⟨A,n,c⟩ ls)(N:ls.length<=1000000):Calls prog 140 #[.slice A n c] w (yK w (qH ls)):=by
 have i:Hid (qH ls=if(jT ls).2≠0 then([],(jT ls).2)else(jnL ls,0)):=rfl;have z:=ah (WQ ls A n c w q N);have d:=ah (@OD ls);generalize qH ls=D at*;generalize jT ls=C at*;obtain⟨O,B⟩:=C;have E:n=ls.length:=q.1.1;subst E;simp only at i d;by_cases r:B=0
 case neg=>
  rw[pP' r]at i;go_enter func140,ntmps140;go_wp2_with fail;refine z.out.mono ?_;rintro e F⟨k,rfl⟩;unfold IE2 at k;subst k;go_wp2;go_ret2;exact⟨by rw[i.out];rfl,eR'⟩
 rw[nN' (by rw[r];simp)]at i;subst r;obtain⟨l,_,G,_⟩:=d.out rfl;have a:=List.length_pos_iff.2 l;obtain⟨b,o,rfl,m⟩:=q.at_ a;have p:=World.block_lt_of_cell? w _ m;have f:=join_eq l
 have g:=Any.strings_Join (P:=prog) aNs aNq b o c (ls.map sB) ⟨#[46]⟩ w (λj x h=>by
  rw[List.getElem?_map]at h;cases s:ls[j]? with
  |none=>rw[s]at h;cases h
  |some y=>
   rw[s]at h;simp only[Option.map_some,Option.some.injEq]at h;subst h;obtain⟨H,I,e,t⟩:=q.2 j y s;have e:some (⟨b,o,none⟩:Addr)=some ⟨H,I,none⟩:=e;injection e with e;injection e with J K;subst J K
   exact t) p (by rw[List.length_map];omega) (by rw[List.length_map];exact q.1.2.1) (by
  have:=congrArg ByteArray.size f;rw[uU]at this;have e:(⟨(Lib.join ((ls.map sB).map (·.data.toList)) (⟨#[46]⟩:ByteArray).data.toList).toArray⟩:ByteArray).size=(Lib.join ((ls.map sB).map (·.data.toList)) (⟨#[46]⟩:ByteArray).data.toList).length:=by simp[ByteArray.size]
  omega)
 rw[f,List.length_map]at g;have L:=ah g;clear g f d m a p;go_enter func140,ntmps140;go_wp2_with fail;refine z.out.mono ?_;rintro e F⟨k,rfl⟩;unfold IE2 at k;subst k;go_wp2_with fail;refine L.out.mono ?_;rintro e Q⟨rfl,M⟩;go_wp2;go_ret2;exact⟨by rw[i.out];rfl,M⟩
abbrev oH(w:World)(base:Nat)(A:Option Addr)(n c:Nat)(ls:List (List Int)):Prop:=Own w base 9 1 A n c (ls.map λx=>Value.string (sB x))
theorem infoSt:(prog.info? 9).map (λi=>(i.zero,i.size,i.bytes))=some (some (.string ⟨#[]⟩),1,16):=by kernel_rfl
theorem oH.sts{w:World}{a n c:Nat}{A:Option Addr}{ls:List (List Int)}(h:oH w a A n c ls):nO w ⟨A,n,c⟩ ls:=by
 have d:=Own.len h;simp only[List.length_map,Nat.mul_one]at d;obtain⟨f,g⟩:=Own.le h;refine⟨⟨d.symm,by rw[d];exact f,g⟩,λi x j=>?_⟩;obtain⟨b,rfl,k⟩:=Own.rU h i (.string (sB x)) (by simp[j]);exact⟨b,0,rfl,by simpa using k⟩
theorem Jh{w:World}{a n c:Nat}{A:Option Addr}{ls:List (List Int)}(k:oH w a A n c ls)(x:List Int)(p:n<=1000000)(f:a<=w.heap.size):
 ∃A' c' w',(∀ty,(Builtin.append_ #[29,29] ty #[.slice A n c,.slice (some ⟨w.heap.size,0,none⟩) 1 1]).run prog (w.alloc (.cells #[.string (sB x)] 9))=.ok (.slice A' (n+1) c') w')/\oH w' a A' (n+1) c' (ls++[x])/\
  (w.alloc (.cells #[.string (sB x)] 9)).grownBy w' (aH A):=by
 have g:Ext w (w.alloc (.cells #[.string (sB x)] 9)):=eR'.aB _;obtain⟨A',o,w',h,d,l,_⟩:=Ac (T:=29) underlying29 infoSt rfl (by omega) (Own.ext k g) (some ⟨w.heap.size,0,none⟩) 1 1 [.string (sB x)] rfl
  (λj u i=>by
   refine⟨w.heap.size,0,rfl,?_⟩;rw[Nat.zero_add,World.cell?_alloc_new]
   match j,i with
   |0,i=>simpa using i
   |j+1,i=>simp at i)
  (by intro u m;simp at m;subst m;rfl) (by simp only[maxLen];omega) (by omega) (Nat.le_trans f g.b.size)
 exact⟨A',o,w',h,by unfold oH;rw[List.map_append];exact d,l⟩
noncomputable def qj:Int->List (List Int)->Option (Int×Int)
 |_,[]=>none
 |i,l::r=>if(alE l).2≠0 then some (i,(alE l).2)else qj (i+1) r
theorem Y6{L:List (List Int)}{k:Nat}(a:k<L.length):qj k (L.drop k)=if(alE L[k]).2≠0 then some ((k:Int),(alE L[k]).2)else qj ((k+1:Nat):Int) (L.drop (k+1)):=by
 rw[drop_at L k a];rfl
noncomputable def wR(L:List (List Int)):List Int×Int×Int:=match qj 0 L with
 |some q=>([],q)
 |none=>if(jT (L.map λl=>(alE l).1)).2≠0 then([],jT (L.map λl=>(alE l).1))else((qH (L.map λl=>(alE l).1)).1,0,(qH (L.map λl=>(alE l).1)).2)
noncomputable def eU(T:aj)(s:List Int):List Int×Int×Int:=if(cO T s).2.2≠0 then([],(cO T s).2)else wR (cO T s).1
theorem Gf{L:List (List Int)}{q:Int×Int}(h:qj 0 L=some q):wR L=([],q):=by
 unfold wR;rw[h]
theorem G9{L:List (List Int)}(h:qj 0 L=none):wR L=if(jT (L.map λl=>(alE l).1)).2≠0 then([],jT (L.map λl=>(alE l).1))else((qH (L.map λl=>(alE l).1)).1,0,(qH (L.map λl=>(alE l).1)).2):=by
 unfold wR;rw[h]
theorem aSC{T:aj}{L:List (List Int)}(h:(uG T L).2.2=0):(uG T L).1=L.map (λl=>(fD T l).1)/\∀l∈L,(fD T l).2=0:=by
 cases a:lF T 0 L with
 |some p=>
  exfalso;rw[zN a]at h;have:∀(L:List (List Int))(i:Int)(p:Int×Int),lF T i L=some p->p.2≠0:=by
   intro L
   induction L with
   |nil=>intro i p h;cases h
   |cons x r ih=>
    intro i p h;unfold lF at h;split at h
    .injection h with h;subst h;assumption
    .exact ih _ _ h
  exact this L 0 p a h
 |none=>
  rw[CW a]at h |-;split at h
  .exact absurd h ‹_›
  .rename_i b;rw[nN' b];exact⟨rfl,Jf a⟩
theorem AU{T:aj}{s:List Int}(h:(cO T s).2.2=0):(cO T s).1.length<=5000/\∀l∈(cO T s).1,iE T l=0/\l.length<=4096:=by
 unfold cO at h |-;split at h
 .cases h
 split at h
 .cases h
 split at h
 .exact absurd h ‹_›
 split at h
 .exact absurd h ‹_›
 split at h
 .exact absurd h ‹_›
 rename_i f g i j b;rw[nN' f,nN' g,nN' i,nN' j,nN' b];obtain⟨k,m⟩:=aSC h;have c:=Decidable.not_not.1 b;have p:=(Bz c).2;have q:=JX (T:=T) (lW T (gG s).1);have r:(l9 T (lW T (gG s).1)).length<=4096:=by rw[l9,pP' c];omega
 have n:=P6 (l9 T (lW T (gG s).1));rw[k];refine⟨by rw[List.length_map];omega,λl d=>?_⟩;rw[List.mem_map]at d;obtain⟨x,o,rfl⟩:=d;have a:=P8 (m x o);exact⟨a,G6 (G8 a)⟩
def aSJ(w:World)(L:List (List Int))(d:List Int×Int×Int)(e:Ending)(w':World):Prop:=∃A n c,e=.returned (.tuple #[.slice A n c,.string (sB d.1),.int .i64 d.2.1,.int .i64 d.2.2])/\(d.2.2=0->qY w' ⟨A,n,c⟩ L)/\Ext w w'
def AsL(wb:World)(L:List (List Int))(gh:Nat)(s11 s32:Value)(wx:World):Prop:=
 ∃(k:Nat)(A:Option Addr)(c:Nat),k+gh=L.length/\s32=.int .i64 k/\s11=.slice A k c/\Hid (oH wx wb.heap.size A k c ((L.take k).map λl=>(alE l).1))/\Hid (qj k (L.drop k)=qj 0 L)/\Hid (Ext wb wx)
theorem Y9(ht:aW w t T)(hs:IsB s):Calls prog 76 #[t.v,.string (sB s)] w (aSJ w (cO T s).1 (eU T s)):=by
 have F:=dG w t;have q:=ah F;have HP:=ah (Y3 T t s (tW' w t) (ht.aC F) hs);have S:Hid (eU T s=if(cO T s).2.2≠0 then([],(cO T s).2)else wR (cO T s).1):=rfl;have G:=ah (@AU T s);generalize eU T s=D at*;generalize cO T s=Y at*;obtain⟨L,pi,pe⟩:=Y;simp only[]at S G |-;clear ht F hs;go_enter func76,ntmps76;go_wp2_with fail;refine HP.out.mono ?_;rintro e w1⟨A,n,c,rfl,U,H⟩;have I:=ah H;have r:=ah U;have V:=q.out.trans' H;simp only[]at r;clear H U HP;by_cases a:pe=0
 case neg=>
  have p:=ah (S.out.trans (pP' a));have e1:(pe != 0)=true:=bN' a;have f:=ah a;clear a S;go_wp2_with fail
  (try simp only[Exit.inBlock,Exit.then]);refine bodyPost_ret (results_tmp4 rfl _ _ _) rfl ?_
  exact⟨none,0,0,by rw[p.out];rfl,λh=>absurd (by rw[p.out]at h;exact h) f.out,V⟩
 have W:=ah (S.out.trans (nN' (by rw[a];simp)));have e1:(pe != 0)=false:=bZ' a;have HO:=ah (G.out a);have hn:=r.out.len.1;subst hn;have hm:L.length<=5000:=HO.out.1;clear a S G V;go_wp2;go_loopg[11,32] L.length (λgh a4 a5 wx=>AsL w1 L gh a4 a5 wx);exact⟨0,none,0,by omega,rfl,rfl,ah (Own.nil_ _ _ _ _),ah rfl,ah eR'⟩;obtain⟨k,A2,c2,aE,rfl,rfl,z,d,J⟩:=hrel;have N:=q.out.trans' (I.out.trans' J.out);by_cases R:k<L.length
 .obtain⟨a6,rfl⟩:=gS' gk;obtain⟨b,o,za,zn,zc,rfl,b1,hz⟩:=(r.out.ext J.out).at_ R;have g:=ah (Y6 R);have X:Hid (((L.take (k+1)).map λl=>(alE l).1)=((L.take k).map λl=>(alE l).1)++[(alE L[k]).1]):=ah (by rw[tS' R,List.map_append];rfl);have HE:=ah (Wn L[k] za zn zc wr hz (by have:=(HO.out.2 _ (gM' R)).2;omega));clear hz N;generalize L[k]=x at*;generalize alE x=Y at*;obtain⟨y,ev⟩:=Y;simp only[]at g X;have b3:=z0' k;have b4:(k:Int)<(L.length:Int):=by omega
  go_wp2_with fail;refine HE.out.mono ?_;rintro e w2⟨rfl,Z⟩;have i:=ah Z;clear Z;by_cases a:ev=0
  .have e2:(ev != 0)=false:=bZ' a;have aa:=ah ((g.out.trans (nN' (by rw[a];simp))).symm.trans d.out);obtain⟨A5,c5,w5,C,j,E⟩:=Jh (Own.ext z.out i.out) y (by omega) (J.out.trans' i.out).b.size;have a0:Ext w2 (w2.alloc (.cells #[.string (sB y)] 9)):=eR'.aB _;have bP:Hid (oH w5 w1.heap.size A5 (k+1) c5 ((L.take (k+1)).map λl=>(alE l).1)):=ah (by rw[X.out];exact j);have bD:Hid (Ext w1 w5):=ah (dZ ((J.out.trans' i.out).trans' a0) E (λk R=>(Own.lt (Own.ext z.out i.out) k R).1));clear j E a0 a g d;go_wp2_with(at_builtin;refine dI rfl _ _ _ rfl _ _ rfl rfl _ _ C ?_);clear C;go_roundg a6;exact⟨k+1,A5,c5,by omega,by go_num,rfl,bP,aa,bD⟩;omega
  .have e2:(ev != 0)=true:=bN' a;have p:=ah (W.out.trans (Gf (d.out.symm.trans (g.out.trans (pP' a)))));have hx:=q.out.trans' (I.out.trans' (J.out.trans' i.out));have f:=ah a;clear a g d;go_wp2_with fail
   (try simp only[Exit.inBlock,Exit.then]);refine bodyPost_ret (results_tmp4 rfl _ _ _) rfl ?_
   exact⟨none,0,0,by rw[p.out];rfl,λh=>absurd (by rw[p.out]at h;exact h) f.out,hx⟩
 .have ac:k=L.length:=by omega
  subst ac;have a1:Hid (qj 0 L=none):=ah (by rw[<- d.out,List.drop_of_length_le (by omega)];rfl);have P:=ah (W.out.trans (G9 a1.out));have B:=oH.sts z.out;rw[List.take_length]at B;have ad:=ah (WQ _ _ _ _ wr B (by rw[List.length_map];omega));have ae:=ah (aO5 _ _ _ _ wr B (by rw[List.length_map];omega));have af:Hid ((jT (L.map λl=>(alE l).1)).2=0->(qH (L.map λl=>(alE l).1)).2=0):=ah (λh=>by unfold qH;rw[nN' (by rw[h];simp)]);have ag:=ah (r.out.ext J.out);clear B z d a1;generalize(L.map λl=>(alE l).1)=O at*;generalize jT O=K at*;generalize qH O=M at*;obtain⟨ki,ke⟩:=K;obtain⟨m,me⟩:=M;simp only[]at P af;go_wp2_with fail;refine ad.out.mono ?_;rintro e w2⟨he,rfl⟩;unfold IE2 at he;subst he;simp only[];by_cases a:ke=0
  .have e2:(ke != 0)=false:=bZ' a;have p:=ah (P.out.trans (nN' (by rw[a];simp)));clear a N;go_wp2_with fail;refine ae.out.mono ?_;rintro e w3⟨rfl,Q⟩;have hx:=q.out.trans' (I.out.trans' (J.out.trans' Q));have al:=ah (ag.out.ext Q);clear Q;go_wp2_with fail
   (try simp only[Exit.inBlock,Exit.then]);refine bodyPost_ret (results_tmp4 rfl _ _ _) rfl ?_
   exact⟨_,_,_,by rw[p.out];rfl,λ_=>al.out,hx⟩
  .have e2:(ke != 0)=true:=bN' a;have p:=ah (P.out.trans (pP' a));have f:=ah a;clear a;go_wp2_with fail
   (try simp only[Exit.inBlock,Exit.then]);refine bodyPost_ret (results_tmp4 rfl _ _ _) rfl ?_
   exact⟨none,0,0,by rw[p.out];rfl,λh=>absurd (by rw[p.out]at h;exact h) f.out,N⟩
def AV(w:World)(d:List Int×Int×Int)(e:Ending)(w':World):Prop:=e=.returned (.tuple #[.string (sB d.1),.int .i64 d.2.1,.int .i64 d.2.2])/\Ext w w'
theorem aSS(ht:aW w t T)(g:IsB s):Calls prog 44 #[t.v,.string (sB s)] w (AV w (eU T s)):=by
 have a:=dG w t;have h:=ah (Y9 T t s (tW' w t) (ht.aC a) g);generalize eU T s=D at*;clear ht g;go_enter func44,ntmps44;go_wp2_with fail;refine h.out.mono ?_;rintro e i⟨A,n,c,rfl,d,b⟩;have f:=a.trans' b;clear b d;go_wp2;go_ret3;exact⟨rfl,f⟩
theorem Y7:∀(f:Bool)(ls:List (List Int)),(∀x∈ls,x.length<=4096)->(jnG f ls).length<=4097*ls.length
 |_,[],_=>by simp[jnG]
 |f,x::r,h=>by
  have b:=Y7 false r λy a=>h y (List.mem_cons_of_mem _ a)
  have c:=h x (List.mem_cons_self ..);unfold jnG;rw[lA'];have d:(if f=true then x else 46::x).length<=4097:=by
   split
   .omega
   .simp;omega
  simp only[List.length_cons];omega
theorem aSU{L:List (List Int)}(h:(wR L).2.2=0):L.length<=127:=by
 cases a:qj 0 L with
 |some q=>
  exfalso;rw[Gf a]at h;have:∀(L:List (List Int))(i:Int)(p:Int×Int),qj i L=some p->p.2≠0:=by
   intro L
   induction L with
   |nil=>intro i p h;cases h
   |cons x r ih=>
    intro i p h;unfold qj at h;split at h
    .injection h with h;subst h;assumption
    .exact ih _ _ h
  exact this L 0 q a h
 |none=>
  rw[G9 a]at h;split at h
  .exact absurd h ‹_›
  .rename_i b;have:=(OD (Decidable.not_not.1 b)).2.1;rwa[List.length_map]at this
noncomputable def uniD(T:aj)(s:List Int):List Int×Int×Int:=if(eU T s).2.2≠0 then([],(eU T s).2)else((mQ (jnL (cO T s).1)).1,0,(mQ (jnL (cO T s).1)).2)
theorem Y8{T:aj}{s:List Int}(h:(eU T s).2.2=0):(jnL (cO T s).1).length<=1000000:=by
 unfold eU at h;split at h
 .exact absurd h ‹_›
 .rename_i a;have c:=aSU h;have d:=Y7 true (cO T s).1 λx b=>((AU (Decidable.not_not.1 a)).2 x b).2
  unfold jnL;omega
theorem aSW(ht:aW w t T)(B:IsB s):Calls prog 45 #[t.v,.string (sB s)] w (AV w (uniD T s)):=by
 have d:=dG w t;have C:=ah (Y9 T t s (tW' w t) (ht.aC d) B);have f:Hid (uniD T s=if(eU T s).2.2≠0 then([],(eU T s).2)else((mQ (jnL (cO T s).1)).1,0,(mQ (jnL (cO T s).1)).2)):=rfl;have l:=ah (@Y8 T s);generalize uniD T s=V at*;generalize eU T s=D at*;generalize(cO T s).1=L at*;obtain⟨m,K,o⟩:=D;simp only[]at f l;clear ht B;go_enter func45,ntmps45;go_wp2_with fail;refine C.out.mono ?_;rintro e E⟨A,n,c,rfl,a,g⟩;have h:=d.trans' g;simp only[]at a;clear g;by_cases b:o=0
 .have p:=ah (a b);have q:=ah (l.out b);have r:=ah (f.out.trans (nN' (by rw[b];simp)));have F:(o != 0)=false:=bZ' b;clear b a f l;go_wp2_with fail;refine(aNA L A n c E p.out q.out).mono ?_;rintro e G⟨H,I,J,rfl,i,j⟩;have x:=ah i;have y:=h.trans' j;clear i j;go_wp2_with fail;refine(uenc_spec (jnL L) H I J G x.out).mono ?_;rintro e M⟨rfl,k⟩;have z:=y.trans' k;clear k;go_wp2;go_ret3;exact⟨by rw[r.out];rfl,z⟩
 .have r:=ah (f.out.trans (pP' b));have F:(o != 0)=true:=bN' b;clear b a f l;go_wp2;go_ret3;exact⟨by rw[r.out];rfl,h⟩
theorem Pm{c:Int}(h:0<=c/\c<=127):aY c=true:=by
 simp only[aY,aT,oT',au];omega
theorem Yf{c:Int}(h:0<=c/\c<=127):fF c=true:=by
 simp only[fF,aT,oT',au];omega
theorem Yd{T:aj}{c:Int}(h:0<=c/\c<=127):eH T c=rV c:=by
 rw[eH,nU,nN' (by rw[Pm h];simp),pP' (Yf h)]
theorem Yb(P:Int->Prop)(h:∀n:Fin 128,P (n.val:Int)){c:Int}(a:0<=c/\c<=127):P c:=by
 have:=h ⟨c.toNat,by omega⟩;simp only at this;rwa[Int.toNat_of_nonneg a.1]at this
theorem aTY{c:Int}(h:0<=c/\c<=127):(rV c=1\/rV c=4)->nameB c=true\/c=46:=
 Yb (λc=>(rV c=1\/rV c=4)->nameB c=true\/c=46) (by decide+kernel) h
theorem AZ{c:Int}(h:nameB c=true):0<=c/\c<=127/\c≠46/\(c<65\/90<c):=by
 simp only[nameB,oT',aT,au]at h;omega
theorem Jo{T:aj}{c:Int}(h:lN T c=false):c≠46/\(eH T c=1\/eH T c=4):=by
 simp only[lN,oF',aO,aF',bne_eq_false_iff_eq]at h;exact h
theorem Ya{T:aj}{c:Int}(h:lN T c=false)(b:0<=c/\c<=127):nameB c=true:=by
 obtain⟨d,a⟩:=Jo h;rw[Yd b]at a;exact(aTY b a).resolve_right d
theorem Gi{T:aj}{l:List Int}(h:iE T l=0):aX T l=0/\l≠[]/\qw T l=true/\pY l=true/\∀c∈l,lN T c=false:=by
 unfold iE at h;split at h
 .exact absurd h ‹_›
 rename_i b;split at h
 .exact absurd h (by decide)
 rename_i d;split at h
 .exact absurd h (by decide)
 rename_i f;split at h
 .exact absurd h (by decide)
 rename_i g;split at h
 .exact absurd h (by decide)
 split at h
 .exact absurd h (by decide)
 rename_i a;refine⟨Decidable.not_not.1 b,λe=>d (by rw[e];rfl),by simpa using f,by simpa using g,λc i=>?_⟩;rw[Bool.not_eq_true,List.any_eq_false]at a;simpa using a c i
theorem aT3{d:Int}(h:0<=d/\d<36):nameB (fG d)=true:=by
 unfold fG;simp only[nameB,oT',aT,au];split<;>omega
theorem Pn{l:List Int}(c:jI l=true)(h:(alE l).2=0):alE l=(l,0)/\l.length<=63/\l≠[]:=by
 by_cases a:l.length=0
 .rw[alE,pP' a]at h;exact absurd h (by decide)
 rw[alE,nN' a,pP' c]at h |-;by_cases b:63<l.length
 .rw[pP' b]at h;exact absurd h (by decide)
 .rw[nN' b];exact⟨rfl,by omega,λe=>a (by rw[e];rfl)⟩
theorem Po{l:List Int}(i:jI l=false)(h:(alE l).2=0):alE l=([120,110,45,45]++iO l,0)/\(iO l).length<=59/\l.length<=256/\(∀x∈l,aY x=true)/\(kD l).2=0:=by
 by_cases g:l.length=0
 .rw[alE,pP' g]at h;exact absurd h (by decide)
 rw[alE,nN' g,nN' (by rw[i];simp)]at h |-;by_cases d:(kD l).2≠0
 .rw[pP' d]at h;exact absurd h d
 rw[nN' d]at h |-;by_cases f:63<(kD l).1.length+4
 .rw[pP' f]at h;exact absurd h (by decide)
 rw[nN' f];obtain⟨a,b,c⟩:=Oz (Decidable.not_not.1 d);rw[c]at f |-;exact⟨rfl,by omega,a,b,Decidable.not_not.1 d⟩
theorem Pg{l:List Int}(h:∀x∈l,aY x=true):∀x∈l,0<=x/\x<=1114111:=λx a=>by
 have:=h x a;simp only[aY,aT,au]at this;omega
theorem Ye{T:aj}{l:List Int}(g:∀c∈l,lN T c=false)(b:∀x∈l,aY x=true)(h:l.length<=256):∀c∈iO l,nameB c=true:=by
 intro c a;unfold iO nN at a;rw[List.mem_append,List.mem_append]at a;rcases a with(a|a)|a
 .rw[jr,List.mem_filter]at a;have i:=Pg b c a.1;have j:=of_decide_eq_true a.2;exact Ya (g c a.1) (by omega)
 .split at a
  .cases a
  .rw[List.mem_singleton]at a;subst a;decide
 .rw[List.mem_map]at a;obtain⟨d,f,rfl⟩:=a;exact aT3 ((J6 (Pg b) h).2.1 d f)
theorem Pj{T:aj}{l:List Int}(h:iE T l=0)(f:(alE l).2=0):∀c∈(alE l).1,nameB c=true:=by
 obtain⟨_,_,_,_,d⟩:=Gi h;cases b:jI l with
 |true=>
  rw[(Pn b f).1];exact λc a=>Ya (d c a) (FV b c a)
 |false=>
  obtain⟨e,_,g,i,_⟩:=Po b f;rw[e];intro c a;rw[List.mem_append]at a;rcases a with a|a
  .simp only[List.mem_cons,List.not_mem_nil,or_false]at a;rcases a with rfl|rfl|rfl|rfl<;>decide
  .exact Ye d i g c a
theorem Ji:∀{L:List (List Int)}{i:Int},qj i L=none->∀l∈L,(alE l).2=0
 |[],_,_,l,a=>by cases a
 |x::r,i,h,l,a=>by
  unfold qj at h;split at h
  .cases h
  .rename_i b;rcases List.mem_cons.1 a with rfl|a
   .exact Decidable.not_not.1 b
   .exact Ji h l a
theorem P9:∀{L:List (List Int)}{i:Int}{q:Int×Int},qj i L=some q->i<=q.1/\q.2≠0
 |[],_,_,h=>by cases h
 |x::r,i,q,h=>by
  unfold qj at h;split at h
  .injection h with h;subst h;exact⟨Int.le_refl _,‹_›⟩
  .have:=P9 h;exact⟨by omega,this.2⟩
theorem Jj{T:aj}:∀{L:List (List Int)}{i:Int}{q:Int×Int},lF T i L=some q->i<=q.1/\q.2≠0
 |[],_,_,h=>by cases h
 |x::r,i,q,h=>by
  unfold lF at h;split at h
  .injection h with h;subst h;exact⟨Int.le_refl _,‹_›⟩
  .have:=Jj h;exact⟨by omega,this.2⟩
theorem Jl{O:List (List Int)}(h:(jT O).2=0):O.length≠0/\fbG 0 O=none/\O.length<=127/\(O.length:Int)-1+ng O<=253/\jT O=(0,0):=by
 have c:∀(L:List (List Int))(k:Nat)(q:Int×Int),fbG k L=some q->q.2≠0:=by
  intro L
  induction L with
  |nil=>intro k q h;cases h
  |cons x r ih=>
   intro k q h;unfold fbG at h;split at h
   .injection h with h;subst h;show(10:Int)≠0;decide
   .split at h
    .injection h with h;subst h;show(11:Int)≠0;decide
    .exact ih _ _ h
 unfold jT at h |-;split at h
 .exact absurd h (by decide)
 rename_i b;rw[nN' b];cases a:fbG 0 O with
 |some q=>
  rw[a]at h;exact absurd h (c _ _ _ a)
 |none=>
  rw[a]at h;simp only at h |-;split at h
  .exact absurd h (by decide)
  .rename_i d;rw[nN' d];exact⟨b,by first|rfl|trivial,by omega,by omega,rfl⟩
theorem aUS{O:List (List Int)}:0<=(jT O).1:=by
 have a:∀(L:List (List Int))(k:Nat)(q:Int×Int),fbG k L=some q->0<=q.1:=by
  intro L
  induction L with
  |nil=>intro k q h;cases h
  |cons x r ih=>
   intro k q h;unfold fbG at h;split at h
   .injection h with h;subst h;exact bJ _
   .split at h
    .injection h with h;subst h;exact bJ _
    .exact ih _ _ h
 unfold jT;split
 .exact Int.le_refl 0
 .cases b:fbG 0 O with
  |some q=>exact a _ _ _ b
  |none=>
   simp only;split<;>exact Int.le_refl 0
noncomputable def lG(L:List (List Int)):List (List Int):=L.map λl=>(alE l).1
theorem Jk{L:List (List Int)}(h:(wR L).2.2=0):qj 0 L=none/\(jT (lG L)).2=0/\wR L=(jnL (lG L),0,0):=by
 cases a:qj 0 L with
 |some q=>
  rw[Gf a]at h;exact absurd h (P9 a).2
 |none=>
  rw[G9 a]at h |-;split at h
  .exact absurd h ‹_›
  .rename_i b;rw[nN' b];have c:=Decidable.not_not.1 b;exact⟨rfl,c,by rw[qH,nN' b];rfl⟩
theorem Jm{T:aj}{s:List Int}(h:(eU T s).2.2=0):(cO T s).2.2=0/\eU T s=wR (cO T s).1/\(wR (cO T s).1).2.2=0:=by
 unfold eU at h |-;split at h
 .exact absurd h ‹_›
 .rename_i a;rw[nN' a];exact⟨Decidable.not_not.1 a,rfl,h⟩
theorem aU3{T:aj}{L:List (List Int)}(h:(uG T L).2.2≠0):(uG T L).1=[]/\0<=(uG T L).2.1:=by
 cases a:lF T 0 L with
 |some p=>
  rw[zN a];exact⟨rfl,(Jj a).1⟩
 |none=>
  rw[CW a]at h |-;split at h
  .rename_i b;rw[pP' b];refine⟨rfl,?_⟩;unfold wQ;split
   .rename_i c;have:∀(M:List (List Int))(i:Int),0<=i->frR T i M= -1\/0<=frR T i M:=by
     intro M
     induction M with
     |nil=>intro i _;exact .inl rfl
     |cons x r ih=>
      intro i d;unfold frR;split
      .exact .inr d
      .exact ih _ (by omega)
    exact(this _ 0 (Int.le_refl 0)).resolve_left c.2
   .exact Int.le_refl 0
  .exact absurd rfl h
theorem aU2{T:aj}{s:List Int}(h:(cO T s).2.2≠0):(cO T s).1=[]/\0<=(cO T s).2.1:=by
 unfold cO at h |-;split
 .exact⟨rfl,Int.le_refl 0⟩
 split
 .exact⟨rfl,Int.le_refl 0⟩
 split
 .refine⟨rfl,?_⟩;show 0<=(gG s).2.1
  unfold gG;split
  .exact Int.le_refl 0
  .split
   .exact bJ _
   .exact Int.le_refl 0
 split
 .refine⟨rfl,?_⟩;show 0<=rC T (gG s).1
  unfold rC;split
  .exact Int.le_refl 0
  .split
   .rename_i a;have:∀(M:List Int)(i:Int),0<=i->kF T i M= -1\/0<=kF T i M:=by
     intro M
     induction M with
     |nil=>intro i _;exact .inl rfl
     |cons x r ih=>
      intro i b;unfold kF;split
      .exact .inr b
      .exact ih _ (by omega)
    exact(this _ 0 (Int.le_refl 0)).resolve_left a
   .exact Int.le_refl 0
 split
 .exact⟨rfl,Int.le_refl 0⟩
 rename_i c a d f g;rw[nN' c,nN' a,nN' d,nN' f,nN' g]at h;exact aU3 h
theorem aUg{T:aj}{s:List Int}(h:(eU T s).2.2≠0):(eU T s).1=[]/\0<=(eU T s).2.1:=by
 unfold eU at h |-;split
 .rename_i a;exact⟨rfl,(aU2 a).2⟩
 .rename_i a;rw[nN' a]at h;cases b:qj 0 (cO T s).1 with
  |some q=>
   rw[Gf b];exact⟨rfl,(P9 b).1⟩
  |none=>
   rw[G9 b]at h |-;split
   .rename_i c;exact⟨rfl,aUS⟩
   .rename_i c;rw[nN' c]at h;exfalso;apply h;show(qH _).2=0
    rw[qH,nN' c]
theorem Pe:∀(x:List Int)(L:List (List Int))(cur r:List Int),(46∉x)->lbG L cur (x++r)=lbG L (cur++x) r
 |[],L,cur,r,_=>by rw[List.nil_append,List.append_nil]
 |c::x,L,cur,r,h=>by
  have a:c≠46:=λe=>h (by rw[e];exact List.mem_cons_self ..)
  rw[List.cons_append,lbG,nN' a,Pe x L _ r (λe=>h (List.mem_cons_of_mem _ e)),List.append_assoc];rfl
theorem Yc:∀(O:List (List Int))(L:List (List Int))(cur:List Int),(∀x∈O,46∉x)->lbG L cur (jnG false O)=L++cur::O
 |[],L,cur,_=>rfl
 |x::r,L,cur,h=>by
  show lbG L cur (46::(x++jnG false r))=_
  rw[lbG,pP' rfl,Pe x _ _ _ (h x (List.mem_cons_self ..)),Yc r _ _ λy a=>h y (List.mem_cons_of_mem _ a)];simp
theorem Pq{O:List (List Int)}(h:O≠[])(a:∀x∈O,46∉x):lV (jnL O)=O:=by
 cases O with
 |nil=>exact absurd rfl h
 |cons x r=>
  show lbG [] [] (x++jnG false r)=_
  rw[Pe x _ _ _ (a x (List.mem_cons_self ..)),Yc r _ _ λy b=>a y (List.mem_cons_of_mem _ b)];rfl
theorem Gh{P:Int->Prop}(b:P 46):∀(f:Bool)(O:List (List Int)),(∀x∈O,∀c∈x,P c)->∀c∈jnG f O,P c
 |_,[],_,c,a=>by cases a
 |f,x::r,h,c,a=>by
  unfold jnG at a;rw[List.mem_append]at a;rcases a with a|a
  .split at a
   .exact h x (List.mem_cons_self ..) c a
   .rcases List.mem_cons.1 a with rfl|a
    .exact b
    .exact h x (List.mem_cons_self ..) c a
  .exact Gh b false r (λy d=>h y (List.mem_cons_of_mem _ d)) c a
theorem aUi{T:aj}{s:List Int}(h:(eU T s).2.2=0):(∀c∈(eU T s).1,nameB c=true\/c=46)/\(eU T s).2.1=0/\1<=(eU T s).1.length/\(eU T s).1.length<=253/\jT (lV (eU T s).1)=(0,0):=by
 obtain⟨j,k,m⟩:=Jm h;obtain⟨n,o,p⟩:=Jk m;have q:=(AU j).2;obtain⟨t,w,A,B,y⟩:=Jl o;have a:lG (cO T s).1≠[]:=λe=>t (by rw[e];rfl)
 have f:∀x∈lG (cO T s).1,∀c∈x,nameB c=true:=by
  intro x b;unfold lG at b;rw[List.mem_map]at b;obtain⟨l,g,rfl⟩:=b;exact Pj (q l g).1 (Ji n l g)
 rw[k,p];refine⟨Gh (.inr rfl) true _ λx b c d=>.inl (f x b c d),rfl,?_,?_,?_⟩
 .have:=FZ a;have z:=OB _ _ w;show 1<=(jnL _).length
  cases i:lG (cO T s).1 with
  |nil=>exact absurd i a
  |cons x r=>
   have:=(z x (by rw[i];exact List.mem_cons_self ..)).1;show 1<=(x++jnG false r).length
   rw[lA'];omega
 .have:=FZ a;show(jnL _).length<=253
  omega
 .show jT (lV (jnL _))=_
  rw[Pq a λx b d=>(AZ (f x b 46 d)).2.2.1 rfl];exact y
theorem Pv{T:aj}{c:Int}(h:eH T c=1\/eH T c=4):aY c=true:=by
 cases a:aY c with
 |true=>rfl
 |false=>
  rw[eH,nU,pP' a]at h;omega
theorem Yj{T:aj}:∀{l:List Int}{i:Int},(∀c∈l,eH T c≠0)->kF T i l= -1
 |[],_,_=>rfl
 |c::r,i,h=>by
  unfold kF;rw[nN' (h c (List.mem_cons_self ..))];exact Yj λx a=>h x (List.mem_cons_of_mem _ a)
theorem map_id{T:aj}{q:List Int}(j:dw T=true)(b:∀c∈q,eH T c=1\/eH T c=4)(k:q.length<=4096):jV T q=0/\lW T q=q:=by
 have g:aX T q=0:=Zv j (λc a=>Pv (b c a)) k;have d:q.flatMap (jd T)=q:=by
  have:∀L:List Int,(∀c∈L,eH T c=1\/eH T c=4)->L.flatMap (jd T)=L:=by
   intro L
   induction L with
   |nil=>intro _;rfl
   |cons x r ih=>
    intro h;have i:=h x (List.mem_cons_self ..);rw[List.flatMap_cons,ih λc a=>h c (List.mem_cons_of_mem _ a),jd,nN' (by omega),pP' i];rfl
  exact this q b
 have f:jV T q=0:=by
  unfold jV;rw[nN' (by rw[g];simp),nN' (by rw[Yj λc a=>by have:=b c a;omega];simp),nN' (by rw[d];omega)]
 exact⟨f,by rw[lW,pP' f,d]⟩
theorem Yl{q:List Int}(b:∀c∈q,aY c=true)(d:q.length<=4096):mQ q=(jm q,0):=by
 unfold mQ;rw[nN' (by omega),nN'];rw[List.any_eq_true];rintro⟨c,a,h⟩;rw[b c a]at h;cases h
theorem Yn(a b:List Int)(c:45∉b):∀k,k<=b.length->jH 45 (a++b) (a.length+k)=jH 45 (a++b) a.length
 |0,_=>rfl
 |k+1,hk=>by
  have d:(a++b).getD (a.length+k) 0=b.getD k 0:=by
   rw[List.getD,List.getD,List.getElem?_append_right (by omega),Nat.add_sub_cancel_left]
  have f:b.getD k 0≠45:=by
   rw[getD_lt b k 0 (by omega)];exact λe=>c (by rw[<- e];exact gM' _)
  rw[<- Nat.add_assoc,jH,d,nN' f,Yn a b c k (by omega)]
theorem aVj{d:Int}(h:0<=d/\d<36):fZ (fG d)=some d:=by
 unfold fZ fG;by_cases a:d<26
 .rw[pP' a,pP' (by omega)];congr 1;omega
 .rw[nN' a,nN' (by omega),nN' (by omega),pP' (by omega)];congr 1;omega
theorem aVg(l:List Int):kE l 0 (plc l 128 0)=jr l:=by
 have:∀(r p:List Int),l=p++r->kE r p.length (plc l 128 0)=jr r:=by
  intro r
  induction r with
  |nil=>intro p _;rfl
  |cons x r ih=>
   intro p a;have d:p.length<l.length:=(by rw[a];simp);have f:l[p.length]=x:=(by simp[a]);have b:=ih (p++[x]) (by rw[a];simp);rw[lA',List.length_singleton]at b;rw[kE,b,sD d,f];unfold jr;rw[List.filter_cons];by_cases c:x<128
   .simp[c]
   .have e:¬x=128\/True:=.inr trivial;simp[c]
 exact this l [] rfl
theorem Ym{l:List Int}(y:∀x∈l,aY x=true)(z:l.length<=256)(D:(iO l).length<=2048):pdU (iO l)=(l,0):=by
 obtain⟨A,q,_⟩:=J6 (Pg y) z;have m:45∉(yN l).map fG:=by
  intro h;rw[List.mem_map]at h;obtain⟨d,n,g⟩:=h;have:=q d n;unfold fG at g;split at g<;>omega
 have i:((yN l).map fG).map fZ=(yN l).map some:=by
  rw[List.map_map];exact List.map_congr_left λd h=>aVj (q d h)
 have o:hyB (iO l)=(jr l).length/\ru (iO l)=(yN l).map fG:=by
  have e:iO l=nN l++(yN l).map fG:=rfl;have s:jH 45 (iO l) (iO l).length=jH 45 (iO l) (nN l).length:=by
   rw[e,lA'];exact Yn _ _ m _ (lr' _)
  cases j:jr l with
  |nil=>
   have a:nN l=[]:=(by unfold nN;rw[j];rfl);have f:hyB (iO l)=0:=by
    unfold hyB;rw[s,a];rfl
   refine⟨f,?_⟩;unfold ru;rw[pP' f,e,a];rfl
  |cons x r=>
   have a:nN l=(x::r)++[45]:=(by unfold nN;rw[j];rfl);have f:hyB (iO l)=(x::r).length:=by
    unfold hyB;rw[s,a];have:((x::r)++[45]:List Int).length=(x::r).length+1:=by simp
    rw[this,jH,pP']
    .simp
    .rw[e,a,List.getD,List.getElem?_append_left (by simp),List.getElem?_append_right (by simp)];simp
   refine⟨f,?_⟩;unfold ru;rw[nN' (by rw[f];simp),f,e,a];have:((x::r)++[45]:List Int).length=(x::r).length+1:=by simp
   rw[<- this,List.drop_left]
 obtain⟨B,b⟩:=o;have p:(iO l).take (jr l).length=jr l:=by
  unfold iO nN;rw[List.append_assoc,List.take_left]
 unfold pdU;rw[nN' (by omega),B,p,nN',b,i,<- aVg l]
 .rw[aIY y z A _ (by simp) (by decide) (by decide) (bJ _)]
  .rfl
  .intro k C t;rw[sD C]at t;have a:¬l[k]<128:=λe=>by simp[e]at t
   exact⟨by omega,λ_=>bJ _⟩
 .rw[List.any_eq_true];rintro⟨c,w,h⟩;rw[jr,List.mem_filter]at w;have:=of_decide_eq_true w.2;have:=of_decide_eq_true h;omega
theorem aVZ{l:List Int}(c:(alE l).2=0):l.length<=(alE l).1.length:=by
 cases a:jI l with
 |true=>rw[(Pn a c).1];exact lr' _
 |false=>
  obtain⟨e,g,d,f,_⟩:=Po a c;have b:=OA (iO l);rw[Ym f d (by omega)]at b;rw[e,lA'];exact Nat.le_trans b (Nat.le_add_left _ _)
theorem Jp:∀(f:Bool)(L:List (List Int)),(∀l∈L,(alE l).2=0)->(jnG f L).length<=(jnG f (lG L)).length
 |_,[],_=>lr' _
 |f,x::r,h=>by
  have b:=Jp false r λy a=>h y (List.mem_cons_of_mem _ a)
  have c:=aVZ (h x (List.mem_cons_self ..));show((if f then x else 46::x)++jnG false r).length<=((if f then(alE x).1 else 46::(alE x).1)++jnG false (lG r)).length
  rw[lA',lA'];split
  .omega
  .simp only[List.length_cons];omega
theorem uni_ok{T:aj}{s:List Int}(h:(eU T s).2.2=0):mQ (jnL (cO T s).1)=(jm (jnL (cO T s).1),0)/\uniD T s=(jm (jnL (cO T s).1),0,0):=by
 obtain⟨d,_,f⟩:=Jm h;obtain⟨g,i,_⟩:=Jk f;have j:=Ji g;obtain⟨k,_,_,p,_⟩:=Jl i;have a:=FZ (ls:=lG (cO T s).1) (λe=>k (by rw[e];rfl));have l:=Jp true _ j;have q:(jnL (cO T s).1).length<=(jnL (lG (cO T s).1)).length:=l;have m:∀c∈jnL (cO T s).1,aY c=true:=Gh (by decide) true _ λx n c o=>Pv (Jo ((Gi ((AU d).2 x n).1).2.2.2.2 c o)).2
 have b:=Yl m (by omega);refine⟨b,?_⟩;unfold uniD;rw[nN' (by rw[h];simp),b]
end Go.Proofs.YtlmkgaoakcjlnaaGreatDoor
