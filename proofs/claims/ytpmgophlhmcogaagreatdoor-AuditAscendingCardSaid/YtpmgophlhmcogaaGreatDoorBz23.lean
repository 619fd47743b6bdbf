/- Part Bz23. -/
import Derived.Test.YtpmgophlhmcogaaGreatDoorBz22
import Derived.Test.YtpmgophlhmcogaaGreatDoorRows
import Derived.ProofKit
import Derived.OpenShut
import Derived.Deep.Slices
import Derived.Deep.MidRow
import Derived.Deep.DeepHandedRow
import Derived.Lib.LaidTab
import Derived.Below
import Derived.Carry
import Derived.ChangeSame
open Go.Proofs.Tryz
namespace Go.Proofs.YtpmgophlhmcogaaGreatDoor
set_option maxHeartbeats 25600000
set_option maxRecDepth 100000
open Go.RowKit
theorem Gl(b:Int):∀(ds:List (Option Int))(j v w x:Int)(r:List (Option Int)),iq b ds j v w=some (x,r)->r.length<ds.length
 |[],_,_,_,_,_,h=>by cases h
 |none::_,_,_,_,_,_,h=>by cases h
 |some d::ds,j,v,w,x,r,h=>by
  unfold iq at h;split at h
  .injection h with h;injection h with _ h;subst h;simp
  .have:=Gl b ds _ _ _ _ _ h;simp only[List.length_cons];omega
theorem Gj:∀(g:Nat)(ds:List (Option Int))(o:List Int)(n i b:Int)(f:Bool)(l:List Int),0<=i->decP g ds o n i b f=.ok l->l.length<=o.length+ds.length
 |0,_,o,_,_,_,_,l,_,h=>by
  unfold decP at h;injection h with h;subst h;omega
 |g+1,ds,o,n,i,b,f,l,hi,h=>by
  by_cases a:ds=[]
  .subst a;unfold decP at h;injection h with h;subst h;simp
  .rw[G6 a]at h;split at h
   .cases h
   .rename_i v r c;have j:=Gl b ds 0 0 1 v r c;split at h
    .cases h
    .split at h
     .cases h
     .have k:=Int.emod_nonneg (v+i) (b:=(o.length:Int)+1) (by omega);have d:=Int.emod_lt_of_pos (v+i) (b:=(o.length:Int)+1) (by omega);have:=Gj g r _ _ _ _ _ l (by omega) h;rw[vP _ _ _ (by omega)]at this;omega
theorem Gn(s:List Int):(pdU s).1.length<=s.length:=by
 unfold pdU;split
 .simp
 .split
  .simp
  .cases a:decP (oC s).length ((oC s).map fF) (s.take (hyB s)) 128 0 72 true with
   |vN=>simp[resD]
   |over=>simp[resD]
   |ok l=>
    have h:=Gj _ _ _ _ _ _ _ l (by omega) a;simp only[resD];unfold oC at h;split at h
    .rename_i b;rw[b]at h;simpa using h
    .simp at h;omega
theorem PL(l:List Int):IsB (alE l).1:=by
 unfold alE;split
 .exact mg
 .split
  .rename_i b;split
   .exact mg
   .intro x a;have:=BJ b x a;omega
  .split
   .exact mg
   .rename_i c;split
    .exact mg
    .exact Et (by intro x a;simp at a;omega) (G9 l (by omega))
def PN(w1:World)(s:List Int)(g:Nat)(so si:Value)(wx:World):Prop:=
 ∃(A:Option Addr)(c k:Nat),g+k=s.length/\si=.int .i64 k/\so=.slice A k c/\aB wx w1.heap.size A k c (s.take k)/\Ext w1 wx/\Hid ((s.take k).any (λb=>decide (127<b))=false)
theorem PS(s:List Int)(hs:IsB s)(hm:s.length<=1000000)(w:World):Calls prog 182 #[.string (sB s)] w (zh w (alD s)):=by
 have d:Hid (alD s=if s.length=0 then([],10)else if s.any (λb=>decide (127<b))then([],12)else if 63<s.length then([],11)else if isX s=false then(s,0)
  else if(pdU (fM (s.drop 4))).2≠0 then([],(pdU (fM (s.drop 4))).2)else if iF (pdU (fM (s.drop 4))).1=true then([],12)
  else if(alE (pdU (fM (s.drop 4))).1).2≠0\/(alE (pdU (fM (s.drop 4))).1).1≠fM s then([],12)else((pdU (fM (s.drop 4))).1,0)):=rfl
 have p:=ah hs;generalize alD s=D at*;clear hs;have r:=pU s;by_cases I:s.length=0
 .rw[pP' I]at d;rw[List.eq_nil_of_length_eq_zero I,show([]:List Int).isEmpty=true from rfl]at r;rw[List.eq_nil_of_length_eq_zero I];clear I;go_enter func182,ntmps182;go_wp2;go_ret2;exact⟨none,0,0,by rw[d.out];rfl,by rw[d.out];exact au.nil_ w,eR'⟩
 rw[nN' I]at d;rw[show s.isEmpty=false from by cases s with|nil=>exact absurd rfl I|cons a b=>rfl]at r;obtain⟨cc,w1,ac,K,L,_⟩:=yO (w:=w) p.out (by omega);have ad:=ah K;have M:=ah L;go_enter func182,ntmps182;go_wp2_with fail;clear r ac K L;go_loopg[4,15] s.length (λgh so si wx=>PN w1 s gh so si wx);exact⟨none,0,0,by omega,rfl,rfl,Own.nil_ _ _ _ _,eR',rfl⟩;obtain⟨A,c,k,hg,rfl,rfl,o,N,O⟩:=hrel;have HO:=ah o;have Q:=ah N;clear o N;by_cases J:k<s.length
 .have hr:=Bd p.out k;obtain⟨b',o',hA,ag⟩:=(ad.out.ext Q.out).at_ J;injection hA with hA;injection hA with e1 e2;subst e1 e2;rw[Nat.zero_add,<- getD_lt s k 0 J]at ag;have t:=ah (xq (f:=λb=>decide (127<b)) J);have x:=ah (anyM (f:=λb=>decide (127<b)) J);have HT:Hid (s.take (k+1)=s.take k++[s[k]]):=ah (tS' J);rw[<- getD_lt s k 0 J]at t x HT;generalize s.getD k 0=y at*;by_cases R:127<y
  .have HF:Hid (D=([],12)):=ah (by rw[d.out,pP' (x.out (by simp[R]))]);have g:=M.out.trans' Q.out;go_wp2;go_ret2;exact⟨none,0,0,by rw[HF.out];rfl,by rw[HF.out];exact au.nil_ _,g⟩
  .have al:Hid ((s.take (k+1)).any (λb=>decide (127<b))=false):=ah (by rw[t.out,O.out];simp;omega);obtain⟨A5,c5,w5,S,i,j,_⟩:=yU HO.out Q.out y (by omega);have aZ:Hid (aB w5 w1.heap.size A5 (k+1) c5 (s.take (k+1))):=ah (by rw[HT.out];exact i);have T:=ah j;clear i j O t x HT;go_wp2_with(at_builtin;refine bP rfl _ _ _ rfl _ _ rfl rfl _ _ S ?_);go_roundg (s.length-(k+1));exact⟨A5,c5,k+1,by omega,by go_num,rfl,aZ.out,T.out,al⟩;omega
 .have he:s.take k=s:=tL' (by omega);rw[he]at HO O;rw[nN' (by rw[O.out];simp)]at d;have z:=ah (M.out.trans' Q.out);have U:=ah (aB.ints HO.out);have be:k<=s.length/\s.length<=k:=by omega
  clear O HO he Q;generalize wr=w3 at*;by_cases V:63<s.length
  .rw[pP' V]at d;have g:=z.out;go_wp2;go_ret2;exact⟨none,0,0,by rw[d.out];rfl,by rw[d.out];exact au.nil_ _,g⟩
  rw[nN' V]at d;have B:=ah (Gf s p.out w3);obtain⟨X,hX⟩:=eY' (isX s)
  have eH:Hid (X=true->4<=s.length):=ah (by
   intro h;rw[<- hX]at h;unfold isX at h;rw[aQ]at h
   exact of_decide_eq_true h.1)
  rw[hX]at d B;clear hX;go_wp2_with fail;refine B.out.mono ?_;rintro e w4⟨rfl,C⟩;have T:=ah (z.out.trans' C);have iM:=ah (U.out.ext C);clear B C z U;cases X
  .rw[pP' rfl]at d;have g:=T.out;have hi:=iM.out;go_wp2;go_ret2;exact⟨A,_,c,by rw[d.out];rfl,by rw[d.out];exact hi,g⟩
  rw[nN' (by simp)]at d;have h4:=eH.out rfl;have Y:∀W,(Instr.slice 9 (.string (sB s)) (some (.int .i64 4)) none none).run prog W=.ok (.string (sB (s.drop 4))) W:=λW=>yQ W (l:=s) (k:=4) h4
  have Z:(s.drop 4).length<=63:=by rw[List.length_drop];omega
  have a0:=ah (BH (s.drop 4) (wV p.out 4) (by omega) w4);have Gp:=ah (λW=>BH s p.out (by omega) W);have ap:=ah (BI (wV p.out 4));have a1:=ah (Gn (fM (s.drop 4)));have bi:(fM (s.drop 4)).length<=63:=by rw[zi];exact Z
  have a2:=ah (λW=>Pm (fM (s.drop 4)) ap.out W);have aq:=ah (BI p.out);clear eH Z;generalize s.drop 4=s4 at*;generalize fM s4=u at*;generalize fM s=sl at*;go_wp2_with fail;refine a0.out.mono ?_;rintro e w5⟨rfl,j⟩;have iK:=ah (T.out.trans' j);clear a0 j T iM Y;go_wp2_with fail;refine(a2.out w5).mono ?_;rintro e w6⟨A6,n6,c6,rfl,nY,a3⟩;have yg:=ah (iK.out.trans' a3);have az:=a1.out;generalize pdU u=P at*;obtain⟨q,pe⟩:=P;simp only at d nY az;have aD:=nY.len.1;subst aD;have kH:=ah nY;clear iK a3 nY a2 a1;by_cases F:pe=0
  case neg=>
   rw[pP' F]at d;have g:=yg.out;go_wp2;go_ret2;exact⟨none,0,0,by rw[d.out];rfl,by rw[d.out];exact au.nil_ _,g⟩
  rw[nN' (by rw[F];simp)]at d;subst F;have a4:=ah (λW(h:Ext w6 W)=>BK q A6 q.length c6 W (kH.out.ext h));have a5:=ah (Gg q A6 q.length c6 w6 kH.out (by omega));have a6:=ah (PL q);generalize iF q=av at*;generalize alE q=E at*;obtain⟨ae,ee⟩:=E;simp only at d a6;have a7:=uq a6.out aq.out;go_wp2_with fail;refine(a4.out w6 eR').mono ?_;rintro e w'⟨rfl,rfl⟩;cases av
  case true=>
   rw[pP' rfl]at d;have g:=yg.out;go_wp2;go_ret2;exact⟨none,0,0,by rw[d.out];rfl,by rw[d.out];exact au.nil_ _,g⟩
  rw[nN' (by simp)]at d;go_wp2_with fail;refine a5.out.mono ?_;rintro e w7⟨rfl,G⟩;have xM:=ah (yg.out.trans' G);have aL:=ah (kH.out.ext G);clear yg G kH a5 a4;by_cases H:ee=0
  case neg=>
   rw[pP' (.inl H)]at d;have bl:(ee != 0)=true:=bN' H;have g:=xM.out;go_wp2;go_ret2;exact⟨none,0,0,by rw[d.out];rfl,by rw[d.out];exact au.nil_ _,g⟩
  subst H;by_cases m:ae=sl
  .rw[nN' (by simp[m])]at d;rw[dt' m]at a7;go_wp2_with fail;refine(Gp.out _).mono ?_;rintro e w8⟨rfl,n⟩;have g:=xM.out.trans' n;have hi:=aL.out.ext n;go_wp2;go_ret2;exact⟨A6,_,c6,by rw[d.out];rfl,by rw[d.out];exact hi,g⟩
  .rw[pP' (.inr m)]at d;rw[df' m]at a7;go_wp2_with fail;refine(Gp.out _).mono ?_;rintro e w8⟨rfl,n⟩;have g:=xM.out.trans' n;go_wp2;go_ret2;exact⟨none,0,0,by rw[d.out];rfl,by rw[d.out];exact au.nil_ _,g⟩
open Go.ChangeShapes Go.WideShapes Go.ChangeAt Go.RowKit Go.Deep
theorem own:ownKnob prog.godebug=none:=by kernel_rfl
theorem F7:prog.globalNamed "namedesk/table.blocks" =some 0:=by kernel_rfl
theorem LY:(prog.globals[0]?).map (·.type)=some 33:=by kernel_rfl
theorem zY:prog.cellsOf 64=3:=by kernel_rfl
theorem xX:prog.cellsOf 3=1:=by kernel_rfl
theorem EI{H:Type}{enc:TypeId×Value->H}{w:World}{j:Nat}{a:Nat->Bool}{k:Bool}{n:Nat}{cs:List Value}{x y z:Int}{U:List MemPlace}
 (h:DataW.trod enc prog w j a k n 64 cs=some (.agg [.lit (.int .i64 x),.lit (.int .i64 y),.lit (.int .i64 z)],U)):cs=[.int .i64 x,.int .i64 y,.int .i64 z]:=by
 obtain⟨b,l,c,d,g,m⟩:∃b,prog.underlying 64=some (.struct b)/\b[0]?.map (λf=>(f.type,f.offset))=some (3,0)/\b[1]?.map (λf=>(f.type,f.offset))=some (3,1)/\b[2]?.map (λf=>(f.type,f.offset))=some (3,2)/\b.size=3:=⟨_,underlying64,rfl,rfl,rfl,rfl⟩;obtain⟨D,V,_,B,C,i,o⟩:=DataW.trod_struct l h;rw[zY]at C;rw[m]at i;obtain⟨p,E,c⟩:=Option.map_eq_some_iff.1 c;obtain⟨q,F,d⟩:=Option.map_eq_some_iff.1 d;obtain⟨r,G,g⟩:=Option.map_eq_some_iff.1 g;obtain⟨I,J⟩:=Prod.mk.inj c;obtain⟨K,L⟩:=Prod.mk.inj d;obtain⟨M,N⟩:=Prod.mk.inj g
 match cs,C with
 |[c0,c1,c2],_=>
  have s:=o 0 p E;have t:=o 1 q F;have A:=o 2 r G;rw[I,J,xX]at s;rw[K,L,xX]at t;rw[M,N,xX]at A;simp only[List.drop_zero,List.drop_succ_cons,List.take_succ_cons,List.take_zero]at s t A
  match D,i with
  |[y0,y1,y2],_=>
   obtain⟨W,O,p,_⟩:=DataW.trod_int (x:=y0) underlying3 s;obtain⟨X,P,q,_⟩:=DataW.trod_int (x:=y1) underlying3 t;obtain⟨Y,Q,r,_⟩:=DataW.trod_int (x:=y2) underlying3 A;subst p q r;simp only[List.map_cons,List.map_nil,Prod.mk.injEq,DataW.agg.injEq,List.cons.injEq,DataW.lit.injEq,Lit.int.injEq,true_and,and_true]at B;obtain⟨⟨R,S,T⟩,_⟩:=B;subst R S T;injection O with c;injection P with d;injection Q with g;rw[c,d,g]
theorem J8{W:World}(h:laidMet prog [("namedesk/table.blocks",Rows.laid_namedesk_table_blocks)] W):Glob W:=by
 obtain⟨ps,⟨g',t',N,O,p,q,E,F,r,T,_,_⟩,_⟩:=h;obtain rfl:=Option.some.inj (F7.symm.trans E);obtain rfl:=Option.some.inj (LY.symm.trans F);have d:=World.var?_cell F7 r 0;rcases open_slice underlying33 T with⟨s,g⟩|⟨a,len,j,m,n,D,Pl,s,hb,U,V,G,g,P⟩
 .injection g with g _;cases g
 .injection g with g _;unfold Rows.laid_namedesk_table_blocks at g;injection g with t X;have w:len=6:=by have:=congrArg List.length t;simpa using this.symm
  subst w;have Y:6<=m:=by rw[G];split<;>omega
  have Q:∀i x,qE[i]? =some x->D i=.agg [.lit (.int .i64 x.lo),.lit (.int .i64 x.hi),.lit (.int .i64 x.val)]:=by
   intro i x c;have:=congrArg (λl=>l[i]?) t
   match i,c with
   |0,c|1,c|2,c|3,c|4,c|5,c=>simp[qE]at c;subst c;simpa[List.range,List.range.loop]using this.symm
   |i+6,c=>simp[qE]at c
  have H:N[0]? =some (.slice (some a) 6 j):=by
   have:N.toList[0]? =some (.slice (some a) 6 j):=by rw[s];rfl
   simpa using this
  rw[H]at d;refine⟨some a,6,j,d,⟨rfl,U,V⟩,λi x c=>?_⟩;have nY:i<6:=(List.getElem?_eq_some_iff.1 c).1;obtain⟨Z,y,z⟩:=P i (by omega);rw[Q i x c]at z;have A:=EI z;rw[zY]at y;obtain⟨_,_,f⟩:=World.cells?_some y;rw[A]at f;have I:=f 0 (by omega);have J:=f 1 (by omega);have K:=f 2 (by omega);simp only[List.getElem?_cons_zero,List.getElem?_cons_succ]at I J K;obtain⟨b,o,R⟩:=a;have L:R=none:=by
   obtain⟨c3,S,B⟩:=P 0 (by omega);rw[Q 0 ⟨0,127,0⟩ rfl]at B;have QV:=EI B;rw[zY]at S;obtain⟨_,_,M⟩:=World.cells?_some S;have C:=M 0 (by omega);rw[QV]at C;simp only[Nat.zero_mul,Addr.add,if_true,List.getElem?_cons_zero]at C;unfold World.cell? at C;cases R with
   |none=>rfl
   |some k=>exfalso;split at C<;>simp at C
  subst L;simp only[Addr.add_mid,Nat.add_zero]at I J K;exact⟨b,o,rfl,I,J,K⟩
theorem D5{H:Type}{enc:TypeId×Value->H}{W:World}{q:Nat}{m:Nat->Bool}{s:Bool}{v:Value}{d:DataW H}{p:List MemPlace}{r:Reach}
 (M:Value.okWide prog W r q 22 v) (h:DataW.Trod enc prog W 0 m s 22 v d p):∃A n c l,v=.slice A n c/\au W ⟨A,n,c⟩ l:=by
 obtain⟨N,len,D,rfl⟩:=okWide_slice underlying22 M;obtain⟨w,E⟩:=h;rcases open_ints underlying22 underlying3 xX E with⟨f,F⟩|⟨a,y,z,B,f,_,O,G,I,F,g,J⟩
 .simp[Value.cells]at f;obtain⟨rfl,rfl,rfl⟩:=f;exact⟨none,0,0,[],rfl,au.nil_ _⟩
 .simp[Value.cells]at f;obtain⟨rfl,rfl,rfl⟩:=f;have K:len<=B.length:=by rw[I];split<;>omega
  refine⟨_,_,_,B.take len,rfl,⟨by simp;omega,by simp;omega,G⟩,λi x j=>?_⟩;have L:i<len:=by have:=(List.getElem?_eq_some_iff.1 j).1;simp at this;omega
  have C:=g i (by omega);obtain⟨b,t,o⟩:=a;have k:o=none:=by simpa[Addr.add]using World.cell?_spot (g 0 (by omega))
  subst k;refine⟨b,t,rfl,?_⟩;rw[Addr.add_mid]at C;rw[C];rw[List.getElem?_take_of_lt L]at j;simp[List.getD,j]
section
variable {H:Type}{enc:TypeId × Value→H}
theorem Ec{W g:World}(i:laidOutB prog=true)(j:Ext W g):∀{ts:List TypeId}{vs:List Value}{ds:List (DataW H)}{ps:List MemPlace},(∀t∈ts,prog.readableRec t=true/\t<prog.types.size)->
 DataW.TrodAll enc prog W 0 (λ_=>true) true ts vs ds ps->(∀x∈ps,x.block<W.heap.size)->∀sp:Nat->Bool,(∀x∈ps,sp x.block=true)->DataW.TrodAll enc prog g 0 sp true ts vs ds ps
 |[],[],[],_,_,h,_,_,_=>h
 |t::ts,v::vs,d::ds,ps,hT,⟨p,q,h1,h2,e⟩,hlt,sp,hs=>
  ⟨p,q,WideElems.Trod_stays i (hT t (by simp)).1 (hT t (by simp)).2 h1 (λx a=>j.b.same (hlt x (by rw[e];exact List.mem_append_left _ a))) (λx a=>hs x (by rw[e];exact List.mem_append_left _ a)),
   Ec i j (λk f=>hT k (by simp[f])) h2 (λx c=>hlt x (by rw[e];exact List.mem_append_right _ c)) sp (λx c=>hs x (by rw[e];exact List.mem_append_right _ c)),e⟩
theorem law_post{f:Func}{s:ChangeSpec}{apart d m:Bool}{W o:World}{args:Array Value}{k:List (DataW H)}{a:List MemPlace}
 (g:s.vars=[]) (Q:laidOutB prog=true) (R:∀t∈f.params.toList,prog.readableRec t=true/\t<prog.types.size) (D:DataW.Whole enc prog f.params.toList s.vars apart W args.toList k [] a)
 (G:Ext W o) (I:f.resultTypes= #[4]) (n:s.fn H (k++[])= {results:=[.lit (.bool true)],args:=k,vars:=[]}):
 s.post enc prog f apart true d m W args (.bool true) o:=by
 have E:Below W.heap.size W o:=G;have l:∀p∈a,p.block<W.heap.size:=λp h=>D.lt p h
 have r:=D;rw[g]at r;obtain⟨p,q,J,K,L,M,N⟩:=r;obtain⟨_,O⟩:=trodVars_none K;have A:a=p:=by rw[L,O,List.append_nil]
 have j:∀(b:Nat)(i:Nat->Bool)(F:Bool),DataW.TrodAll enc prog o b i F f.resultTypes.toList ((Value.bool true).resultList f.resultTypes.size) (s.fn H (k++[])).results []:=by
  intro b i F;rw[I,n];exact trodAll_cons_mk (shut_bool underlying4 _) trodAll_mk0
 have c:∀i:Nat->Bool,(∀p∈a,i p.block=true)->DataW.TrodAll enc prog o 0 i true f.params.toList args.toList (s.fn H (k++[])).args a:=by
  intro i B;rw[n];have C:DataW.TrodAll enc prog W 0 (λ_=>true) true f.params.toList args.toList k a:=by rw[A];exact J
  exact Ec Q G R C l i B
 have w:∀i:Nat->Bool,DataW.TrodVars enc prog o i s.vars (s.fn H (k++[])).vars []:=by
  intro i;rw[g,n];rfl
 have x:∀p∈a,(λb=>decide (b<W.heap.size)) p.block=true:=λp h=>by simpa using l p h
 refine⟨k,[],a,[],a,[],D,j _ _ _,c _ x,w _,World.keptBut_mono (λp h=>⟨h,by simpa using h⟩) (E.frame (· ∈a)),λ_=>?_⟩;refine⟨?_,_,_,([]++a)++[],⟨[]++a,[],trodAll_append (c _ (λ_ _=>rfl)) (j _ _ _),w _,rfl,?_,?_⟩,?_⟩
 .exact ok_one I rfl (okWide_bool_mk underlying4 _)
 .intro b y h;have z:MemPlace.cell b y∈a:=by simpa using h
  rw[E.frozen (l _ z)];exact M b y z
 .intro P;have:=N P;simpa using this
 .intro p h _;simpa using h
end
end Go.Proofs.YtpmgophlhmcogaaGreatDoor
