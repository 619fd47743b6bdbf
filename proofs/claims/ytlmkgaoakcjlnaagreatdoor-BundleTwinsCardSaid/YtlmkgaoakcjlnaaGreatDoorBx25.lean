/- Part Bx25. -/
import Derived.Test.YtlmkgaoakcjlnaaGreatDoorBx22
import Derived.Test.YtlmkgaoakcjlnaaGreatDoorCards
import Derived.Test.YtlmkgaoakcjlnaaGreatDoorTie
import Derived.LaidMore
open Go.Proofs.Tryz
namespace Go.Proofs.YtlmkgaoakcjlnaaGreatDoor
set_option maxHeartbeats 25600000
set_option maxRecDepth 100000
open Go.RowKit
def xk(K:List (List Int)):Nat->Bool
 |0=>false
 |k+1=>xk K k||(K.take k).any λy=>decide (y=K.getD k [])
theorem OJ{K:List (List Int)}:∀{k:Nat},k<=K.length->(xk K k=true↔∃(i j:Nat)(_:i<j)(_:j<k)(h:j<K.length),K[i]=K[j])
 |0,_=>by simp[xk]
 |k+1,hk=>by
  have a:k<K.length:=by omega
  have e:K.getD k []=K[k]:=by simp[List.getD_eq_getElem?_getD,a]
  rw[xk,oT',OJ (by omega),List.any_eq_true,e];constructor
  .rintro(⟨i,j,c,f,d,b⟩|⟨y,g,h⟩)
   .exact⟨i,j,c,by omega,d,b⟩
   .obtain⟨i,l,rfl⟩:=List.getElem_of_mem g;rw[List.length_take]at l;rw[List.getElem_take]at h;exact⟨i,k,by omega,by omega,a,of_decide_eq_true h⟩
  .rintro⟨i,j,c,f,d,b⟩;by_cases m:j=k
   .subst m;refine .inr ⟨K[i],?_,dt' b⟩;rw[List.mem_iff_getElem];exact⟨i,by rw[List.length_take];omega,by rw[List.getElem_take]⟩
   .exact .inl ⟨i,j,c,by omega,d,b⟩
theorem b1j{N:List Nm}(c:pO N=none):sdN ((bC N).map Prod.fst)=true:=by
 refine OH (lr' _) λj a h=>?_
 rw[List.length_map]at h;rw[List.getElem_map,List.getElem_map];have b:=OE (S:=bC N) (i:=1) (by omega) c j a h;obtain⟨k,rfl⟩:=gS' j;exact up_srt h b
theorem XM{S:List P3}:∀{g i:Nat}{p:P3},1<=i->qY S g i=some p->∃j,∃h:j+1<S.length,kyP S[j+1]=kyP S[j]
 |0,_,_,_,h=>by cases h
 |g+1,i,p,hi,h=>by
  rw[qY]at h;split at h
  .rename_i a;split at h
   .rename_i b;obtain⟨k,rfl⟩:=gS' i;exact⟨k,a,b⟩
   .exact XM (by omega) h
  .cases h
theorem b1k(N:List Nm):xk (N.map λx=>x.2.2) N.length=(pO N).isSome:=by
 have z:(N.map λx=>x.2.2).length=N.length:=by simp
 cases ht:pO N with
 |none=>
  show _=false
  rw[<- Bool.not_eq_true,OJ (by omega)];rintro⟨i,j,r,A,B,k⟩;rw[List.getElem_map,List.getElem_map]at k;have s:=b1j ht;obtain⟨a,m,d⟩:=IK (l:=N) (show i<N.length by omega);obtain⟨b,n,c⟩:=IK (l:=N) A;have o:a≠b:=λe=>by subst e;rw[d]at c;injection c with _ C;omega
  have g:∀(q:Nat)(t:q<(bC N).length),((bC N).map Prod.fst)[q]'(by simpa using t)=(bC N)[q].1:=λq t=>by rw[List.getElem_map]
  rcases Nat.lt_or_gt_of_ne o with h|h
  .have f:=FK s h (by simpa using n);rw[g a m,g b n,d,c]at f;exact BN f k
  .have f:=FK s h (by simpa using m);rw[g a m,g b n,d,c]at f;exact BN f k.symm
 |some p=>
  rw[Option.isSome_some,OJ (by omega)];obtain⟨j,w,y⟩:=XM (lr' _) ht;have r:=Xo w y;obtain⟨a,d⟩:=BM (show j<(bC N).length by omega);obtain⟨b,c⟩:=BM w;refine⟨_,_,r,b,by rw[z];exact b,?_⟩;rw[List.getElem_map,List.getElem_map,d,c];exact y.symm
theorem b1l(l m:List Int)(A:Option Addr)(n c:Nat)(A2:Option Addr)(n2 c2:Nat)(w:World)(h:aF w ⟨A,n,c⟩ l)(h2:aF w ⟨A2,n2,c2⟩ m)(hg:Glob w):
 cE' 7 #[.slice A n c,.slice A2 n2 c2] w (.bool true):=by
 have O:=ah hg;have HM:=ah h2;have HL:=ah h;clear hg h h2;go_enter func7,ntmps7;go_wp2_with fail;refine Calls.mono (OL l A n c _ HL.out O.out) ?_;rintro e w1⟨t,rfl,ht,a3⟩;have P:=dw w1 t;have HT:=ah (ht.aC P);have G:=ah (a3.trans' P);have gQ:Hid (∀w',Ext (w1.alloc (.cells #[.slice t.s0.a t.s0.n t.s0.c,.slice t.s1.a t.s1.n t.s1.c,.slice t.s2.a t.s2.n t.s2.c,.slice t.s3.a t.s3.n t.s3.c,.slice t.s4.a t.s4.n t.s4.c,.slice t.s5.a t.s5.n t.s5.c,.slice t.s6.a t.s6.n t.s6.c,.slice t.s7.a t.s7.n t.s7.c,.slice t.s8.a t.s8.n t.s8.c,.slice t.s9.a t.s9.n t.s9.c,.slice t.s10.a t.s10.n t.s10.c,.slice t.s11.a t.s11.n t.s11.c] 26)) w'->∀k:Nat,w'.cell? ⟨w1.heap.size,k,none⟩=t.v.cells[k]?):=ah (λw' h=>aQ h);clear ht a3 P;go_wp2_with fail;generalize hW:(w1.alloc (.cells #[.slice t.s0.a t.s0.n t.s0.c,.slice t.s1.a t.s1.n t.s1.c,.slice t.s2.a t.s2.n t.s2.c,.slice t.s3.a t.s3.n t.s3.c,.slice t.s4.a t.s4.n t.s4.c,.slice t.s5.a t.s5.n t.s5.c,.slice t.s6.a t.s6.n t.s6.c,.slice t.s7.a t.s7.n t.s7.c,.slice t.s8.a t.s8.n t.s8.c,.slice t.s9.a t.s9.n t.s9.c,.slice t.s10.a t.s10.n t.s10.c,.slice t.s11.a t.s11.n t.s11.c] 26))=W1 at*;clear hW;refine(IZ m A2 n2 c2 W1 (HM.out.ext G.out)).mono ?_;rintro e w2⟨Ar,nr,cr,rfl,ho,z⟩;have Q:=ah (oQ.sts ho);have d:=ah z;have U:=ah (λx F=>((J3 m).1 x F).1);have aq:=ah (J3 m).2;have CC:Hid (∀x,IsB x->∀w',Ext W1 w'->Calls prog 15 #[t.v,.string (sB x)] w' (Oq w' (oD (jX l) x))):=ah (λx F w' h=>Xw _ t x w' (HT.out.aC h) F);generalize pq m=R at*;have ar:nr=R.length:=Q.out.1.1;subst ar;have CP:Hid (∀w',Ext w2 w'->Calls prog 17 #[t.v,.slice Ar R.length cr] w' (zx w' (mkE (jX l) R) (mkS (jX l) R))):=ah (λw' h=>Fz _ t _ _ _ _ w' (HT.out.aC (d.out.trans' h)) (Q.out.ext h) U.out);clear ho z;generalize jX l=T at*;obtain⟨K,hK⟩:=eX' ((fC T R).map λx=>x.2.2);have av:Hid (K.length=R.length):=ah (by rw[hK,List.length_map,fC,List.length_map]);have aw:Hid (∀k(h:k<R.length),K.getD k []=(oD T R[k]).1.2.2):=ah (λk h=>by rw[hK,fC];simp[List.getD_eq_getElem?_getD,h])
 have a4:Hid (∀y∈K,IsB y):=ah (λy hy=>by
  rw[hK,fC,List.map_map,List.mem_map]at hy;obtain⟨s,hs,rfl⟩:=hy
  exact(Fv (U.out s hs)).2.2)
 have a5:Hid (xk K R.length=(pO (fC T R)).isSome):=ah (by rw[hK,<- b1k,fC,List.length_map])
 have a6:Hid (mkE T R=if R.length=0 then(10,-1,[])else if 16<R.length then(7,-1,[])else match qF T 0 R with
  |some q=>(q.2,q.1,[])
  |none=>match pO (fC T R)with
   |some p=>(22,p.2,p.1.1)
   |none=>(0,-1,[])):=rfl
 generalize mkE T R=D at*;generalize mkS T R=S at*;generalize pO (fC T R)=TW at*;clear hK;go_wp2;go_loopg[7,8,24] R.length (λgh s7 s8 az wx=>∃(k:Nat)(A:Option Addr)(c:Nat),k+gh=R.length/\az=.int .i64 k/\s7=.slice A k c/\s8=.bool (xk K k)/\Hid (oQ wx w2.heap.size A k c (K.take k))/\Hid (qF T k (R.drop k)=qF T 0 R)/\Hid (Ext w2 wx));exact⟨0,none,0,by omega,rfl,rfl,rfl,ah (Own.nil_ _ _ _ _),ah rfl,ah eR'⟩;obtain⟨k,A5,c5,bX,rfl,rfl,rfl,HO,H,W⟩:=hrel;have bZ:=aq.out;by_cases X:k<R.length
 .obtain⟨g2,rfl⟩:=gS' gk;have rT:=gQ.out _ (d.out.trans' W.out);obtain⟨b,o,rfl,aL⟩:=(Q.out.ext W.out).at_ X;have HC:=ah (CC.out R[k] (U.out _ (gM' X)) wr (d.out.trans' W.out));have Y:=ah (Ov (T:=T) X);have B:=ah (aw.out k X);generalize R[k]=x at*;generalize oD T x=E at*;obtain⟨f,ev⟩:=E;simp only[]at Y B;have c1:=z0' k;have c3:(k:Int)<(R.length:Int):=by omega
  go_wp2_with fail;refine HC.out.mono ?_;rintro e g⟨rfl,Z⟩;have a7:=ah (W.out.trans' Z);have dJ:=ah (Own.ext HO.out Z);obtain⟨W5,j⟩:=eX' (g.alloc (.cells #[.string (sB f.1),.string (sB f.2.1),.string (sB f.2.2)] 32));have a0:Ext g W5:=by rw[j];exact eR'.aB _
  have aZ:=ah (a7.out.trans' a0);have bK:=ah (Own.ext dJ.out a0);have a9:Hid (∀w',Ext W5 w'->w'.cell? ⟨g.heap.size,2,none⟩=some (.string (sB f.2.2))):=ah (λw' h=>bg (bD h) (by rw[j];exact World.cell?_alloc_new g _ _ 2));clear Z rT aL HC HO a0;by_cases h1:ev=0
  case neg=>
   have f1:(ev != 0)=true:=bN' h1;clear h1;go_wp2_with(refine wpList_store_row rfl _ _ _ rfl g.heap.size _ rfl rfl 32 ny (heap_alloc_new g _) (by kernel_rfl) rfl (pU _ _ _) ?_;rw[World.setRow_alloc_new,<- j];clear j);refine(J4 _ (O.out.ext (G.out.trans' (d.out.trans' aZ.out)))).mono ?_;rintro e w6⟨rfl,z⟩;have F:=G.out.trans' (d.out.trans' (aZ.out.trans' z));clear z;go_wp2;go_ret;exact⟨rfl,F⟩
  have f1:(ev != 0)=false:=bZ' h1;have aY:=ah ((Y.out.trans (nN' (by rw[h1];simp))).symm.trans H.out);have I:k<K.length:=by rw[av.out];exact X
  have b2:Hid (K.take (k+1)=K.take k++[f.2.2]):=ah (by
   rw[tS' I,<- B.out]
   simp[List.getD_eq_getElem?_getD,I])
  have b3:Hid (IsB f.2.2):=ah (by
   rw[<- B.out];have e:K.getD k []=K[k]:=by simp[List.getD_eq_getElem?_getD,I]
   rw[e];exact a4.out _ (gM' I))
  have ab:Hid (xk K (k+1)=(xk K k||(K.take k).any λy=>decide (y=f.2.2))):=ah (by rw[xk,B.out]);have ac:Hid ((K.take k).length=k):=ah (by rw[List.length_take];omega);have b4:Hid (∀y∈K.take k,IsB y):=ah (λy hy=>a4.out y (List.mem_of_mem_take hy));have kL:=ah (oQ.sts bK.out);generalize xk K k=tw at*;generalize b5:K.take k=KT at*;clear h1 Y H a7 dJ B b5;go_wp2_with(refine wpList_store_row rfl _ _ _ rfl g.heap.size _ rfl rfl 32 ny (heap_alloc_new g _) (by kernel_rfl) rfl (pU _ _ _) ?_;rw[World.setRow_alloc_new,<- j];clear j);go_loopg[8,39] k (λgh s8 b6 wx=>∃i:Nat,i+gh=k/\b6=.int .i64 i/\s8=.bool (tw||(KT.take i).any λy=>decide (y=f.2.2))/\Hid (Ext W5 wx));exact⟨0,by omega,rfl,by simp,ah eR'⟩;obtain⟨i,c4,rfl,rfl,r⟩:=hrel;by_cases hi:i<k
  .obtain⟨g3,rfl⟩:=gS' gk;have a1:i<KT.length:=(by rw[ac.out];exact hi);obtain⟨b',o',rfl,c6⟩:=(kL.out.ext r.out).at_ a1;have c9:=rV (b4.out _ (gM' a1)) b3.out
   have HN:Hid ((tw||(KT.take (i+1)).any λy=>decide (y=f.2.2))=((tw||(KT.take i).any λy=>decide (y=f.2.2))||decide (KT[i]=f.2.2))):=ah (by
    rw[tS' a1,List.any_append,Bool.or_assoc];simp)
   have hc:=a9.out _ r.out;generalize KT[i]=y at*;have ca:=z0' i;have cb:(i:Int)<(k:Int):=(by omega);generalize(tw||(KT.take i).any λy=>decide (y=f.2.2))=L at*;generalize decide (y=f.2.2)=b1 at*;cases L<;>cases b1
   all_goals
    go_wp2;go_roundg g3;exact⟨i+1,by omega,by go_num,by rw[HN.out];rfl,r⟩;omega
  .have b8:i=k:=by omega
   subst b8;have b9:Hid (KT.take i=KT):=ah (tL' (by rw[ac.out];omega));rw[b9.out,<- ab.out];have ad:=ah (Own.ext bK.out r.out);have iC:=ah (aZ.out.trans' r.out);have hc:=a9.out _ r.out;have ae:Ext wr (wr.alloc (.cells #[.string (sB f.2.2)] 9)):=eR'.aB _;obtain⟨A8,c8,w8,M,pW,tJ⟩:=IC ad.out f.2.2 (by omega) iC.out.b.size;rw[<- b2.out]at pW;have bb:=ah pW;have bc:Hid (Ext w2 w8):=ah (dW (iC.out.trans' ae) tJ (λk X=>(Own.lt ad.out k X).1));clear pW tJ ae ab;go_wp2_with(at_builtin;refine dG rfl _ _ _ rfl _ _ rfl rfl _ _ M ?_;clear M);go_roundg g2;exact⟨i+1,A8,c8,by omega,by go_num,rfl,rfl,bb,aY,bc⟩;omega
 .have bd:k=R.length:=by omega
  subst bd;have be:Hid (qF T 0 R=none):=ah (by rw[<- H.out,List.drop_of_length_le (lr' _)];rfl);have rT:=gQ.out _ (d.out.trans' W.out);rw[a5.out];have bh:∃(L C:Bool)(v:Int),(R.length==0)=L/\((R.length:Int)==0)=L/\decide (16<R.length)=C/\decide (16<(R.length:Int))=C/\Hid (D.1=v)/\((L=true/\v=10)\/(L=false/\C=true/\v=7)\/(L=false/\C=false/\(TW.isSome=true/\v=22\/TW.isSome=false/\v=0))):=by
   have N:=a6.out;by_cases h0:R.length=0
   .rw[pP' h0]at N;exact⟨true,false,10,by rw[bq'];exact h0,by rw[bq'];omega,df' (by omega),df' (by omega),ah (by rw[N]),.inl ⟨rfl,rfl⟩⟩
   .rw[nN' h0]at N;have e1:(R.length==0)=false:=(by rw[aO];exact h0);have e2:((R.length:Int)==0)=false:=bF';by_cases J:16<R.length
    .rw[pP' J]at N;exact⟨false,true,7,e1,e2,dt' J,dt' (by omega),ah (by rw[N]),.inr (.inl ⟨rfl,rfl,rfl⟩)⟩
    .rw[nN' J,be.out]at N;have q1:decide (16<R.length)=false:=df' J;have q2:decide (16<(R.length:Int))=false:=dF';cases hT:TW with
     |some p=>exact⟨false,false,22,e1,e2,q1,q2,ah (by rw[N,hT]),.inr (.inr ⟨rfl,rfl,.inl ⟨rfl,rfl⟩⟩)⟩
     |none=>exact⟨false,false,0,e1,e2,q1,q2,ah (by rw[N,hT]),.inr (.inr ⟨rfl,rfl,.inr ⟨rfl,rfl⟩⟩)⟩
  generalize TW.isSome=bt at*;clear a6 a5 H;go_wp2_with fail;refine(CP.out _ W.out).mono ?_;rintro e g⟨A7,n7,c7,B7,m7,d7,rfl,_,z⟩;obtain⟨W4,hW⟩:=eX' (g.alloc (.cells #[.int .i64 D.1,.int .i64 D.2.1,.string (sB D.2.2),.int .i64 0,.int .i64 0,.string ⟨#[]⟩,.int .i64 0,.int .i64 0] 42));have F:Ext g W4:=by rw[hW];exact eR'.aB _
  have kS:=ah (G.out.trans' (d.out.trans' (W.out.trans' (z.trans' F))));have HC:Hid (∀w',Ext W4 w'->w'.cell? ⟨g.heap.size,0,none⟩=some (.int .i64 D.1)):=ah (λw' h=>FD _ _ (by rw[hW]at h;exact h) 0);obtain⟨L,C,v,e1,e2,q1,q2,HV,hc⟩:=bh;clear z F rT;rcases hc with⟨rfl,rfl⟩|⟨rfl,rfl,rfl⟩|⟨rfl,rfl,⟨rfl,rfl⟩|⟨rfl,rfl⟩⟩
  all_goals
   go_wp2_with(refine wpList_store_row rfl _ _ _ rfl g.heap.size _ rfl rfl 42 gW (heap_alloc_new g _) (by kernel_rfl) rfl (qZ _ _ _ _ _ _ _ _) ?_;rw[World.setRow_alloc_new,<- hW];clear hW);refine(J4 _ (O.out.ext kS.out)).mono ?_;rintro e w5⟨rfl,z⟩;have bk:=HC.out _ z;rw[HV.out]at bk;have F:=kS.out.trans' z;clear z;go_wp2;go_ret;exact⟨rfl,F⟩
end Go.Proofs.YtlmkgaoakcjlnaaGreatDoor
namespace Go.Proofs.YtlmkgaoakcjlnaaGreatDoor.lawBTwins
set_option maxRecDepth 100000
open Go.ChangeShapes Go.WideShapes Go.ChangeAt Go.RowKit
theorem contract(H:Type)(enc:TypeId×Value->H)(W:World)(c:Nat)(args:Array Value)(o O:List (DataW H))(b:List MemPlace)
 (a:∀(j:Nat)t v,Tryz.f7.params[j]? =some t->args[j]? =some v->Value.okWide prog W .any c t v)
 (r:DataW.Whole enc prog Tryz.f7.params.toList Rows.bundleTwinsSpec.vars false W args.toList o O b) (P:laidMetH prog Rows.bundleTwinsRow.laid W):
 Calls prog 7 args W λe W'=>∃v,e=.returned v/\Rows.bundleTwinsSpec.post enc prog Tryz.f7 false true false false W args v W':=by
 have d:=r;obtain⟨p,q,f,s,k,w,x⟩:=r;have l:DataW.TrodAll enc prog W 0 (λ_=>true) true Tryz.f7.params.toList args.toList o p:=f;rw[params7]at l a;obtain⟨m,Q,R,y,S,T,g,rfl,rfl,z,A⟩:=trodAll_cons l;obtain⟨n,B,U,C,V,X,rfl,rfl,rfl,D,E⟩:=trodAll_cons A;obtain⟨rfl,rfl,rfl⟩:=trodAll_nil E;obtain rfl:args= #[m,n]:=by cases args;simp_all
 obtain⟨rfl,rfl⟩:=trodVars_none s;obtain⟨F,G,I,J,rfl,h⟩:=DF (a 0 22 m rfl rfl) z;obtain⟨K,L,M,N,rfl,i⟩:=DF (a 1 22 n rfl rfl) D;refine(b1l J N F G I K L M W h i (OO P)).mono λe W'⟨k,hx⟩=>?_
 subst k;exact⟨_,rfl,law_post rfl (by kernel_rfl) (by rw[params7];intro t ht;simp only[List.mem_cons,List.not_mem_nil,or_false]at ht;rcases ht with rfl|rfl<;>exact⟨by kernel_rfl,of_decide_eq_true (by kernel_rfl)⟩) d hx rfl rfl⟩
theorem door_met(os:Os)(args:Array Value):laidMetH prog Rows.bundleTwinsRow.laid ((World.doorLaid prog 400 os).forCall (λ_ _=>0) ⟨#[],args,[]⟩).memory:=
 laidMetH_of_parts3 (fuel:=8) (laidMet_of_run' 8 (by kernel_rfl) (by kernel_rfl)) (by kernel_rfl) (by kernel_rfl)
theorem lifted(os:Os)(a:os.Started)(H:Type)(enc:TypeId×Value->H):
 ReturnsInHanded {} Tryz.checked os 7 .any (λw args=>(Rows.bundleTwinsSpec.pre enc prog Tryz.f7 [] false w args/\laidMetH prog Rows.bundleTwinsRow.laid w)/\sizedMet enc prog Tryz.f7 (OpenSpec.ofChange Rows.bundleTwinsSpec) false w args)
  (Rows.bundleTwinsSpec.post enc prog Tryz.f7 false true false false):=by
 refine returnsInHanded_of_change_and (C:=Tryz.checked) (X:=λw _=>laidMetH prog Rows.bundleTwinsRow.laid w) (λ_ _ _ f h=>h.of_heap f) own a (by kernel_rfl) func7
  (ChangeSpec.witness_shaped (enc:=enc) (C:=Tryz.checked) (os:=os) (X:=λw _=>laidMetH prog Rows.bundleTwinsRow.laid w) false (World.doorLaid prog 400 os) #[.slice none 0 0,.slice none 0 0] 8 rfl (World.shaped_of_RefB (by kernel_rfl) (by kernel_rfl)) (by kernel_rfl) (by kernel_rfl) (by kernel_rfl) (door_met os _)) ?_
 intro W c args g i b d j _ _ k _;exact contract H enc W c args g i b d j k
theorem FH:joinedFacts Tryz.pinned.checked.prog 7 Tryz.f7 Rows.bundleTwinsSpec Rows.bundleTwinsRow=true:=by kernel_rfl
theorem FI:Tryz.pinned.checked.prog.funcNamed Rows.bundleTwinsRow.func=some 7:=by kernel_rfl
theorem said:Rows.BundleTwinsSaid:=
 OpenClaim.holds_of_wide 7 Tryz.f7 rfl rfl rfl rfl rfl rfl rfl ⟨rfl,rfl,rfl,rfl,rfl⟩ rfl rfl rfl rfl rfl FI func7 FH
  (of_decide_eq_true (by kernel_rfl)) (by unfold Func.isWrapper;first|(rw[pP' (by decide+kernel)];kernel_rfl)|(rw[nN' (by decide+kernel)];exact⟨rfl,rfl⟩))
  (λc a H b _=>lifted c a H b)
theorem plain(f:FuncId)(a:Func)(c:Tryz.pinned.checked.prog.funcNamed "namedesk/namedesklaw22.BundleTwins" =some f)(b:Tryz.pinned.checked.prog.funcs[f]? =some a):
 false=Tryz.pinned.checked.prog.looks []/\∀(j:Nat)t,a.params[j]? =some t->Tryz.pinned.checked.prog.wantsStandIn t=false:=by
 obtain rfl:f=7:=Option.some.inj ((show prog.funcNamed "namedesk/namedesklaw22.BundleTwins" =some 7 by kernel_rfl).symm.trans c) |>.symm;obtain rfl:a=Tryz.f7:=(Option.some.inj (func7.symm.trans b)).symm;refine⟨by kernel_rfl,λj t ht=>?_⟩;rw[params7]at ht;have ht:=Array.mem_of_getElem? ht;simp only[List.mem_toArray,List.mem_cons,List.not_mem_nil,or_false]at ht;rcases ht with rfl|rfl
 .exact(show prog.wantsStandIn 22=false by kernel_rfl)
 .exact(show prog.wantsStandIn 22=false by kernel_rfl)
theorem card:Rows.BundleTwinsCardSaid:=
 Claim7.holds_tied_plain_at .later [] _ _ _ _ said (λ_ h=>by cases h) (by kernel_rfl) (λ_ h=>by cases h) bundleTwins_row_tie rfl ⟨rfl,rfl⟩ (by kernel_rfl) rfl plain (by kernel_rfl)
#print axioms card
end Go.Proofs.YtlmkgaoakcjlnaaGreatDoor.lawBTwins
