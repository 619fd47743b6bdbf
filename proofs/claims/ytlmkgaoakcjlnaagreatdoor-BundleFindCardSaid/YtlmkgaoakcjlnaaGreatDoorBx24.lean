/- Part Bx24. -/
import Derived.Test.YtlmkgaoakcjlnaaGreatDoorBx21
import Derived.Test.YtlmkgaoakcjlnaaGreatDoorBx22
import Derived.Test.YtlmkgaoakcjlnaaGreatDoorCards
import Derived.Test.YtlmkgaoakcjlnaaGreatDoorTie
import Derived.LaidMore
open Go.Proofs.Tryz
namespace Go.Proofs.YtlmkgaoakcjlnaaGreatDoor
set_option maxHeartbeats 25600000
set_option maxRecDepth 100000
open Go.RowKit
theorem b1a(l m x:List Int)(L:List Nm)(A:Option Addr)(n c:Nat)(A2:Option Addr)(n2 c2:Nat)(z:Option Addr)(B C:Nat)(w:World)(h:aF w ⟨A,n,c⟩ l)(Z:aF w ⟨A2,n2,c2⟩ m)(h3:NmS w ⟨z,B,C⟩ L)(hB:∀y∈L,NmB y)(hs:IsB x)(hg:Glob w):
 cE' 8 #[.slice A n c,.slice A2 n2 c2,.slice z B C,.string (sB x)] w (.bool true):=by
 have G:=ah hg;have HM:=ah Z;have HL:=ah h;have HX:=ah hs;have P6:Hid (∀w',Ext w w'->cE' 25 #[.slice z B C,.string (sB x)] w' (.tuple #[.int .i64 (pV L x).1,.bool (pV L x).2])):=ah (λw' e=>OG L x z B C w' (h3.ext e) hB hs);have FR:Hid (∀w',Ext w w'->cE' 26 #[.slice z B C,.string (sB x)] w' (.tuple #[.int .i64 (pV L x).1,.bool (pV L x).2])):=ah (λw' e=>OI L x z B C w' (h3.ext e) hB hs);have CJ:=ah (λw'(e:Ext w w')=>J8 L z B C w' (h3.ext e) hB);generalize pV L x=F at*;generalize sdN L=sd at*;clear hg h Z h3 hs hB;go_enter func8,ntmps8;go_wp2_with fail;refine Calls.mono (OL l A n c _ HL.out G.out) ?_;rintro e w1⟨t,rfl,ht,H⟩;have HT:=ah ht;have I:=ah H;clear ht H;go_wp2_with fail;refine(IZ m A2 n2 c2 w1 (HM.out.ext I.out)).mono ?_;rintro e w2⟨Ar,nr,cr,rfl,ho,a⟩;have J:=ah (oQ.sts ho);have K:=ah (HT.out.aC a);have a5:=ah (I.out.trans' a);have o:=ah (λx p=>((J3 m).1 x p).1);have M:=ah (b1b (jX l) (pq m));have b:=ah (b1d (T:=jX l) o.out);have a6:Hid (((mkS (jX l) (pq m)).map Prod.fst).length<=16):=ah (by rw[List.length_map];exact OA _ _);have r:=ah (Ox (jX l) t (pq m) _ _ _ w2 K.out J.out o.out);unfold zx at r;generalize mkE (jX l) (pq m)=D at*;generalize mkS (jX l) (pq m)=S0 at*;generalize a7:S0.map Prod.fst=S at*;clear ho a;go_wp2_with fail;refine r.out.mono ?_;rintro e w3⟨A5,n5,c5,B5,m5,d5,rfl,⟨q,hq,hn,hi⟩,a⟩;have JY:n5=S.length:=(kE.nms hn).1.1;subst JY;obtain⟨W4,hW⟩:=eX' (w3.alloc (.cells #[.int .i64 D.1,.int .i64 D.2.1,.string (sB D.2.2),.int .i64 0,.int .i64 0,.string ⟨#[]⟩,.int .i64 0,.int .i64 0] 42));have p:Ext w3 W4:=by rw[hW];exact eR'.aB _
 have d:=ah (a5.out.trans' (a.trans' p));have f:=ah ((kE.nms hn).ext p);clear hn hi a p hq r HT K J o a7;go_wp2_with(refine wpList_store_row rfl _ _ _ rfl w3.heap.size _ rfl rfl 42 gW (heap_alloc_new w3 _) (by kernel_rfl) rfl (qZ _ _ _ _ _ _ _ _) ?_;rw[World.setRow_alloc_new,<- hW];clear hW);go_loopg[37] S.length (λgh aa wx=>∃k:Nat,k+gh=S.length/\aa=.int .i64 k/\Hid (Ext W4 wx));exact⟨0,by omega,rfl,ah eR'⟩;obtain⟨k,hk,rfl,HE⟩:=hrel;have b1:=a6.out;by_cases s:k<S.length
 .obtain⟨g2,rfl⟩:=gS' gk;have gY:=ah (f.out.ext HE.out);obtain⟨g0,o0,rfl,h0,h1,Z⟩:=NmS.at_ gY.out s;have N:=ah (b1X M.out s);have O:=ah (b.out _ (gM' s)).2.2;have b6:=z0' k;have b7:(k:Int)<(S.length:Int):=by omega
  generalize S[k]=y at*;obtain⟨E,g⟩:=eX' (wr.alloc (.cells #[.string (sB y.1),.string (sB y.2.1),.string (sB y.2.2)] 32));have dU:Hid (Ext wr E):=ah (by rw[g];exact eR'.aB _);have HC:Hid (∀w',Ext E w'->w'.cell? ⟨wr.heap.size,2,none⟩=some (.string (sB y.2.2))):=ah (λw' h=>bg (bD h) (by rw[g];exact World.cell?_alloc_new wr _ _ 2));have c5:=HC.out E eR';go_wp2_with fail;rw[<- g];clear g h0 h1 Z c5;refine(OG S y.2.2 _ _ _ E (gY.out.ext dU.out) b.out O.out).mono ?_;rintro e w6⟨rfl,i⟩;have eY:=ah (dU.out.trans' i);have c6:=HC.out w6 i;have b9:=ah i;clear i;rw[N.out];go_wp2_with fail;refine(OI S y.2.2 _ _ _ w6 (gY.out.ext eY.out) b.out O.out).mono ?_;rintro e w7⟨rfl,P⟩;have ac:=ah (HE.out.trans' (eY.out.trans' P));rw[N.out];clear P c6;go_wp2;go_roundg g2;exact⟨k+1,by omega,by go_num,ac⟩;omega
 .go_wp2_with fail;refine(P6.out _ (d.out.trans' HE.out)).mono ?_;rintro e v1⟨rfl,a⟩;have Q:=ah (HE.out.trans' a);clear a;go_wp2_with fail;refine(FR.out _ (d.out.trans' Q.out)).mono ?_;rintro e v2⟨rfl,a⟩;have l7:=ah (Q.out.trans' a);clear a;go_wp2_with fail;refine(OG S x _ _ _ v2 (f.out.ext l7.out) b.out HX.out).mono ?_;rintro e v3⟨rfl,a⟩;have R:=ah (l7.out.trans' a);clear a;go_wp2_with fail;refine(OI S x _ _ _ v3 (f.out.ext R.out) b.out HX.out).mono ?_;rintro e v4⟨rfl,a⟩;have U:=ah (R.out.trans' a);clear a;generalize pV S x=F2;go_wp2_with fail;refine(J4 _ (G.out.ext (d.out.trans' U.out))).mono ?_;rintro e v5⟨rfl,a⟩;have W:=ah (U.out.trans' a);clear a;go_wp2_with fail;refine((CJ.out _ (d.out.trans' W.out)).1).mono ?_;rintro e v6⟨rfl,a⟩;have X:=ah (W.out.trans' a);clear a;go_wp2_with fail;refine((CJ.out _ (d.out.trans' X.out)).2).mono ?_;rintro e v7⟨rfl,a⟩;have Y:=ah (X.out.trans' a);clear a;go_wp2_with fail;refine((J8 S _ _ _ v7 (f.out.ext Y.out) b.out).1).mono ?_;rintro e v8⟨rfl,a⟩;have p:=d.out.trans' (Y.out.trans' a);rw[M.out];clear a;go_wp2;go_ret;exact⟨rfl,p⟩
open Go.ChangeShapes Go.WideShapes Go.ChangeAt Go.RowKit Go.Deep
theorem aSk{H:Type}{enc:TypeId×Value->H}{W:World}{c:Nat}{a:Nat->Bool}{f:Bool}{v:Value}{d:DataW H}{p:List MemPlace}{r:Reach}
 (g:Value.okWide prog W r c 9 v) (_:DataW.Trod enc prog W 0 a f 9 v d p):∃s:List Int,v=.string (sB s)/\IsB s:=by
 obtain⟨b,rfl⟩:=okWide_string underlying9 g;exact⟨nums b,by rw[Es],Ej b⟩
theorem XK:prog.cellsOf 32=3:=by kernel_rfl
section
variable {H:Type}{enc:TypeId × Value→H}{W:World}{base:Nat}{spare:Nat→Bool}{held:Bool}
theorem b1J{n:Nat}{s:List Value}{x:DataW H×List MemPlace}(h:DataW.trod enc prog W base spare held n 32 s=some x):∃a b c:ByteArray,s=[.string a,.string b,.string c]:=by
 obtain⟨d,i,j,k,l,m⟩:∃d,prog.underlying 32=some (.struct d)/\d[0]?.map (λf=>(f.type,f.offset))=some (9,0)/\d[1]?.map (λf=>(f.type,f.offset))=some (9,1)/\d[2]?.map (λf=>(f.type,f.offset))=some (9,2)/\d.size=3:=⟨_,underlying32,rfl,rfl,rfl,rfl⟩;obtain⟨w,U,_,V,t,g,o⟩:=DataW.trod_struct i h;rw[XK]at t;rw[m]at g;obtain⟨y,z,j⟩:=Option.map_eq_some_iff.1 j;obtain⟨A,B,k⟩:=Option.map_eq_some_iff.1 k;obtain⟨C,D,l⟩:=Option.map_eq_some_iff.1 l;obtain⟨E,F⟩:=Prod.mk.inj j;obtain⟨G,I⟩:=Prod.mk.inj k;obtain⟨J,K⟩:=Prod.mk.inj l
 match s,t with
 |[c0,c1,c2],_=>
  have p:=o 0 y z;have q:=o 1 A B;have r:=o 2 C D;rw[E,F,J6]at p;rw[G,I,J6]at q;rw[J,K,J6]at r;simp only[List.drop_zero,List.drop_succ_cons,List.take_succ_cons,List.take_zero]at p q r
  match w,g with
  |[y0,y1,y2],_=>
   obtain⟨L,M,_⟩:=DataW.trod_string (x:=y0) underlying9 p;obtain⟨N,O,_⟩:=DataW.trod_string (x:=y1) underlying9 q;obtain⟨P,Q,_⟩:=DataW.trod_string (x:=y2) underlying9 r;injection M with R;injection O with S;injection Q with T;exact⟨L,N,P,by rw[R,S,T]⟩
theorem b1G{fuel:Nat}{N:List Value}{x:DataW H×List MemPlace}(h:DataW.trod enc prog W base spare held fuel 38 N=some x):∃A n c l,N=[.slice A n c]/\NmS W ⟨A,n,c⟩ l/\∀s∈l,NmB s:=by
 rcases open_slice underlying38 h with⟨d,O⟩|⟨a,len,P,m,n,D,V,d,X,Q,M,E,O,R⟩
 .exact⟨none,0,0,[],d,⟨⟨rfl,lr' _,zl' _⟩,λi x h=>by simp at h⟩,λs g=>by simp at g⟩
 .have S:len<=m:=by rw[E];split<;>omega
  obtain⟨b,o,C⟩:=a;by_cases F:len=0
  .subst F;exact⟨_,_,_,[],d,⟨⟨rfl,by simp,M⟩,λi x h=>by simp at h⟩,λs g=>by simp at g⟩
  have j:∀i,i<len->∃s t u:ByteArray,W.cell? (((⟨b,o,C⟩:Addr).add (i*3)).add 0)=some (.string s)/\W.cell? (((⟨b,o,C⟩:Addr).add (i*3)).add 1)=some (.string t)/\W.cell? (((⟨b,o,C⟩:Addr).add (i*3)).add 2)=some (.string u):=by
   intro i k;obtain⟨T,p,G⟩:=R i (by omega);obtain⟨s,t,u,U⟩:=b1J G;rw[XK]at p;obtain⟨_,_,f⟩:=World.cells?_some p;rw[U]at f;have q:=f 0 (by omega);have r:=f 1 (by omega);have w:=f 2 (by omega);simp only[List.getElem?_cons_zero,List.getElem?_cons_succ]at q r w;exact⟨s,t,u,q,r,w⟩
  have I:C=none:=by
   obtain⟨s,_,_,g,_⟩:=j 0 (by omega);simpa[Addr.add]using World.cell?_spot g
  subst I;have J:∀i,i<len->∃y:Nm,(W.cell? ⟨b,o+i*3,none⟩=some (.string (sB y.1))/\W.cell? ⟨b,o+i*3+1,none⟩=some (.string (sB y.2.1))/\W.cell? ⟨b,o+i*3+2,none⟩=some (.string (sB y.2.2)))/\NmB y:=by
   intro i k;obtain⟨s,t,u,q,r,w⟩:=j i k;simp only[Addr.add_mid,Nat.add_zero]at q r w;exact⟨(nums s,nums t,nums u),⟨by rw[Es];exact q,by rw[Es];exact r,by rw[Es];exact w⟩,Ej s,Ej t,Ej u⟩
  obtain⟨l,z,B⟩:=Kv len J
  exact⟨_,_,_,l,d,⟨⟨by rw[z],by rw[z];exact Q,M⟩,λi x K=>⟨b,o,rfl,(B i x K).1⟩⟩,λs g=>by
   obtain⟨i,L,rfl⟩:=List.getElem_of_mem g
   exact(B i _ (List.getElem?_eq_getElem L)).2⟩
theorem b1K{v:Value}{d:DataW H}{p:List MemPlace}{r:Reach}{b:Nat}
 (m:Value.okWide prog W r b 38 v) (h:DataW.Trod enc prog W 0 spare held 38 v d p):∃A n c l,v=.slice A n c/\NmS W ⟨A,n,c⟩ l/\∀s∈l,NmB s:=by
 obtain⟨o,len,g,rfl⟩:=okWide_slice underlying38 m;obtain⟨f,i⟩:=h;obtain⟨A,n,c,l,a,j,k⟩:=b1G i;simp[Value.cells]at a;obtain⟨rfl,rfl,rfl⟩:=a;exact⟨_,_,_,l,rfl,j,k⟩
end
end Go.Proofs.YtlmkgaoakcjlnaaGreatDoor
namespace Go.Proofs.YtlmkgaoakcjlnaaGreatDoor.lawBFind
set_option maxRecDepth 100000
open Go.ChangeShapes Go.WideShapes Go.ChangeAt Go.RowKit
theorem contract(H:Type)(enc:TypeId×Value->H)(W:World)(c:Nat)(args:Array Value)(y gs:List (DataW H))(b:List MemPlace)
 (a:∀(j:Nat)t v,Tryz.f8.params[j]? =some t->args[j]? =some v->Value.okWide prog W .any c t v)
 (z:DataW.Whole enc prog Tryz.f8.params.toList Rows.bundleFindSpec.vars false W args.toList y gs b) (hL:laidMetH prog Rows.bundleFindRow.laid W):
 Calls prog 8 args W λe W'=>∃v,e=.returned v/\Rows.bundleFindSpec.post enc prog Tryz.f8 false true false false W args v W':=by
 have d:=z;obtain⟨p,q,f,A,n,B,C⟩:=z;have o:DataW.TrodAll enc prog W 0 (λ_=>true) true Tryz.f8.params.toList args.toList y p:=f;rw[params8]at o a;obtain⟨r,Pj,d0,D,p0,q0,g,rfl,rfl,E,F⟩:=trodAll_cons o;obtain⟨s,G,d1,I,p1,q1,rfl,rfl,rfl,J,K⟩:=trodAll_cons F;obtain⟨w,L,d2,M,p2,q2,rfl,rfl,rfl,N,O⟩:=trodAll_cons K;obtain⟨x,P,d3,Q,p3,q3,rfl,rfl,rfl,R,S⟩:=trodAll_cons O;obtain⟨rfl,rfl,rfl⟩:=trodAll_nil S;obtain rfl:args= #[r,s,w,x]:=by cases args;simp_all
 obtain⟨rfl,rfl⟩:=trodVars_none A;obtain⟨T,U,V,X,rfl,h⟩:=DF (a 0 22 r rfl rfl) E;obtain⟨Y,Z,c1,l1,rfl,i⟩:=DF (a 1 22 s rfl rfl) J;obtain⟨A2,n2,c2,l2,rfl,k,l⟩:=b1K (a 2 38 w rfl rfl) N;obtain⟨s3,rfl,m⟩:=aSk (a 3 9 x rfl rfl) R;refine(b1a X l1 s3 l2 T U V Y Z c1 A2 n2 c2 W h i k l m (OO hL)).mono λe W'⟨n,hx⟩=>?_
 subst n;exact⟨_,rfl,law_post rfl (by kernel_rfl) (by rw[params8];intro t ht;simp only[List.mem_cons,List.not_mem_nil,or_false]at ht;rcases ht with rfl|rfl|rfl|rfl<;>exact⟨by kernel_rfl,of_decide_eq_true (by kernel_rfl)⟩) d hx rfl rfl⟩
theorem door_met(os:Os)(args:Array Value):laidMetH prog Rows.bundleFindRow.laid ((World.doorLaid prog 400 os).forCall (λ_ _=>0) ⟨#[],args,[]⟩).memory:=
 laidMetH_of_parts3 (fuel:=8) (laidMet_of_run' 8 (by kernel_rfl) (by kernel_rfl)) (by kernel_rfl) (by kernel_rfl)
theorem lifted(os:Os)(a:os.Started)(H:Type)(enc:TypeId×Value->H):
 ReturnsInHanded {} Tryz.checked os 8 .any (λw args=>(Rows.bundleFindSpec.pre enc prog Tryz.f8 [] false w args/\laidMetH prog Rows.bundleFindRow.laid w)/\sizedMet enc prog Tryz.f8 (OpenSpec.ofChange Rows.bundleFindSpec) false w args)
  (Rows.bundleFindSpec.post enc prog Tryz.f8 false true false false):=by
 refine returnsInHanded_of_change_and (C:=Tryz.checked) (X:=λw _=>laidMetH prog Rows.bundleFindRow.laid w) (λ_ _ _ f h=>h.of_heap f) own a (by kernel_rfl) func8
  (ChangeSpec.witness_shaped (enc:=enc) (C:=Tryz.checked) (os:=os) (X:=λw _=>laidMetH prog Rows.bundleFindRow.laid w) false (World.doorLaid prog 400 os) #[.slice none 0 0,.slice none 0 0,.slice none 0 0,.string ⟨#[]⟩] 8 rfl (World.shaped_of_RefB (by kernel_rfl) (by kernel_rfl)) (by kernel_rfl) (by kernel_rfl) (by kernel_rfl) (door_met os _)) ?_
 intro W c args g i b d j _ _ k _;exact contract H enc W c args g i b d j k
theorem FH:joinedFacts Tryz.pinned.checked.prog 8 Tryz.f8 Rows.bundleFindSpec Rows.bundleFindRow=true:=by kernel_rfl
theorem FI:Tryz.pinned.checked.prog.funcNamed Rows.bundleFindRow.func=some 8:=by kernel_rfl
theorem said:Rows.BundleFindSaid:=
 OpenClaim.holds_of_wide 8 Tryz.f8 rfl rfl rfl rfl rfl rfl rfl ⟨rfl,rfl,rfl,rfl,rfl⟩ rfl rfl rfl rfl rfl FI func8 FH
  (of_decide_eq_true (by kernel_rfl)) (by unfold Func.isWrapper;first|(rw[pP' (by decide+kernel)];kernel_rfl)|(rw[nN' (by decide+kernel)];exact⟨rfl,rfl⟩))
  (λc a H b _=>lifted c a H b)
theorem plain(f:FuncId)(a:Func)(c:Tryz.pinned.checked.prog.funcNamed "namedesk/namedesklaw22.BundleFind" =some f)(b:Tryz.pinned.checked.prog.funcs[f]? =some a):
 false=Tryz.pinned.checked.prog.looks []/\∀(j:Nat)t,a.params[j]? =some t->Tryz.pinned.checked.prog.wantsStandIn t=false:=by
 obtain rfl:f=8:=Option.some.inj ((show prog.funcNamed "namedesk/namedesklaw22.BundleFind" =some 8 by kernel_rfl).symm.trans c) |>.symm;obtain rfl:a=Tryz.f8:=(Option.some.inj (func8.symm.trans b)).symm;refine⟨by kernel_rfl,λj t ht=>?_⟩;rw[params8]at ht;have ht:=Array.mem_of_getElem? ht;simp only[List.mem_toArray,List.mem_cons,List.not_mem_nil,or_false]at ht;rcases ht with rfl|rfl|rfl|rfl
 .exact(show prog.wantsStandIn 22=false by kernel_rfl)
 .exact(show prog.wantsStandIn 22=false by kernel_rfl)
 .exact(show prog.wantsStandIn 38=false by kernel_rfl)
 .exact(show prog.wantsStandIn 9=false by kernel_rfl)
theorem card:Rows.BundleFindCardSaid:=
 Claim7.holds_tied_plain_at .later [] _ _ _ _ said (λ_ h=>by cases h) (by kernel_rfl) (λ_ h=>by cases h) bundleFind_row_tie rfl ⟨rfl,rfl⟩ (by kernel_rfl) rfl plain (by kernel_rfl)
#print axioms card
end Go.Proofs.YtlmkgaoakcjlnaaGreatDoor.lawBFind
