/- Part Bx21. -/
import Derived.Test.YtlmkgaoakcjlnaaGreatDoorBx20
open Go.Proofs.Tryz
namespace Go.Proofs.YtlmkgaoakcjlnaaGreatDoor
set_option maxHeartbeats 25600000
set_option maxRecDepth 100000
open Go.RowKit
def RkL(T:aj)(wb:World)(R:List (List Int))(gh:Nat)(s7 s28:Value)(wx:World):Prop:=
 ∃(k:Nat)(A:Option Addr)(c:Nat),k+gh=R.length/\s28=.int .i64 k/\s7=.slice A k c/\Hid (kE wx wb.heap.size A k c (fC T (R.take k)))/\Hid (qF T k (R.drop k)=qF T 0 R)/\Hid (Ext wb wx)
def RmL(S:List P3)(N:List Nm)(wb:World)(gh:Nat)(s12 s13:Value)(wx:World):Prop:=
 ∃(m:Nat)(A:Option Addr)(c:Nat)(B:Option Addr)(d:Nat),m+gh=S.length/\s12=.slice A m c/\s13=.slice B m d/\Hid (kE wx wb.heap.size A m c ((S.take m).map Prod.fst))/\Hid (aK wx wb.heap.size B m d ((S.take m).map λp=>(p.2:Int)))/\
  Hid (∀j,j<m->∀h:j+1<S.length,ltS (kyP S[j]) (kyP S[j+1])=true)/\Hid (qY S gh (m+1)=pO N)/\Hid (Ext wb wx)
def bsV(o:Option Nat):Int:=match o with|none=> -1|some j=>j
theorem b0P{o:Option (List Int)}{N:List Nm}{i:Nat}(b:i<N.length):
 (oW o N[i].2.2=false/\bsV (jU N o (i+1))=bsV (jU N o i))\/(oW o N[i].2.2=true/\bsV (jU N o i)= -1/\bsV (jU N o (i+1))=i)\/
 (oW o N[i].2.2=true/\∃(j:Nat)(hj:j<N.length),bsV (jU N o i)=j/\((ltS N[i].2.2 N[j].2.2=true/\bsV (jU N o (i+1))=i)\/(ltS N[i].2.2 N[j].2.2=false/\bsV (jU N o (i+1))=j))):=by
 cases c:oW o N[i].2.2 with
 |false=>exact .inl ⟨rfl,by rw[jU,dif_pos b,nN' (λh=>by rw[c]at h;cases h.1)]⟩
 |true=>
  rcases Oh N o i (Nat.le_of_lt b)with⟨e,_⟩|⟨j,hj,e,_,_,_⟩
  .exact .inr (.inl ⟨rfl,by rw[e];rfl,by rw[jU,dif_pos b,pP' ⟨c,λj hj=>by rw[e]at hj;cases hj⟩];rfl⟩)
  .refine .inr (.inr ⟨rfl,j,hj,by rw[e];rfl,?_⟩);cases d:ltS N[i].2.2 N[j].2.2 with
   |true=>exact .inl ⟨rfl,by rw[jU,dif_pos b,pP' ⟨c,λf a _=>by rw[e]at a;cases a;exact d⟩];rfl⟩
   |false=>exact .inr ⟨rfl,by rw[jU,dif_pos b,nN' (λh=>by have:=h.2 j e hj;rw[d]at this;cases this),e];rfl⟩
theorem b0c{N:List Nm}{m:Nat}(f:m<(bC N).length)(a:∀j,j<m->∀h:j+1<(bC N).length,ltS (kyP (bC N)[j]) (kyP (bC N)[j+1])=true):
 ∃o:Option (List Int),bsV (jU N o N.length)=(bC N)[m].2/\((m=0/\∀y,oW o y=true)\/(0<m/\∃h:m-1<(bC N).length,∀y,oW o y=ltS (kyP (bC N)[m-1]) y)):=by
 by_cases b:m=0
 .exact⟨none,by rw[Xn f none b];rfl,.inl ⟨b,λ_=>rfl⟩⟩
 .have c:m-1<(bC N).length:=by omega
  have d:=a (m-1) (by omega) (by omega);have e:m-1+1=m:=by omega
  simp only[e]at d;exact⟨some (kyP (bC N)[m-1]),by rw[Xn f (some (kyP (bC N)[m-1])) ⟨by omega,c,rfl,d⟩];rfl,.inr ⟨by omega,c,λ_=>rfl⟩⟩
theorem Ox(T:aj)(t:TV)(R:List (List Int))(A:Option Addr)(n c:Nat)(w:World)(ht:aW w t T)(hr:oC w ⟨A,n,c⟩ R)(hB:∀s∈R,IsB s):Calls prog 18 #[t.v,.slice A n c] w (zx w (mkE T R) (mkS T R)):=by
 obtain⟨W0,l⟩:=eX' ((w.alloc (.cells #[.slice t.s0.a t.s0.n t.s0.c,.slice t.s1.a t.s1.n t.s1.c,.slice t.s2.a t.s2.n t.s2.c,.slice t.s3.a t.s3.n t.s3.c,.slice t.s4.a t.s4.n t.s4.c,.slice t.s5.a t.s5.n t.s5.c,.slice t.s6.a t.s6.n t.s6.c,.slice t.s7.a t.s7.n t.s7.c,.slice t.s8.a t.s8.n t.s8.c,.slice t.s9.a t.s9.n t.s9.c,.slice t.s10.a t.s10.n t.s10.c,.slice t.s11.a t.s11.n t.s11.c] 26)).alloc (.cells gW 42));have aa:Ext w W0:=by rw[l];exact(eR'.aB _).aB _
 have Y:=ah aa;have HT:=ah (ht.aC aa);have HR:=ah (hr.ext aa);have bi:=ah hB;have gQ:Hid (∀w',Ext W0 w'->∀k:Nat,w'.cell? ⟨w.heap.size,k,none⟩=t.v.cells[k]?):=ah (λw' h=>aQ ((eR'.aB _).trans' (by rw[l]at h;exact h)));have B:Hid (∀w',Ext W0 w'->w'.heap[w.heap.size+1]? =some (.cells gW 42 (0,0))):=ah (λw' h=>IW (by rw[l]at h;exact h));have G:Hid (Ext W0 W0):=ah eR';have cz:w.heap.size+2<=W0.heap.size:=by rw[l];simp
 have hn:n=R.length:=hr.1.1;subst hn;clear ht hr hB aa;by_cases X:R.length=0
 .have HE:Hid (mkE T R=(10,-1,[])):=ah (by rw[mkE,pP' X]);have H0:Hid (((10,-1,[]):Int×Int×List Int).1≠0):=ah (by decide);have e1:(R.length==0)=true:=by rw[bq'];exact X
  have e2:((R.length:Int)==0)=true:=by rw[bq'];omega
  have hH:=B.out _ G.out;rw[l]at hH;clear X;go_enter func18,ntmps18;go_wp2_with(refine wpList_store_row rfl _ _ _ rfl (w.heap.size+1) _ rfl rfl 42 gW hH (by kernel_rfl) rfl (qZ _ _ _ _ _ _ _ _) ?_);rw[<- l]
  (try simp only[Exit.inBlock,Exit.then])
  refine bodyPost_ret (results_tt_cell (u:=4) (v:=5) (p:=6) (ty:=42) (by kernel_rfl) _ _ (w.heap.size+1) 42 _ (0,0) (by first|rfl|simp[Act.put]) (setRow_heap _ _ _ _ _ _ (B.out _ G.out)) underlying42 (by kernel_rfl)) rfl ?_;exact Aq HE.out H0.out (nP (Y.out.trans' G.out) (Nat.le_succ _) _) rfl
 have e1:(R.length==0)=false:=by rw[aO];exact X
 have e2:((R.length:Int)==0)=false:=bF';by_cases Q:16<R.length
 .have HE:Hid (mkE T R=(7,-1,[])):=ah (by rw[mkE,nN' X,pP' Q]);have H0:Hid (((7,-1,[]):Int×Int×List Int).1≠0):=ah (by decide);have d1:decide (16<R.length)=true:=dt' Q;have d2:decide (16<(R.length:Int))=true:=dT';have hH:=B.out _ G.out;rw[l]at hH;clear X Q;go_enter func18,ntmps18;go_wp2_with(refine wpList_store_row rfl _ _ _ rfl (w.heap.size+1) _ rfl rfl 42 gW hH (by kernel_rfl) rfl (qZ _ _ _ _ _ _ _ _) ?_);rw[<- l]
  (try simp only[Exit.inBlock,Exit.then])
  refine bodyPost_ret (results_tt_cell (u:=4) (v:=5) (p:=6) (ty:=42) (by kernel_rfl) _ _ (w.heap.size+1) 42 _ (0,0) (by first|rfl|simp[Act.put]) (setRow_heap _ _ _ _ _ _ (B.out _ G.out)) underlying42 (by kernel_rfl)) rfl ?_;exact Aq HE.out H0.out (nP (Y.out.trans' G.out) (Nat.le_succ _) _) rfl
 have d1:decide (16<R.length)=false:=df' Q;have d2:decide (16<(R.length:Int))=false:=dF';have cx:R.length<=16:=by omega
 have cy:0<R.length:=by omega
 have HM:Hid (mkE T R=match qF T 0 R with
  |some q=>(q.2,q.1,[])
  |none=>match pO (fC T R)with
   |some p=>(22,p.2,p.1.1)
   |none=>(0,-1,[])):=ah (by rw[mkE,nN' X,nN' Q];rfl)
 clear X Q;go_enter func18,ntmps18;go_wp2_with fail;rw[<- l];clear l;go_loopg[7,28] R.length (λgh s7 bZ wx=>RkL T W0 R gh s7 bZ wx);exact⟨0,none,0,by omega,rfl,rfl,ah (Own.nil_ _ _ _ _),ah rfl,G⟩;obtain⟨k,A2,c2,cA,rfl,rfl,HO,Z,HB⟩:=hrel;have rT:=gQ.out _ HB.out;by_cases hk:k<R.length
 .obtain⟨c4,rfl⟩:=gS' gk;obtain⟨b,o,rfl,c5⟩:=(HR.out.ext HB.out).at_ hk;have HC:=ah (Xw T t R[k] wr (HT.out.aC HB.out) (bi.out _ (gM' hk)));have ab:=ah (Ov (T:=T) hk);have ax:=ah (XA (T:=T) hk);generalize R[k]=x at*;generalize oD T x=D at*;obtain⟨H,ev⟩:=D;simp only[]at ab ax;have bm:=z0' k;have bn:(k:Int)<(R.length:Int):=by omega
  go_wp2_with fail;refine HC.out.mono ?_;rintro e S⟨rfl,ay⟩;have bo:=ah (HB.out.trans' ay);have dJ:=ah (Own.ext HO.out ay);have ac:Ext S (S.alloc (.cells #[.string (sB H.1),.string (sB H.2.1),.string (sB H.2.2)] 32)):=eR'.aB _;have I:=ah (bo.out.trans' ac);have mV:=ah (Own.ext dJ.out ac);clear ay rT c5 HC HO;by_cases f:ev=0
  case neg=>
   have f1:(ev != 0)=true:=bN' f;have HE:Hid (mkE T R=(ev,(k:Int),[])):=ah (by rw[HM.out,<- Z.out,ab.out,pP' f]);have H0:Hid (((ev,(k:Int),[]):Int×Int×List Int).1≠0):=ah f;clear f ac
   go_wp2_with(first
    |(refine wpList_store_row rfl _ _ _ rfl S.heap.size _ rfl rfl 32 ny (heap_alloc_new S _) (by kernel_rfl) rfl (pU _ _ _) ?_;rw[World.setRow_alloc_new])
    |(refine wpList_store_row rfl _ _ _ rfl (w.heap.size+1) _ rfl rfl 42 gW (B.out _ I.out) (by kernel_rfl) rfl (qZ _ _ _ _ _ _ _ _) ?_))
   (try simp only[Exit.inBlock,Exit.then])
   refine bodyPost_ret (results_tt_cell (u:=4) (v:=5) (p:=6) (ty:=42) (by kernel_rfl) _ _ (w.heap.size+1) 42 _ (0,0) (by first|rfl|simp[Act.put]) (setRow_heap _ _ _ _ _ _ (B.out _ I.out)) underlying42 (by kernel_rfl)) rfl ?_;exact Aq HE.out H0.out (nP (Y.out.trans' I.out) (Nat.le_succ _) _) rfl
  have f1:(ev != 0)=false:=bZ' f;have c7:=ah ((ab.out.trans (nN' (by rw[f];simp))).symm.trans Z.out);obtain⟨W5,U⟩:=eX' (S.alloc (.cells #[.string (sB H.1),.string (sB H.2.1),.string (sB H.2.2)] 32));have k0:W5.cell? ⟨S.heap.size,0,none⟩=some (.string (sB H.1)):=by rw[U];exact World.cell?_alloc_new S _ _ 0
  have k1:W5.cell? ⟨S.heap.size,1,none⟩=some (.string (sB H.2.1)):=by rw[U];exact World.cell?_alloc_new S _ _ 1
  have k2:W5.cell? ⟨S.heap.size,2,none⟩=some (.string (sB H.2.2)):=by rw[U];exact World.cell?_alloc_new S _ _ 2
  rw[<- U]at I mV;obtain⟨A6,c6,w6,C,d,wB⟩:=Ol mV.out H (by omega) I.out.b.size;rw[<- ax.out]at d;have c8:=ah d;have iC:Hid (Ext W0 w6):=ah (dW (I.out.trans' (eR'.aB _)) wB (λk hk=>(Own.lt mV.out k hk).1));clear f ab Z bo dJ ac ax I mV d wB
  go_wp2_with(first
   |(refine wpList_store_row rfl _ _ _ rfl S.heap.size _ rfl rfl 32 ny (heap_alloc_new S _) (by kernel_rfl) rfl (pU _ _ _) ?_;rw[World.setRow_alloc_new,<- U];clear U)
   |(at_builtin;refine dG rfl _ _ _ rfl _ _ rfl rfl _ _ C ?_;clear C))
  go_roundg c4;exact⟨k+1,A6,c6,by omega,by go_num,rfl,c8,c7,iC⟩;omega
 .have c9:k=R.length:=by omega
  subst c9;have br:Hid (qF T 0 R=none):=ah (by rw[<- Z.out,List.drop_of_length_le (lr' _)];rfl);rw[List.take_length]at HO;have J:Hid ((bC (fC T R)).length=R.length):=ah (by have:=Ot (T:=T) (R:=R) (lr' _);rwa[List.take_length]at this);have E:Hid ((fC T R).length=R.length):=ah (by rw[fC,List.length_map])
  have V:Hid (∀x∈fC T R,IsB x.2.2):=ah (λx hx=>by
   rw[fC,List.mem_map]at hx;obtain⟨s,hs,rfl⟩:=hx
   exact(Fv (bi.out s hs)).2.2)
  have aD:Hid (mkE T R=match pO (fC T R)with
   |some p=>(22,p.2,p.1.1)
   |none=>(0,-1,[])):=ah (by rw[HM.out,br.out])
  have aE:Hid (mkS T R=if(mkE T R).1=0 then bC (fC T R)else[]):=rfl;have bs:Hid (pO (fC T R)=qY (bC (fC T R)) (bC (fC T R)).length 1):=rfl;have W:=ah (kE.nms HO.out);obtain⟨N,hN⟩:=eY' (fC T R);rw[hN]at J E V aD aE bs W;clear HM Z br rT HO hN;go_wp2_with fail;obtain⟨WN,rfl⟩:=eX' wr;go_loopg[12,13] R.length (λgh ca cb wx=>RmL (bC N) N WN gh ca cb wx);exact⟨0,none,0,none,0,by rw[J.out];omega,rfl,rfl,ah (Own.nil_ _ _ _ _),ah (Own.nil_ _ _ _ _),ah (λj hj=>by omega),ah (by rw[bs.out,J.out]),ah eR'⟩;obtain⟨m,A3,c3,B3,d3,cc,rfl,rfl,dJ,aL,bt,ad,eH⟩:=hrel;rw[J.out]at cc;by_cases hm:m<R.length
  .obtain⟨g2,rfl⟩:=gS' gk;have dm:decide ((m:Int)<(R.length:Int))=true:=dT';have af:m<(bC N).length:=(by rw[J.out];exact hm);obtain⟨o,aM,bu⟩:=b0c af bt.out;rw[E.out]at aM;have cd:=ah aM;have ce:=ah bu;clear aM bu;go_wp2_with fail;obtain⟨jC,rfl⟩:=eX' wr;go_loopg[14,56] R.length (λg3 cf cg wx=>∃i:Nat,i+g3=R.length/\cg=.int .i64 i/\cf=.int .i64 (bsV (jU N o i))/\Hid (Ext jC wx));exact⟨0,by omega,rfl,rfl,ah eR'⟩;obtain⟨i,cB,rfl,rfl,kS⟩:=hrel;by_cases hi:i<R.length
   .obtain⟨g4,rfl⟩:=gS' gk;have L:i<N.length:=(by rw[E.out];exact hi);obtain⟨gn,on,rfl,n0,n1,n2⟩:=NmS.at_ (W.out.ext (eH.out.trans' kS.out)) L;have bv:=ah (b0P (o:=o) L);have J5:=V.out _ (gM' L);obtain⟨W6,ag⟩:=eX' (wr.alloc (.cells #[.string (sB N[i].1),.string (sB N[i].2.1),.string (sB N[i].2.2)] 32));have a1:Ext wr W6:=(by rw[ag];exact eR'.aB _);have eY:=ah (kS.out.trans' a1);have cX:∀z:ak W6,z.w.cell? ⟨wr.heap.size,2,none⟩=some (.string (sB N[i].2.2)):=cZ (by rw[ag];exact World.cell?_alloc_new wr _ _ 2);have cJ:∀(j:Nat)(hj:j<N.length),∀z:ak W6,z.w.cell? ⟨gn,on+j*3+2,none⟩=some (.string (sB N[j].2.2)):=λj hj z=>by
     obtain⟨g',o',hA,_,_,r⟩:=NmS.at_ (W.out.ext (eH.out.trans' (eY.out.trans' z.h))) hj;cases hA;exact r
    have ch:(((m:Int)==0)=true/\oW o N[i].2.2=true)\/(((m:Int)==0)=false/\∃(m':Nat)(z:List Int)(g0 o0:Nat),(m:Int)-1=(m':Int)/\m'<m/\A3=some ⟨g0,o0,none⟩/\(∀q:ak W6,q.w.cell? ⟨g0,o0+m'*3+2,none⟩=some (.string (sB z)))/\
     ((Op.bytesLess (sB N[i].2.2).toList (sB z).toList=true/\oW o N[i].2.2=false)\/(Op.bytesLess (sB N[i].2.2).toList (sB z).toList=false/\((sB N[i].2.2).toList==(sB z).toList)=true/\oW o N[i].2.2=false)\/
      (Op.bytesLess (sB N[i].2.2).toList (sB z).toList=false/\((sB N[i].2.2).toList==(sB z).toList)=false/\oW o N[i].2.2=true))):=by
     rcases ce.out with⟨X,h⟩|⟨X,f,h⟩
     .exact .inl ⟨by rw[X];rfl,h _⟩
     .obtain⟨g0,o0,hA,_,_,r⟩:=NmS.at_ (kE.nms (Own.ext dJ.out eY.out)) (i:=m-1) (by simp;omega);simp only[List.getElem_map,List.getElem_take]at r;have bA:IsB (kyP (bC N)[m-1]):=by
       obtain⟨h3,h4⟩:=BM f;have:=V.out _ (gM' h3);rw[h4]at this;exact this
      refine .inr ⟨by rw[aO];omega,m-1,kyP (bC N)[m-1],g0,o0,by omega,by omega,hA,λq=>bg (bD q.h) r,?_⟩;rw[Fp J5 bA,rV J5 bA,h];cases aZ:ltS (kyP (bC N)[m-1]) N[i].2.2 with
      |true=>exact .inr (.inr ⟨IL aZ,df' (λe=>BN aZ e.symm),rfl⟩)
      |false=>
       cases hq:ltS N[i].2.2 (kyP (bC N)[m-1])with
       |true=>exact .inl ⟨rfl,rfl⟩
       |false=>exact .inr (.inl ⟨rfl,dt' (BL hq aZ),rfl⟩)
    have ci:(oW o N[i].2.2=false/\bsV (jU N o (i+1))=bsV (jU N o i))\/(oW o N[i].2.2=true/\bsV (jU N o i)= -1/\bsV (jU N o (i+1))=i)\/
     (oW o N[i].2.2=true/\∃(j:Nat)(y:List Int),bsV (jU N o i)=j/\decide ((j:Int)<0)=false/\(j:Int)<(R.length:Int)/\(∀z:ak W6,z.w.cell? ⟨gn,on+j*3+2,none⟩=some (.string (sB y)))/\
      ((Op.bytesLess (sB N[i].2.2).toList (sB y).toList=true/\bsV (jU N o (i+1))=i)\/(Op.bytesLess (sB N[i].2.2).toList (sB y).toList=false/\bsV (jU N o (i+1))=j))):=by
     rcases bv.out with h|h|⟨h,j,hj,hq,r⟩
     .exact .inl h
     .exact .inr (.inl h)
     .refine .inr (.inr ⟨h,j,N[j].2.2,hq,df' (by omega),by have:=E.out;omega,cJ j hj,?_⟩);rw[Fp J5 (V.out _ (gM' hj))];exact r
    have cj:=z0' i;have ck:(i:Int)<(R.length:Int):=(by omega);clear cJ bv J5;generalize N[i]=x at*;rcases ch with⟨e0,F⟩|⟨e0,m',z,g0,o0,cC,cD,rfl,dO,⟨l1,F⟩|⟨l1,l2,F⟩|⟨l1,l2,F⟩⟩
    all_goals
     rcases ci with⟨sb,sv⟩|⟨sb,sq,sv⟩|⟨sb,j,y,sq,sd,sj,sc,⟨sl,sv⟩|⟨sl,sv⟩⟩
    all_goals first
     |exact absurd (F.symm.trans sb) (by decide)
     |skip
    all_goals
     (try rw[sq])
     clear F sb;have cl:=ah sv
     (try clear sq)
     clear sv;go_wp2_with(refine wpList_store_row rfl _ _ _ rfl wr.heap.size _ rfl rfl 32 ny (heap_alloc_new wr _) (by kernel_rfl) rfl (pU _ _ _) ?_;rw[World.setRow_alloc_new,<- ag];clear ag);simp only[Act.put];refine rX' ?_
     repeat(go_big_quiet_step(fail))
     refine wpQuiet_nil ?_;rintro _⟨q,rfl⟩;have jA:=ah (eY.out.trans' q.h);generalize q.w=w7 at*;clear q cX;go_wp2;go_roundg g4;exact⟨i+1,by omega,by go_num,by rw[cl.out],jA⟩;omega
   .have cm:i=R.length:=(by omega);subst cm;rw[cd.out];obtain⟨O,bE⟩:=BM af;have b0:=ah (λ(i:Nat)(hi:i<N.length)(f:(bC N)[m].2<i)(r:N[i].2.2=kyP (bC N)[m])=>aYA af hi f r);have a3:=ah (λ(f:m+1<(bC N).length)(r:kyP (bC N)[m+1]=kyP (bC N)[m])=>(⟨Xo f r,BM f⟩:(bC N)[m].2<(bC N)[m+1].2/\∃hi:(bC N)[m+1].2<N.length,N[(bC N)[m+1].2]=(bC N)[m+1].1));have bH:=ah (λ(f:m+1<(bC N).length)(r:kyP (bC N)[m+1]≠kyP (bC N)[m])=>up_srt f r);obtain⟨K,ai⟩:=eY' ((bC N)[m].2);have al:Hid (∀h:K<N.length,N[K]'h=(bC N)[m].1):=ah (λh=>by simp only[<- ai];exact bE);rw[ai]at O b0 a3 |-;have cn:=ah ai;have cE:K<R.length:=(by have:=E.out;omega);clear bE ai;go_wp2_with fail;obtain⟨JX,rfl⟩:=eX' wr;go_loopg[17] (R.length-(K+1)) (λg3 Y9 wx=>∃i:Nat,i+g3=R.length/\K+1<=i/\Y9=.int .i64 i/\Hid (∀j(hj:j<N.length),K<j->j<i->N[j].2.2≠kyP (bC N)[m])/\Hid (Ext JX wx));exact⟨K+1,by omega,lr' _,by go_num,ah (λj _ f r=>by omega),ah eR'⟩;obtain⟨i,cF,cG,rfl,a4,dU⟩:=hrel;have P:=ah (kS.out.trans' dU.out);by_cases co:i<R.length
    .obtain⟨g5,rfl⟩:=gS' gk;have L:i<N.length:=(by rw[E.out];exact co);obtain⟨gn,on,rfl,n0,_,n2⟩:=NmS.at_ (W.out.ext (eH.out.trans' P.out)) L;obtain⟨cH,cI,hA,_,_,p2⟩:=NmS.at_ (W.out.ext (eH.out.trans' P.out)) O;cases hA;rw[al.out O]at p2;have b1:=rV (V.out _ (gM' L)) (V.out _ (gM' O));rw[al.out O]at b1;have cj:=z0' i;have ck:(i:Int)<(R.length:Int):=(by omega);have bm:=z0' K;have bn:(K:Int)<(R.length:Int):=(by omega);have c0:∀z:ak wr,z.w.cell? ⟨gn,on+i*3+2,none⟩=some (.string (sB N[i].2.2)):=cZ n2;have c1:∀z:ak wr,z.w.cell? ⟨gn,on+K*3+2,none⟩=some (.string (sB (bC N)[m].1.2.2)):=cZ p2;by_cases he:N[i].2.2=(bC N)[m].1.2.2
     .rw[dt' he]at b1;obtain⟨t1,t2,t3⟩:=b0.out i L (by omega) he;obtain⟨t4,t5,t6⟩:=a3.out t1 t2;have b3:(bC N)[m+1].2=i:=by
       rcases Nat.lt_or_ge (bC N)[m+1].2 i with h|h
       .exact absurd (by rw[t6];exact t2) (a4.out _ t5 t4 h)
       .omega
      have bJ:N[i]=(bC N)[m+1].1:=by simp only[<- b3];exact t6
      have HF:Hid (pO N=some (bC N)[m+1]):=ah (by
       rw[<- ad.out,qY,dif_pos t1];simp only[Nat.add_sub_cancel]
       rw[pP' t2])
      have HE:Hid (mkE T R=(22,(i:Int),N[i].1)):=ah (by rw[aD.out,HF.out,bJ];show(22,((bC N)[m+1].2:Int),_)=_;rw[b3]);have H0:Hid (((22,(i:Int),N[i].1):Int×Int×List Int).1≠0):=ah (by show(22:Int)≠0;omega);have cp:=ah n0;generalize N[i]=x at*;clear he HF t1 t2 t3 t4 t5 t6 b3 bJ n0 n2 p2;go_wp2_with fail;refine rX' ?_
      repeat(go_big_quiet_step(fail))
      refine wpQuiet_nil ?_;rintro _⟨z,rfl⟩;have jA:=ah (eH.out.trans' (P.out.trans' z.h));have X:=cZ cp.out z;generalize z.w=w7 at*;clear c0 c1 z;have b4:=ah (B.out w7 (HB.out.trans' jA.out));have cR:∀k:Nat,w7.cell? ⟨w.heap.size+1,k,none⟩=gW[k]? :=λk=>cell_of_row w7 _ k gW _ (0,0) b4.out
      have fR:∀k:Nat,w7.frozen? ⟨w.heap.size+1,k,none⟩=false:=λk=>frozen_of_row w7 _ k gW _ b4.out
      go_wp2_with fail;go_region_law(fail)
      all_goals
       have cq:=b0f (XD b4.out 22 i (sB x.1));have aY:=ah (XE (Y.out.trans' (HB.out.trans' jA.out)) (Nat.le_succ w.heap.size) 22 i (sB x.1)).dL;clear cR fR;go_wp2_with fail
       (try simp only[Exit.inBlock,Exit.then])
       refine bodyPost_ret (results_tt_cell (u:=4) (v:=5) (p:=6) (ty:=42) (by kernel_rfl) _ _ (w.heap.size+1) 42 _ (0,0) (by first|rfl|simp[Act.put]) cq underlying42 (by kernel_rfl)) rfl ?_;exact Aq HE.out H0.out aY.out rfl
     .rw[df' he]at b1
      have cr:Hid (∀j(hj:j<N.length),K<j->j<i+1->N[j].2.2≠kyP (bC N)[m]):=ah (λj hj f r=>by
       by_cases e:j=i
       .subst e;exact he
       .exact a4.out j hj f (by omega))
      clear he n0 n2 p2;go_wp2_with fail;refine rX' ?_
      repeat(go_big_quiet_step(fail))
      refine wpQuiet_nil ?_;rintro _⟨z,rfl⟩;have jA:=ah (dU.out.trans' z.h);generalize z.w=w7 at*;clear c0 c1 z;go_wp2;go_roundg g5;exact⟨i+1,by omega,by omega,by go_num,cr,jA⟩;omega
    .have ct:Hid (∀j,j<m+1->∀h:j+1<(bC N).length,ltS (kyP (bC N)[j]) (kyP (bC N)[j+1])=true):=ah (λj hj h=>by
      by_cases e:j=m
      .subst e;refine bH.out h λr=>?_
       obtain⟨t4,t5,t6⟩:=a3.out h r;exact a4.out _ t5 t4 (by have:=E.out;omega) (by rw[t6];exact r)
      .exact bt.out j (by omega) h)
     have cu:Hid (qY (bC N) g2 (m+2)=pO N):=ah (by
      have h:=ad.out;rw[qY]at h;split at h
      .rename_i f;simp only[Nat.add_sub_cancel]at h
       rw[nN' (λr=>by
        obtain⟨t4,t5,t6⟩:=a3.out f r
        exact a4.out _ t5 t4 (by have:=E.out;omega) (by rw[t6];exact r))]at h
       exact h
      .rename_i f;rw[<- h];cases g2 with
       |zero=>rfl
       |succ g=>rw[qY,dif_neg (by omega)])
     have b5:Hid (((bC N).take (m+1)).map Prod.fst=((bC N).take m).map Prod.fst++[(bC N)[m].1]/\((bC N).take (m+1)).map (λp=>(p.2:Int))=((bC N).take m).map (λp=>(p.2:Int))++[(K:Int)]):=ah (by
      rw[tS' af,List.map_append,List.map_append,<- cn.out]
      exact⟨rfl,rfl⟩)
     obtain⟨gn,on,rfl,n0,n1,n2⟩:=NmS.at_ (W.out.ext (eH.out.trans' P.out)) O;rw[al.out O]at n0 n1 n2;have am:=ah (Own.ext dJ.out P.out);have Kz:=ah (Own.ext aL.out P.out);have XG:=ah (eH.out.trans' P.out);generalize(bC N)[m].1=H at*;obtain⟨A6,c6,w6,C,d,wB⟩:=Ol am.out H (by omega) XG.out.b.size;have a1:Ext wr (wr.alloc (.cells #[.string (sB H.1),.string (sB H.2.1),.string (sB H.2.2)] 32)):=eR'.aB _;have bK:=Kp.nC (M:=(aG A3).toList) wB (by intro b F;simp[F]);have qP:=ah (Own.kp (Own.ext Kz.out a1) bK (λb F hm=>Own.types Kz.out am.out (by decide) b F (by simpa using hm)));have iC:Hid (Ext WN w6):=ah (dW (XG.out.trans' a1) wB (λk hk=>(Own.lt am.out k hk).1));have a5:Ext w6 (w6.alloc (.cells #[.int .i64 K] 3)):=eR'.aB _;obtain⟨B7,d7,w7,a6,vK,zY,_⟩:=fZ (Own.ext qP.out a5) (iI w6 K) (by omega) (iC.out.trans' a5).b.size;have bL:=Kp.nC (M:=(aG B3).toList) zY (by intro b F;simp[F]);have bN:=ah (Own.kp (Own.ext d a5) bL (λb F hm=>Own.types d qP.out (by decide) b F (by simpa using hm)));have qQ:Hid (Ext WN w7):=ah (dW (iC.out.trans' a5) zY (λk hk=>(Own.lt qP.out k hk).1));have bO:=ah vK;have cv:Hid (aK w7 WN.heap.size B7 (m+1) d7 (((bC N).take (m+1)).map λp=>(p.2:Int))):=ah (by rw[b5.out.2];exact bO.out);have cw:Hid (kE w7 WN.heap.size A6 (m+1) c6 (((bC N).take (m+1)).map Prod.fst)):=ah (by rw[b5.out.1];exact bN.out);have bm:=z0' K;have bn:(K:Int)<(R.length:Int):=(by omega);clear d wB bK a1 a5 vK zY bL am Kz qP iC bN bO b5 a4 b0 a3 bH al
     go_wp2_with(at_builtin;first
      |(refine dG rfl _ _ _ rfl _ _ rfl rfl _ _ C ?_;clear C)
      |(refine dG rfl _ _ _ rfl _ _ rfl rfl _ _ a6 ?_;clear a6))
     go_roundg g2;exact⟨m+1,A6,c6,B7,d7,by rw[J.out];omega,rfl,rfl,cw,cv,ct,cu,qQ⟩;omega
  .have cK:m=R.length:=by omega
   have bR:Hid (pO N=none):=ah (by
    have h:=ad.out;cases gk with
    |zero=>exact h.symm
    |succ g=>omega)
   have HE:Hid (mkE T R=(0,-1,[])):=ah (by rw[aD.out,bR.out]);have bS:Hid (mkS T R=bC N):=ah (by rw[aE.out,pP' (by rw[HE.out])]);have aY:=ah (HB.out.trans' eH.out);have cL:=HB.out.b.size;have bU:=ah (λcs:Array Value=>(Own.kp dJ.out (Dz _ (w.heap.size+1) cs) (λb F hm=>by have:=(Own.lt dJ.out b F).1;simp at hm;omega)));have bW:=ah (λcs:Array Value=>(Own.kp aL.out (Dz _ (w.heap.size+1) cs) (λb F hm=>by have:=(Own.lt aL.out b F).1;simp at hm;omega)));have bX:(bC N).take m=bC N:=tL' (by rw[J.out];omega);rw[bX]at bU bW;have dm:decide ((m:Int)<(R.length:Int))=false:=dF';clear bR aE ad bX;go_wp2_with(refine wpList_store_row rfl _ _ _ rfl (w.heap.size+1) _ rfl rfl 42 gW (B.out _ aY.out) (by kernel_rfl) rfl (qZ _ _ _ _ _ _ _ _) ?_)
   (try simp only[Exit.inBlock,Exit.then])
   refine bodyPost_ret (results_tt_cell (u:=4) (v:=5) (p:=6) (ty:=42) (by kernel_rfl) _ _ (w.heap.size+1) 42 _ (0,0) (by first|rfl|simp[Act.put]) (setRow_heap _ _ _ _ _ _ (B.out _ aY.out)) underlying42 (by kernel_rfl)) rfl ?_;exact⟨A3,_,c3,B3,_,d3,by rw[HE.out];rfl,⟨WN.heap.size,by omega,by rw[bS.out];exact bU.out _,by rw[bS.out];exact bW.out _⟩,nP (Y.out.trans' aY.out) (Nat.le_succ _) _⟩
open Go.ChangeShapes Go.WideShapes Go.ChangeAt Go.RowKit Go.Deep
theorem Kv{α:Type}{Q:Nat->α->Prop}:∀n:Nat,(∀i,i<n->∃x,Q i x)->∃l:List α,l.length=n/\∀(i:Nat)x,l[i]? =some x->Q i x
 |0,_=>⟨[],rfl,λi x h=>by simp at h⟩
 |n+1,h=>by
  obtain⟨l,b,d⟩:=Kv n λi c=>h i (by omega)
  obtain⟨x,f⟩:=h n (by omega);refine⟨l++[x],by simp[b],λi y a=>?_⟩;have c:i<(l++[x]).length:=(List.getElem?_eq_some_iff.1 a).1;rw[lA',List.length_singleton,b]at c;by_cases g:i<n
  .rw[List.getElem?_append_left (by omega)]at a;exact d i y a
  .have e:i=l.length:=by omega
   subst e;rw[List.getElem?_append_right (lr' _),Nat.sub_self,List.getElem?_cons_zero]at a;injection a with a;subst a;rw[b];exact f
section
variable {H:Type}{enc:TypeId × Value→H}{W:World}{base:Nat}{spare:Nat→Bool}{held:Bool}
end
theorem J6:prog.cellsOf 9=1:=by kernel_rfl
section
variable {H:Type}{enc:TypeId × Value→H}{W:World}{base:Nat}{spare:Nat→Bool}{held:Bool}
theorem b1A{fuel:Nat}{K:List Value}{x:DataW H×List MemPlace}(h:DataW.trod enc prog W base spare held fuel 29 K=some x):∃A n c l,K=[.slice A n c]/\oC W ⟨A,n,c⟩ l/\∀s∈l,IsB s:=by
 rcases open_slice underlying29 h with⟨f,L⟩|⟨a,len,M,m,n,D,R,f,S,N,G,t,L,O⟩
 .exact⟨none,0,0,[],f,⟨⟨rfl,lr' _,zl' _⟩,λi x h=>by simp at h⟩,λs d=>by simp at d⟩
 .have P:len<=m:=by rw[t];split<;>omega
  obtain⟨b,o,I⟩:=a;by_cases w:len=0
  .subst w;exact⟨_,_,_,[],f,⟨⟨rfl,by simp,G⟩,λi x h=>by simp at h⟩,λs d=>by simp at d⟩
  have g:∀i,i<len->∃s:ByteArray,W.cell? (((⟨b,o,I⟩:Addr).add (i*1)).add 0)=some (.string s):=by
   intro i j;obtain⟨Q,k,z⟩:=O i (by omega);obtain⟨s,d,_⟩:=DataW.trod_string underlying9 z;rw[J6]at k;obtain⟨_,_,p⟩:=World.cells?_some k;rw[d]at p;have J:=p 0 (by omega);simp only[List.getElem?_cons_zero]at J;exact⟨s,J⟩
  have B:I=none:=by
   obtain⟨s,d⟩:=g 0 (by omega);simpa[Addr.add]using World.cell?_spot d
  subst B;have C:∀i,i<len->∃y:List Int,W.cell? ⟨b,o+i,none⟩=some (.string (sB y))/\IsB y:=by
   intro i j;obtain⟨s,d⟩:=g i j;simp only[Addr.add_mid,Nat.add_zero,Nat.mul_one]at d;exact⟨nums s,by rw[Es];exact d,Ej s⟩
  obtain⟨l,q,r⟩:=Kv len C
  exact⟨_,_,_,l,f,⟨⟨by rw[q],by rw[q];exact N,G⟩,λi x E=>⟨b,o,rfl,(r i x E).1⟩⟩,λs d=>by
   obtain⟨i,F,rfl⟩:=List.getElem_of_mem d
   exact(r i _ (List.getElem?_eq_getElem F)).2⟩
theorem b1F{v:Value}{d:DataW H}{p:List MemPlace}{r:Reach}{b:Nat}
 (m:Value.okWide prog W r b 29 v) (h:DataW.Trod enc prog W 0 spare held 29 v d p):∃A n c l,v=.slice A n c/\oC W ⟨A,n,c⟩ l/\∀s∈l,IsB s:=by
 obtain⟨o,len,g,rfl⟩:=okWide_slice underlying29 m;obtain⟨f,i⟩:=h;obtain⟨A,n,c,l,a,j,k⟩:=b1A i;simp[Value.cells]at a;obtain⟨rfl,rfl,rfl⟩:=a;exact⟨_,_,_,l,rfl,j,k⟩
end
end Go.Proofs.YtlmkgaoakcjlnaaGreatDoor
