/- Part By32. -/
import Derived.Laws.ResultCell
import Derived.Test.YtlmkgaoakcjlnaaGreatDoorBy31
import Derived.Laws.Cover1
import Derived.Deep.WholeRow
open Go.Proofs.Tryz
namespace Go.Proofs.YtlmkgaoakcjlnaaGreatDoor
set_option maxHeartbeats 25600000
set_option maxRecDepth 100000
open Go.RowKit
variable (T:aj)(t:TV)(s:List Int)(w:World)
def aWl(wo:World)(x:List Int)(g:Nat)(s13 s66:Value)(wx:World):Prop:=
 ∃j:Nat,g+j=x.length/\s66=.int .i64 j/\s13=.string (sB (x.take j))/\Ext wo wx
theorem Jg(ht:aW w t T)(hs:IsB s):Calls prog 21 #[t.v,.string (sB s)] w (Gj w (cO T s)):=by
 have aE:=dG w t;have r:=ah aE;have HT:=ah (ht.aC aE);have HC:=ah (Zw t T (tW' w t) HT.out)
 have HD:Hid (cO T s=if dw T=false then([],0,2)else if s.length=0 then([],0,10)else if(gG s).2.2≠0 then([],(gG s).2.1,(gG s).2.2)
  else if jV T (gG s).1≠0 then([],rC T (gG s).1,jV T (gG s).1)else if fC T (lW T (gG s).1)≠0 then([],0,fC T (lW T (gG s).1))
  else uG T (lV (l9 T (lW T (gG s).1)))):=rfl
 generalize cO T s=D at*;by_cases hw:dw T=false
 .have p:=ah (HD.out.trans (pP' hw));have J:(nP T != 0)=true:=by rw[bne_iff_ne];exact λh=>by have:=(D6 T).1 h;rw[hw]at this;cases this
  go_enter func21,ntmps21;go_wp2_with fail;refine HC.out.mono ?_;rintro e w1⟨rfl,W⟩;have G:=r.out.trans' W;go_wp2;go_ret3;exact⟨none,0,0,by rw[p.out];rfl,by rw[p.out];exact sJ _,G⟩
 have aM:=ah (HD.out.trans (nN' hw));rw[(D6 T).2 (by cases h:dw T;exact absurd h hw;rfl)]at HC;have HW:Hid (dw T=true):=ah (by cases h:dw T;exact absurd h hw;rfl);have aR:=xU s;by_cases h0:s.length=0
 .have p:=ah (aM.out.trans (pP' h0));rw[List.eq_nil_of_length_eq_zero h0,show([]:List Int).isEmpty=true from rfl]at aR;rw[List.eq_nil_of_length_eq_zero h0];go_enter func21,ntmps21;go_wp2_with fail;refine HC.out.mono ?_;rintro e w1⟨rfl,W⟩;have G:=r.out.trans' W;go_wp2;go_ret3;exact⟨none,0,0,by rw[p.out];rfl,by rw[p.out];exact sJ _,G⟩
 have ag:=ah (aM.out.trans (nN' h0));rw[show s.isEmpty=false from by cases s with|nil=>exact absurd rfl h0|cons a b=>rfl]at aR;have HU:Hid (∀w':World,Calls prog 56 #[.string (sB s)] w' (Je w' (gG s))):=ah λw'=>a9s s hs w'
 generalize gG s=V at*;obtain⟨l,di,de⟩:=V;simp only[]at ag;go_enter func21,ntmps21;go_wp2_with fail;refine HC.out.mono ?_;rintro e w1⟨rfl,W⟩;have bq:=ah W;go_wp2_with fail;refine(HU.out w1).mono ?_;rintro e w2⟨A,n,c,rfl,br,F⟩;have a5:=ah (bq.out.trans' F);have b1:=ah br;have bs:=r.out.trans' a5.out;simp only[]at b1;by_cases f:de=0
 case neg=>
  have p:=ah (ag.out.trans (pP' f));have J:(de != 0)=true:=bN' f;go_wp2;go_ret3;exact⟨none,0,0,by rw[p.out];rfl,by rw[p.out];exact sJ _,bs⟩
 have b3:=ah (ag.out.trans (nN' (by rw[f];simp)));have J:(de != 0)=false:=bZ' f;have rT:=bT' t a5.out;go_wp2_with fail;refine(aPb T t l A n c w2 (HT.out.aC a5.out) b1.out).mono ?_;rintro e w3⟨A3,n3,c3,rfl,K,a6⟩;have a7:=ah (a5.out.trans' K);have bt:=ah a6;have bu:=r.out.trans' a7.out;generalize jV T l=me at*;generalize rC T l=mi at*;generalize lW T l=ml at*;by_cases f:me=0
 case neg=>
  have p:=ah (b3.out.trans (pP' f));have J:(me != 0)=true:=bN' f;go_wp2;go_ret3;exact⟨none,0,0,by rw[p.out];rfl,by rw[p.out];exact sJ _,bu⟩
 have b5:=ah (b3.out.trans (nN' (by rw[f];simp)));have J:(me != 0)=false:=bZ' f;have rT:=bT' t a7.out;go_wp2_with fail;refine(Qk T t ml A3 n3 c3 w3 (HT.out.aC a7.out) bt.out).mono ?_;rintro e w4⟨A4,n4,c4,rfl,bv,bw⟩;have al:=ah (a7.out.trans' bv);have bx:=ah bw
 have bz:Hid (fC T ml=0->(l9 T ml).length<=4096):=ah (λh=>by
  have h2:=(Bz h).2;have h3:=JX (T:=T) ml;rw[l9,pP' h]
  omega)
 have bA:=r.out.trans' al.out;generalize fC T ml=ne at*;generalize l9 T ml=nl at*;by_cases f:ne=0
 case neg=>
  have p:=ah (b5.out.trans (pP' f));have J:(ne != 0)=true:=bN' f;go_wp2;go_ret3;exact⟨none,0,0,by rw[p.out];rfl,by rw[p.out];exact sJ _,bA⟩
 have X:=ah (b5.out.trans (nN' (by rw[f];simp)));have J:(ne != 0)=false:=bZ' f;have zM:=ah (bz.out f);go_wp2_with fail;refine(aMq nl A4 n4 c4 w4 bx.out (by have:=zM.out;omega)).mono ?_;rintro e w5⟨A5,N,C,rfl,bB,b6⟩;obtain⟨g,S5,rfl,b7⟩:=bB.lsp b6;have bD:=ah (al.out.trans' b6);have bE:=ah b7;have bH:Hid ((lV nl).length<=5000):=ah (by have:=P6 nl;have:=zM.out;omega);have bL:Hid (∀x∈lV nl,x.length<=4096):=ah (λx G=>by have:=Y2 G;have:=zM.out;omega);have bM:(lV nl).length=N:=b7.len;generalize lV nl=L at*;have ca:N<=5000:=by have:=bH.out;omega
 have a8:=ah bM;go_wp2;go_loopg[57] N (λgh bN wx=>PrL T w4 (tW' w t) g N C L gh bN wx);exact⟨0,S5,L,by omega,rfl,bE,ah rfl,ah rfl,ah rfl,bD⟩;obtain⟨k,S,M,cb,rfl,HP,b8,b9,H,HB⟩:=hrel;by_cases hk:k<N
 .obtain⟨am,rfl⟩:=gS' gk;have Y:k<L.length:=by have:=a8.out;omega
  have an:k<M.length:=by have:=HP.out.len;omega
  have bb:M[k]=L[k]:=by
   have f:=b9.out;rw[drop_at M k an,drop_at L k Y]at f;exact(List.cons.inj f).1
  have bO:M.drop (k+1)=L.drop (k+1):=by
   have f:=b9.out;rw[drop_at M k an,drop_at L k Y]at f;exact(List.cons.inj f).2
  have bP:M.length=L.length:=by have:=HP.out.len;have:=a8.out;omega
  obtain⟨b,o,za,zn,zc,hA,ao,hz⟩:=HP.out.lists.at_ an;injection hA with hA;injection hA with bR ap;subst bR ap;rw[bb]at hz;rw[Nat.zero_add]at ao;have O:=ah (Y5 (T:=T) Y);have aq:=ah (bL.out _ (gM' Y));have HZ:=ah hz;have ar:Hid (∀y,y=(fD T L[k]).1->(M.set k y).take (k+1)=(L.take (k+1)).map λl=>(fD T l).1):=ah (λy hy=>by rw[hy];exact Y4 (λl=>(fD T l).1) L M bP k Y b8.out);have av:Hid (∀y,(M.set k y).drop (k+1)=L.drop (k+1)):=ah (λy=>by rw[List.drop_set_of_lt (by omega)];exact bO);have bd:Hid (M.set k L[k]=M):=ah (by rw[<- bb];exact List.set_getElem_self _);generalize L[k]=x at*;have cc:=z0' k;have cd:(k:Int)<(N:Int):=by omega
  have bS:=HZ.out.len.1;subst bS;have aa:=ah (Ox x za x.length zc wr HZ.out);have be:Hid (fD T x=if(mV x).2≠0 then([],(mV x).2)else if iE T (mV x).1≠0 then([],iE T (mV x).1)else((mV x).1,0)):=rfl;have P:Hid (mV x=if(jI x&&isX x)=true then alD x else(x,0)):=rfl;have bf:Hid (mV x=(x,0)->fD T x=if iE T x≠0 then([],iE T x)else(x,0)):=ah (λh=>by rw[be.out,h];exact nN' (by simp));generalize ce:fD T x=Dx at*;cases ab:jI x
  .rw[ab]at aa P;have I:=ah (bf.out P.out);have bh:=ao;have Z:=HZ;have a0:=HP;have U:=HB;have Q:Hid (M=M.set k x):=ah bd.out.symm;go_wp2_with fail;refine aa.out.mono ?_;rintro e w0⟨rfl,rfl⟩;have rT:∀j:Nat,wr.cell? ⟨w.heap.size,j,none⟩=t.v.cells[j]? :=aQ U.out;go_wp2_with fail;go_region_law((go_simp;go_at_call 63;refine(Ql T t x za x.length zc _ (HT.out.aC (U.out.trans' eR'.dJ)) (Z.out.ext eR'.dJ)).mono ?_;rintro e w6⟨rfl,q⟩;have eP:Hid (Ext wr w6):=ah (eR'.dJ.trans' q);clear q))
   all_goals
    have a1:=ah (a0.out.aC eP.out);have su:=ah (U.out.trans' eP.out);generalize iE T x=ev at*;by_cases f:ev=0
    .have J:(ev != 0)=false:=bZ' f;have i:Dx=(x,0):=I.out.trans (nN' (by rw[f];simp));have a2:Hid (lF T ((k+1:Nat):Int) (L.drop (k+1))=lF T 0 L):=ah (by rw[<- H.out,O.out,i];exact(nN' (by simp)).symm);have a3:Hid (M.take (k+1)=(L.take (k+1)).map λl=>(fD T l).1):=ah (by rw[Q.out];exact ar.out x (by rw[i]));have a4:Hid (M.drop (k+1)=L.drop (k+1)):=ah (by rw[Q.out];exact av.out x);go_wp2;go_roundg am;exact⟨k+1,S,M,by omega,by go_num,a1,a3,a4,a2,su⟩;omega
    .have J:(ev != 0)=true:=bN' f;have i:Dx=([],ev):=I.out.trans (pP' f);have p:Hid (D=([],((k:Int),ev))):=ah (X.out.trans (zN (by rw[<- H.out,O.out,i];exact pP' f)));have G:=r.out.trans' su.out;go_wp2;go_ret3;exact⟨none,0,0,by rw[p.out];rfl,by rw[p.out];exact sJ _,G⟩
  .rw[ab]at aa P;have bW:=ah (FV ab);have bi:=ah (OX ab);go_wp2_with fail;refine aa.out.mono ?_;rintro e w0⟨rfl,rfl⟩;generalize wr=wo at*;go_wp2;go_loopg[13,66] x.length (λgh bX bZ wx=>aWl wo x gh bX bZ wx);exact⟨0,by omega,rfl,rfl,eR'⟩;obtain⟨j,hg,rfl,rfl,hb⟩:=hrel;have R:=ah hb;by_cases hj:j<x.length
   .obtain⟨b2,o2,ap,cf⟩:=(HZ.out.ext R.out).at_ hj;subst ap;have hr:=bW.out _ (gM' hj);have c0:Hid (x.take j++[x[j]]=x.take (j+1)):=ah (tS' hj).symm;have cg:(x.take j).length<=4096:=(by rw[List.length_take];have:=aq.out;omega);have ch:x.length<=4096:=aq.out;have c1:∀cs,Ext wo (wr.alloc (.cells cs 5)):=λcs=>R.out.aB _
    generalize x[j]=xj at*;have bj:=zH wr #[.int .u8 xj] [xj] 1 rfl rfl (by omega);have ci:[xj].length<=1:=lr' _;generalize[xj]=E at*;generalize x.take j=S0 at*;go_wp2;go_roundg (x.length-(j+1));exact⟨j+1,by omega,by go_num,by rw[c0.out],c1 _⟩;omega
   .have he:x.take j=x:=tL' (by omega);rw[he];have ac:=ah (Wi x bi.out wr);have bk:=bI (bK R.out) ao;have c2:=ah (HZ.out.ext R.out);have bl:=ah (HP.out.aC R.out);have pq:=ah (HB.out.trans' R.out);cases bm:isX x
    .rw[bm]at ac P;have I:=ah (bf.out P.out);go_wp2_with fail;refine ac.out.mono ?_;rintro e w2⟨rfl,F⟩;have bh:=bI (bK F) bk;have Z:=ah (c2.out.ext F);have a0:=ah (bl.out.aC F);have U:=ah (pq.out.trans' F);have Q:Hid (M=M.set k x):=ah bd.out.symm;have rT:∀j:Nat,w2.cell? ⟨w.heap.size,j,none⟩=t.v.cells[j]? :=aQ U.out;go_wp2_with fail;go_region_law((go_simp;go_at_call 63;refine(Ql T t x za x.length zc _ (HT.out.aC (U.out.trans' eR'.dJ)) (Z.out.ext eR'.dJ)).mono ?_;rintro e w6⟨rfl,q⟩;have eP:Hid (Ext w2 w6):=ah (eR'.dJ.trans' q);clear q))
     all_goals
      have a1:=ah (a0.out.aC eP.out);have su:=ah (U.out.trans' eP.out);generalize iE T x=ev at*;by_cases f:ev=0
      .have J:(ev != 0)=false:=bZ' f;have i:Dx=(x,0):=I.out.trans (nN' (by rw[f];simp));have a2:Hid (lF T ((k+1:Nat):Int) (L.drop (k+1))=lF T 0 L):=ah (by rw[<- H.out,O.out,i];exact(nN' (by simp)).symm);have a3:Hid (M.take (k+1)=(L.take (k+1)).map λl=>(fD T l).1):=ah (by rw[Q.out];exact ar.out x (by rw[i]));have a4:Hid (M.drop (k+1)=L.drop (k+1)):=ah (by rw[Q.out];exact av.out x);go_wp2;go_roundg am;exact⟨k+1,S,M,by omega,by go_num,a1,a3,a4,a2,su⟩;omega
      .have J:(ev != 0)=true:=bN' f;have i:Dx=([],ev):=I.out.trans (pP' f);have p:Hid (D=([],((k:Int),ev))):=ah (X.out.trans (zN (by rw[<- H.out,O.out,i];exact pP' f)));have G:=r.out.trans' su.out;go_wp2;go_ret3;exact⟨none,0,0,by rw[p.out];rfl,by rw[p.out];exact sJ _,G⟩
    .rw[bm]at ac P;have HE:Hid (mV x=alD x):=P;have aw:Hid (Dx=if(alD x).2≠0 then([],(alD x).2)else if iE T (alD x).1≠0 then([],iE T (alD x).1)else((alD x).1,0)):=ah (by rw[<- HE.out];exact be.out);go_wp2_with fail;refine ac.out.mono ?_;rintro e w2⟨rfl,F⟩;have c5:=ah (aMh x bi.out (by have:=aq.out;omega) w2);have bj:=bI (bK F) bk;have ax:=ah (bl.out.aC F);have c6:=ah (pq.out.trans' F);generalize alD x=AD at*;obtain⟨y,ya⟩:=AD;simp only[]at aw;go_wp2_with fail;refine c5.out.mono ?_;rintro e w3⟨B,m,d,rfl,a6,K⟩;have cj:w3.frozen? ⟨g,k,none⟩=false:=World.ownsRow.frozenAt (ax.out.aC K).own k;have bn:=bI (bK K) bj;have a0:=ah ((ax.out.aC K).set hk (z:=⟨B,m,d⟩) (x:=y) a6);have U:Hid (Ext (tW' w t) (w3.setCell ⟨g,k,none⟩ (.slice B m d))):=ah ((c6.out.trans' K).lI (Nat.le_trans al.out.b.size (Own.lt (ax.out.aC K).own g rfl).1) _);have bh:(w3.setCell ⟨g,k,none⟩ (.slice B m d)).cell? ⟨g,k,none⟩=some (.slice B m d):=World.cell?_setCell_same _ _ _ bn;have Z:Hid (aF (w3.setCell ⟨g,k,none⟩ (.slice B m d)) ⟨B,m,d⟩ y):=ah (a6.P7 (z:=⟨za,x.length,zc⟩) bn _);by_cases f:ya=0
     .have J:(ya != 0)=false:=bZ' f;have I:Hid (Dx=if iE T y≠0 then([],iE T y)else(y,0)):=ah (aw.out.trans (nN' (by rw[f];simp)));have Q:Hid True:=ah trivial;go_wp2_with fail;generalize w3.setCell ⟨g,k,none⟩ (.slice B m d)=wz at*;have rT:∀j:Nat,wz.cell? ⟨w.heap.size,j,none⟩=t.v.cells[j]? :=aQ U.out;go_wp2_with fail;go_region_law((go_simp;go_at_call 63;refine(Ql T t y B m d _ (HT.out.aC (U.out.trans' eR'.dJ)) (Z.out.ext eR'.dJ)).mono ?_;rintro e w6⟨rfl,q⟩;have eP:Hid (Ext wz w6):=ah (eR'.dJ.trans' q);clear q))
      all_goals
       have a1:=ah (a0.out.aC eP.out);have su:=ah (U.out.trans' eP.out);generalize iE T y=ev at*;by_cases f:ev=0
       .have J:(ev != 0)=false:=bZ' f;have i:Dx=(y,0):=I.out.trans (nN' (by rw[f];simp));have a2:Hid (lF T ((k+1:Nat):Int) (L.drop (k+1))=lF T 0 L):=ah (by rw[<- H.out,O.out,i];exact(nN' (by simp)).symm);have a3:Hid ((M.set k y).take (k+1)=(L.take (k+1)).map λl=>(fD T l).1):=ah (by exact ar.out y (by rw[i]));have a4:Hid ((M.set k y).drop (k+1)=L.drop (k+1)):=ah (by exact av.out y);go_wp2;go_roundg am;exact⟨k+1,(S.set k ⟨B,m,d⟩),(M.set k y),by omega,by go_num,a1,a3,a4,a2,su⟩;omega
       .have J:(ev != 0)=true:=bN' f;have i:Dx=([],ev):=I.out.trans (pP' f);have p:Hid (D=([],((k:Int),ev))):=ah (X.out.trans (zN (by rw[<- H.out,O.out,i];exact pP' f)));have G:=r.out.trans' su.out;go_wp2;go_ret3;exact⟨none,0,0,by rw[p.out];rfl,by rw[p.out];exact sJ _,G⟩
     .have J:(ya != 0)=true:=bN' f;have i:Dx=([],ya):=aw.out.trans (pP' f);have p:Hid (D=([],((k:Int),ya))):=ah (X.out.trans (zN (by rw[<- H.out,O.out,i];exact pP' f)));have G:=r.out.trans' U.out;go_wp2;go_ret3;exact⟨none,0,0,by rw[p.out];rfl,by rw[p.out];exact sJ _,G⟩
 .have c7:k=N:=by omega
  subst c7
  have bo:Hid (M=L.map λl=>(fD T l).1):=ah (by
   have f:=b8.out;have h2:=a8.out;have h3:=HP.out.len
   rwa[tL' (by omega),tL' (by omega)]at f)
  have bp:Hid (lF T 0 L=none):=ah (by
   have h2:=a8.out;rw[<- H.out,List.drop_of_length_le (by omega)]
   rfl)
  have Fj:Hid (∀l∈M,aX T l=0):=ah (λl hl=>by
   rw[bo.out,List.mem_map]at hl;obtain⟨x,G,rfl⟩:=hl
   exact G8 (P8 (Jf bp.out x G)))
  have ay:=ah (X.out.trans (CW bp.out));rw[<- bo.out]at ay;have c8:=ah (aQj T t M _ _ _ wr (HT.out.aC HB.out) HP.out.lists HW.out Fj.out (by have:=HP.out.len;omega));have rT:=bT' t HB.out;go_wp2_with fail;refine c8.out.mono ?_;rintro e w6⟨rfl,q⟩;have c9:=ah (HP.out.aC q);have G:=r.out.trans' (HB.out.trans' q);generalize wQ T M=dmi at*;generalize sH T M=dme at*;by_cases f:dme=0
  .have J:(dme != 0)=false:=bZ' f;have p:=ah (ay.out.trans (nN' (by rw[f];simp)));go_wp2;go_ret3;exact⟨_,_,_,by rw[p.out];rfl,by rw[p.out];exact c9.out.lists,G⟩
  .have J:(dme != 0)=true:=bN' f;have p:=ah (ay.out.trans (pP' f));go_wp2;go_ret3;exact⟨none,0,0,by rw[p.out];rfl,by rw[p.out];exact sJ _,G⟩
def rE:Nm:=([],[],[])
abbrev nmV(p:Nm):Value:=.agg #[.string (sB p.1),.string (sB p.2.1),.string (sB p.2.2)]
abbrev kP:Array Value:= #[.string ⟨#[]⟩,.string ⟨#[]⟩,.string ⟨#[]⟩]
noncomputable def wS(T:aj)(s l:List Int):Nm×Int:=if 4<uQ T l then(rE,20)else if(jJ T l).2≠0 then(rE,(jJ T l).2)else if(jJ T l).1.length=0 then(rE,10)else(((eU T s).1,(uniD T s).1,(jJ T l).1),0)
noncomputable def gZ(T:aj)(s:List Int):Nm×Int:=if(eU T s).2.2≠0 then(rE,(eU T s).2.2)else if(cO T s).1.length≠1 then(rE,21)else wS T s ((cO T s).1.getD 0 [])
def JA(w:World)(d:Nm×Int)(e:Ending)(w':World):Prop:=e=.returned (.tuple #[nmV d.1,.int .i64 d.2])/\Ext w w'
theorem JB{w w':World}{A:Obj}{a:Array Value}{ty:TypeId}(h:Ext ((w.alloc A).alloc (.cells a ty)) w'):w'.heap[w.heap.size+1]? =some (.cells a ty (0,0)):=
 (h.b.block _ (by simp)).trans (heap_alloc2_new w _ _)
theorem og{w w':World}{g:Nat}(h:Ext w w')(d:w.heap.size<=g)(c:Array Value):Ext w (w'.setRow g c):=
 dZ (row:=some g) h ⟨rfl,rfl,rfl,by simp[World.setRow],λk a b=>setRow_other _ _ _ _ λe=>b (by rw[e])⟩ (λk a=>by injection a with a;omega)
theorem results_cell_row_tmp{c:Func}{p u:Tmp}{ty:TypeId}(h:c.results= #[.cell p ty,.tmp u])(a:Array Value)(w:World)(g:Nat)(t:TypeId)(b:Array Value)(d:Nat×Nat){fs}
 (f:a.getD p undef=.pointer (some ⟨g,0,none⟩)) (i:w.heap[g]? =some (.cells b t d))
 (j:prog.underlying ty=some (.struct fs)) (k:(prog.info? ty).map (·.size)=some b.size):
 (results c a).run prog w=.ok (.tuple #[.agg b,a.getD u undef]) w:=by
 rw[results_cell_tmp h,f];simp[asAddr,Result.andThen,run_loadVar_row w g t ty b d (.struct fs) i j rfl k]
theorem oK(a b c:ByteArray):(#[.string a,.string b,.string c]:Array Value).all (·.oneCell')=true:=by simp[Value.oneCell']
theorem YV(ht:aW w t T)(hs:IsB s):Calls prog 14 #[t.v,.string (sB s)] w (JA w (gZ T s)):=by
 obtain⟨I,y⟩:=eX' ((w.alloc (.cells #[.slice t.s0.a t.s0.n t.s0.c,.slice t.s1.a t.s1.n t.s1.c,.slice t.s2.a t.s2.n t.s2.c,.slice t.s3.a t.s3.n t.s3.c,.slice t.s4.a t.s4.n t.s4.c,.slice t.s5.a t.s5.n t.s5.c,.slice t.s6.a t.s6.n t.s6.c,.slice t.s7.a t.s7.n t.s7.c,.slice t.s8.a t.s8.n t.s8.c,.slice t.s9.a t.s9.n t.s9.c,.slice t.s10.a t.s10.n t.s10.c,.slice t.s11.a t.s11.n t.s11.c] 26)).alloc (.cells kP 32));have K:Ext w I:=by rw[y];exact(eR'.aB _).aB _
 have j:=ah K;have HT:=ah (ht.aC K);have M:Hid (∀f,Ext I f->∀k:Nat,f.cell? ⟨w.heap.size,k,none⟩=t.v.cells[k]?):=ah (λf h=>aQ ((eR'.aB _).trans' (by rw[y]at h;exact h)));have g:Hid (∀f,Ext I f->f.heap[w.heap.size+1]? =some (.cells kP 32 (0,0))):=ah (λf h=>JB (by rw[y]at h;exact h));have C1:Hid (∀f,Ext I f->Calls prog 44 #[t.v,.string (sB s)] f (AV f (eU T s))):=ah (λf h=>aSS T t s f (HT.out.aC h) hs);have C2:Hid (∀f,Ext I f->Calls prog 45 #[t.v,.string (sB s)] f (AV f (uniD T s))):=ah (λf h=>aSW T t s f (HT.out.aC h) hs);have C3:Hid (∀f,Ext I f->Calls prog 46 #[t.v,.string (sB s)] f (Gj f (cO T s))):=ah (λf h=>Y3 T t s f (HT.out.aC h) hs);have HD:Hid (gZ T s=if(eU T s).2.2≠0 then(rE,(eU T s).2.2)else if(cO T s).1.length≠1 then(rE,21)else wS T s ((cO T s).1.getD 0 [])):=rfl;have gB:Hid (∀l,wS T s l=if 4<uQ T l then(rE,20)else if(jJ T l).2≠0 then(rE,(jJ T l).2)else if(jJ T l).1.length=0 then(rE,10)else(((eU T s).1,(uniD T s).1,(jJ T l).1),0)):=ah λ_=>rfl
 have HU:Hid ((eU T s).2.2=0->(uniD T s).2.2=0):=ah λh=>by rw[(uni_ok h).2]
 have HP:Hid ((eU T s).2.2=0->(cO T s).2.2=0/\∀l∈(cO T s).1,aX T l=0):=ah λh=>by
  have N:(cO T s).2.2=0:=by
   unfold eU at h;split at h
   .exact absurd h ‹_›
   .exact Decidable.not_not.1 ‹_›
  exact⟨N,λl hl=>G8 ((AU N).2 l hl).1⟩
 generalize wS T s=CL at*;generalize gZ T s=D at*;generalize eU T s=DA at*;generalize uniD T s=JZ at*;generalize cO T s=DP at*;obtain⟨a,ai,ae⟩:=DA;obtain⟨u,ui,ue⟩:=JZ;obtain⟨L,pi,pe⟩:=DP;simp only[]at HD gB HU HP;clear ht hs K;go_enter func14,ntmps14;go_wp2_with fail;rw[<- y];refine(C1.out _ eR').mono ?_;rintro e w1⟨rfl,a4⟩;have q:=ah (a4);have mO:=M.out _ q.out;clear a4 y;by_cases J:ae=0
 case neg=>
  have e0:(ae != 0)=true:=bN' J;have B:=ah (HD.out.trans (pP' J));clear J HD gB HU HP C2 C3;go_wp2_with(refine wpList_store_row rfl _ _ _ rfl (w.heap.size+1) _ rfl rfl 32 kP (g.out _ q.out) (by kernel_rfl) rfl (oK _ _ _) ?_)
  (try simp only[Exit.inBlock,Exit.then])
  refine bodyPost_ret (results_cell_row_tmp (p:=4) (u:=5) (ty:=32) (by kernel_rfl) _ _ (w.heap.size+1) 32 _ (0,0) (by first|rfl|simp[Act.put]) (setRow_heap _ _ _ _ _ _ (g.out _ q.out)) underlying32 (by kernel_rfl)) rfl ?_;exact⟨by rw[B.out];rfl,og (j.out.trans' q.out) (Nat.le_succ _) _⟩
 have O:=ah (HD.out.trans (nN' (by rw[J];simp)));have aq:=ah (HU.out J);have P:=ah (HP.out J);have e0:(ae != 0)=false:=bZ' J;clear J HD HU HP;have eu:(ue != 0)=false:=by rw[aq.out];rfl
 go_wp2_with fail;refine(C2.out _ q.out).mono ?_;rintro e w2⟨rfl,a5⟩;have Q:=ah (q.out.trans' a5);have gy:=M.out _ Q.out;clear a5 mO;have ep:(pe != 0)=false:=by rw[P.out.1];rfl
 go_wp2_with fail;refine(C3.out _ Q.out).mono ?_;rintro e w3⟨A,m,d,rfl,hl,a6⟩;have i:=ah (Q.out.trans' a6);have iH:=M.out _ i.out;clear a6 gy;have HL:=ah hl;have hm:=hl.len.1;simp only[]at hm HL;clear hl;by_cases N:L.length=1
 case neg=>
  have B:=ah (O.out.trans (pP' N));have e1:(((m:Nat):Int) != 1)=true:=by rw[bne_iff_ne];omega
  have av:(m != 1)=true:=by rw[bne_iff_ne];omega
  clear N O gB;go_wp2_with(refine wpList_store_row rfl _ _ _ rfl (w.heap.size+1) _ rfl rfl 32 kP (g.out _ i.out) (by kernel_rfl) rfl (oK _ _ _) ?_)
  (try simp only[Exit.inBlock,Exit.then])
  refine bodyPost_ret (results_cell_row_tmp (p:=4) (u:=5) (ty:=32) (by kernel_rfl) _ _ (w.heap.size+1) 32 _ (0,0) (by first|rfl|simp[Act.put]) (setRow_heap _ _ _ _ _ _ (g.out _ i.out)) underlying32 (by kernel_rfl)) rfl ?_;exact⟨by rw[B.out];rfl,og (j.out.trans' i.out) (Nat.le_succ _) _⟩
 have a7:=ah (O.out.trans (nN' (by rw[N];simp)));have e1:(((m:Nat):Int) != 1)=false:=by rw[show m=1 by omega];rfl
 have av:(m != 1)=false:=by rw[show m=1 by omega];rfl
 obtain⟨b,o,R,S,U,rfl,a8,hz⟩:=HL.out.at_ (show 0<L.length by omega);have V:=ah (P.out.2 _ (gM' (show 0<L.length by omega)));have W:=ah (gB.out (L[0]'(by omega)));have a9:Hid (D=CL (L[0]'(by omega))):=ah (by rw[a7.out,getD_lt L 0 [] (by omega)]);have HZ:=ah hz;have CQ:=ah a8;have ax:m=1:=by omega
 clear hz P gB a7 a8;generalize L[0]'(by omega)=x at*;subst ax;clear N hm HL;have aa:Hid (rG T x=uQ T x):=ah (by rw[rG,pP' V.out])
 have ab:Hid (∀f,Ext w3 f->cE' 47 #[t.v,.slice R S U] f (.tuple #[.int .i64 (uQ T x),.int .i64 0])):=ah (λf h=>by
  have h':=nP' t T x R S U f (HT.out.aC (i.out.trans' h)) (HZ.out.ext h)
  rwa[aa.out,V.out]at h')
 have HK:Hid (∀f,Ext w3 f->cE' 48 #[t.v,.slice R S U] f (.tuple #[.string (sB (jJ T x).1),.int .i64 (jJ T x).2])):=ah (λf h=>aYd T t x R S U f (HT.out.aC (i.out.trans' h)) (HZ.out.ext h));generalize uQ T x=lv at*;generalize jJ T x=kd at*;obtain⟨k,ke⟩:=kd;simp only[]at W HK;have F:=ah (a9.out.trans W.out);have rL:∀z:ak w3,∀p:Nat,z.w.cell? ⟨w.heap.size,p,none⟩=t.v.cells[p]? :=λz=>M.out _ (i.out.trans' z.h)
 have cL:∀z:ak w3,z.w.cell? ⟨b,o,none⟩=some (.slice R S U):=dA CQ.out;clear a9 W aa V HZ iH;go_wp2_with fail;refine rX' ?_
 repeat(go_big_quiet_step(first|(go_at_call 47;with_reducible exact aS (ab.out _ (ak.h _)))))
 refine wpQuiet_nil ?_;rintro _⟨v,rfl⟩;have r:=ah (i.out.trans' v.h);have ac:=ah v.h;have dH:=M.out _ r.out;clear rL cL ab;generalize v.w=v1 at*;clear v;by_cases Y:4<lv
 .have d2:decide (4<lv)=true:=dt' Y;have B:=ah (F.out.trans (pP' Y));clear Y F;go_wp2_with(refine wpList_store_row rfl _ _ _ rfl (w.heap.size+1) _ rfl rfl 32 kP (g.out _ r.out) (by kernel_rfl) rfl (oK _ _ _) ?_)
  (try simp only[Exit.inBlock,Exit.then])
  refine bodyPost_ret (results_cell_row_tmp (p:=4) (u:=5) (ty:=32) (by kernel_rfl) _ _ (w.heap.size+1) 32 _ (0,0) (by first|rfl|simp[Act.put]) (setRow_heap _ _ _ _ _ _ (g.out _ r.out)) underlying32 (by kernel_rfl)) rfl ?_;exact⟨by rw[B.out];rfl,og (j.out.trans' r.out) (Nat.le_succ _) _⟩
 have G:=ah (F.out.trans (nN' Y));have d2:decide (4<lv)=false:=df' Y;have rL:∀z:ak v1,∀p:Nat,z.w.cell? ⟨w.heap.size,p,none⟩=t.v.cells[p]? :=λz=>M.out _ (r.out.trans' z.h)
 have cL:∀z:ak v1,z.w.cell? ⟨b,o,none⟩=some (.slice R S U):=dA (bI (bK ac.out) CQ.out);have ad:Hid (∀f,Ext v1 f->cE' 48 #[t.v,.slice R S U] f (.tuple #[.string (sB k),.int .i64 ke])):=ah (λf h=>HK.out f (ac.out.trans' h));clear Y F dH HK;go_wp2_with fail;refine rX' ?_
 repeat(go_big_quiet_step(first|(go_at_call 48;with_reducible exact aS (ad.out _ (ak.h _)))))
 refine wpQuiet_nil ?_;rintro _⟨v,rfl⟩;have E:=ah (r.out.trans' v.h);have rK:=M.out _ E.out;clear rL cL ad;generalize v.w=v2 at*;clear v;by_cases Z:ke=0
 case neg=>
  have e3:(ke != 0)=true:=bN' Z;have B:=ah (G.out.trans (pP' Z));clear Z G;go_wp2_with(refine wpList_store_row rfl _ _ _ rfl (w.heap.size+1) _ rfl rfl 32 kP (g.out _ E.out) (by kernel_rfl) rfl (oK _ _ _) ?_)
  (try simp only[Exit.inBlock,Exit.then])
  refine bodyPost_ret (results_cell_row_tmp (p:=4) (u:=5) (ty:=32) (by kernel_rfl) _ _ (w.heap.size+1) 32 _ (0,0) (by first|rfl|simp[Act.put]) (setRow_heap _ _ _ _ _ _ (g.out _ E.out)) underlying32 (by kernel_rfl)) rfl ?_;exact⟨by rw[B.out];rfl,og (j.out.trans' E.out) (Nat.le_succ _) _⟩
 have e3:(ke != 0)=false:=bZ' Z;have H:=ah (G.out.trans (nN' (by rw[Z];simp)));have af:=xU k;clear Z G;by_cases X:k.length=0
 .have B:=ah (H.out.trans (pP' X));rw[List.eq_nil_of_length_eq_zero X,show([]:List Int).isEmpty=true from rfl]at af;rw[List.eq_nil_of_length_eq_zero X];clear X H;go_wp2_with(refine wpList_store_row rfl _ _ _ rfl (w.heap.size+1) _ rfl rfl 32 kP (g.out _ E.out) (by kernel_rfl) rfl (oK _ _ _) ?_)
  (try simp only[Exit.inBlock,Exit.then])
  refine bodyPost_ret (results_cell_row_tmp (p:=4) (u:=5) (ty:=32) (by kernel_rfl) _ _ (w.heap.size+1) 32 _ (0,0) (by first|rfl|simp[Act.put]) (setRow_heap _ _ _ _ _ _ (g.out _ E.out)) underlying32 (by kernel_rfl)) rfl ?_;exact⟨by rw[B.out];rfl,og (j.out.trans' E.out) (Nat.le_succ _) _⟩
 have B:=ah (H.out.trans (nN' X));rw[show k.isEmpty=false from by cases k with|nil=>exact absurd rfl X|cons a b=>rfl]at af;clear X H;go_wp2_with(refine wpList_store_row rfl _ _ _ rfl (w.heap.size+1) _ rfl rfl 32 kP (g.out _ E.out) (by kernel_rfl) rfl (oK _ _ _) ?_)
 (try simp only[Exit.inBlock,Exit.then])
 refine bodyPost_ret (results_cell_row_tmp (p:=4) (u:=5) (ty:=32) (by kernel_rfl) _ _ (w.heap.size+1) 32 _ (0,0) (by first|rfl|simp[Act.put]) (setRow_heap _ _ _ _ _ _ (g.out _ E.out)) underlying32 (by kernel_rfl)) rfl ?_;exact⟨by rw[B.out];rfl,og (j.out.trans' E.out) (Nat.le_succ _) _⟩
abbrev PW(d:Int×Int×List Int):Value:=.agg #[.int .i64 d.1,.int .i64 d.2.1,.string (sB d.2.2),.int .i64 0,.int .i64 0,.string ⟨#[]⟩,.int .i64 0,.int .i64 0]
abbrev iF:Array Value:= #[.int .i64 0,.int .i64 0,.string ⟨#[]⟩,.int .i64 0,.int .i64 0,.string ⟨#[]⟩,.int .i64 0,.int .i64 0]
theorem vg(a b c d e f:Int)(s t:ByteArray):(#[.int .i64 a,.int .i64 b,.string s,.int .i64 c,.int .i64 d,.string t,.int .i64 e,.int .i64 f]:Array Value).all (·.oneCell')=true:=by simp[Value.oneCell']
theorem results_tt_cell{d:Func}{p u v:Tmp}{ty:TypeId}(h:d.results= #[.tmp u,.tmp v,.cell p ty])(a:Array Value)(w:World)(g:Nat)(t:TypeId)(b:Array Value)(f:Nat×Nat){fs}
 (i:a.getD p undef=.pointer (some ⟨g,0,none⟩)) (j:w.heap[g]? =some (.cells b t f))
 (k:prog.underlying ty=some (.struct fs)) (l:(prog.info? ty).map (·.size)=some b.size):
 (results d a).run prog w=.ok (.tuple #[a.getD u undef,a.getD v undef,.agg b]) w:=by
 have c:a[p]?.getD undef=.pointer (some ⟨g,0,none⟩):=by simpa using i
 simp[results,h,c,asAddr,run_loadVar_row w g t ty b f (.struct fs) j k rfl l]
theorem Ef(g:Nat)(b:Array Value):Kp [g] w (w.setRow g b):=
 ⟨rfl,rfl,rfl,by simp[World.setRow],λk _ a=>setRow_other _ _ _ _ λe=>a (by simp[e])⟩
abbrev st8(w:World)(g:Nat)(a b:Int)(s:ByteArray):World:=
 (((((((w.setCell ⟨g,0,none⟩ (.int .i64 a)).setCell ⟨g,1,none⟩ (.int .i64 b)).setCell ⟨g,2,none⟩ (.string s)).setCell ⟨g,3,none⟩ (.int .i64 0)).setCell ⟨g,4,none⟩ (.int .i64 0)).setCell ⟨g,5,none⟩ (.string ⟨#[]⟩)).setCell ⟨g,6,none⟩ (.int .i64 0)).setCell ⟨g,7,none⟩ (.int .i64 0)
theorem Z8{w:World}{g:Nat}{ty:TypeId}(h:w.heap[g]? =some (.cells iF ty (0,0)))(a b:Int)(s:ByteArray):(st8 w g a b s).heap[g]? =some (.cells #[.int .i64 a,.int .i64 b,.string s,.int .i64 0,.int .i64 0,.string ⟨#[]⟩,.int .i64 0,.int .i64 0] ty (0,0)):=by
 obtain⟨c,d,f⟩:=xR (g:=g) [.int .i64 a,.int .i64 b,.string s,.int .i64 0,.int .i64 0,.string ⟨#[]⟩,.int .i64 0,.int .i64 0] 0 iF w h (lr' _);obtain rfl:c= #[.int .i64 a,.int .i64 b,.string s,.int .i64 0,.int .i64 0,.string ⟨#[]⟩,.int .i64 0,.int .i64 0]:=Array.toList_inj.1 f;exact d
theorem Z9{c w:World}{g:Nat}(h:Ext c w)(d:c.heap.size<=g)(a b:Int)(s:ByteArray):Ext c (st8 w g a b s):=
 uF d [.int .i64 a,.int .i64 b,.string s,.int .i64 0,.int .i64 0,.string ⟨#[]⟩,.int .i64 0,.int .i64 0] 0 _ h
noncomputable def qJ(T:aj):Int->List (List Int)->Option (Int×Int)
 |_,[]=>none
 |i,s::r=>if(gZ T s).2≠0 then some (i,(gZ T s).2)else qJ T (i+1) r
noncomputable def fB(T:aj)(R:List (List Int)):List Nm:=R.map λs=>(gZ T s).1
noncomputable def mkE(T:aj)(R:List (List Int)):Int×Int×List Int:=
 if R.length=0 then(10,-1,[])else if 16<R.length then(7,-1,[])else match qJ T 0 R with
 |some q=>(q.2,q.1,[])
 |none=>match qm (fB T R)with
  |some p=>(22,p.2,p.1.1)
  |none=>(0,-1,[])
noncomputable def mkS(T:aj)(R:List (List Int)):List P3:=if(mkE T R).1=0 then bC (fB T R)else[]
theorem Z5{T:aj}{R:List (List Int)}{k:Nat}(a:k<R.length):qJ T k (R.drop k)=if(gZ T R[k]).2≠0 then some ((k:Int),(gZ T R[k]).2)else qJ T ((k+1:Nat):Int) (R.drop (k+1)):=by
 rw[drop_at R k a];rfl
theorem Z4{T:aj}{R:List (List Int)}{k:Nat}(a:k<R.length):fB T (R.take (k+1))=fB T (R.take k)++[(gZ T R[k]).1]:=by
 unfold fB;rw[tS' a,List.map_append];rfl
def Ee(w:World)(d:Int×Int×List Int)(S:List P3)(e:Ending)(w':World):Prop:=∃A n c B m f,e=.returned (.tuple #[.slice A n c,.slice B m f,PW d])/\(∃q,w.heap.size<=q/\mg w' q A n c (S.map Prod.fst)/\aK w' q B m f (S.map λp=>(p.2:Int)))/\Ext w w'
theorem Bf{w w':World}{d:Int×Int×List Int}{T:aj}{R:List (List Int)}(a:mkE T R=d)(b:d.1≠0)(c:Ext w w'){e:Ending}(h:e=.returned (.tuple #[.slice none 0 0,.slice none 0 0,PW d])):Ee w (mkE T R) (mkS T R) e w':=by
 have:mkS T R=[]:=by rw[mkS,nN' (by rw[a];exact b)]
 rw[this,a];exact⟨none,0,0,none,0,0,h,⟨_,lr' _,Own.nil_ _ _ _ _,Own.nil_ _ _ _ _⟩,c⟩
theorem JD(e p:Int)(s:List Int)(w:World):cE' 52 #[.int .i64 e,.int .i64 p,.string (sB s)] w (.tuple #[.slice none 0 0,.slice none 0 0,PW (e,p,s)]):=by
 go_enter func52,ntmps52;go_wp2_with(refine wpList_store_row rfl _ _ _ rfl w.heap.size _ rfl rfl 42 iF (heap_alloc_new w _) (by kernel_rfl) rfl (vg _ _ _ _ _ _ _ _) ?_)
 (try simp only[Exit.inBlock,Exit.then])
 refine bodyPost_ret (results_tt_cell (u:=6) (v:=7) (p:=8) (ty:=42) (by kernel_rfl) _ _ w.heap.size 42 _ (0,0) (by first|rfl|simp[Act.put]) (setRow_heap _ _ _ _ _ _ (heap_alloc_new w _)) underlying42 (by kernel_rfl)) rfl ?_;exact⟨rfl,og (eR'.aB _) (lr' _) _⟩
def MkL(T:aj)(wb:World)(R:List (List Int))(gh:Nat)(s7 s8 s31:Value)(wx:World):Prop:=
 ∃(k:Nat)(A:Option Addr)(c:Nat)(B:Option Addr)(d:Nat),k+gh=R.length/\s31=.int .i64 k/\s7=.slice A k c/\s8=.slice B k d/\Hid (mg wx wb.heap.size A k c ((bC (fB T (R.take k))).map Prod.fst))/\Hid (aK wx wb.heap.size B k d ((bC (fB T (R.take k))).map λp=>(p.2:Int)))/\Hid (qJ T k (R.drop k)=qJ T 0 R)/\Hid (Ext wb wx)
theorem PV{T:aj}{R:List (List Int)}{k:Nat}(a:k<=R.length):(bC (fB T (R.take k))).length=k:=by
 rw[PL,fB,List.length_map,List.length_take];omega
theorem YZ:∀(l:List Int),(∀c∈l,aY c=true)->IsB (jm l)
 |[],_=>tK
 |c::r,h=>EU (BX (h c (List.mem_cons_self ..))) (YZ r λx a=>h x (List.mem_cons_of_mem _ a))
theorem YX(l:List Int):IsB (mQ l).1:=by
 unfold mQ;split
 .exact tK
 .split
  .exact tK
  .rename_i d a;refine YZ l λc b=>?_
   simp only[List.any_eq_true,not_exists,not_and,Bool.not_eq_true',Bool.not_eq_false]at a;exact a c b
theorem b0D(l:List Int):IsB (jJ T l).1:=by
 unfold jJ;split
 .exact tK
 .exact YX _
theorem uni_isB:IsB (uniD T s).1:=by
 unfold uniD;split
 .exact tK
 .exact YX _
theorem b0B:IsB (eU T s).1:=by
 by_cases h:(eU T s).2.2=0
 .intro c a;rcases(aUi h).1 c a with b|rfl
  .have:=AZ b;omega
  .omega
 .rw[(aUg h).1];exact tK
theorem JF{T:aj}{s:List Int}(_:IsB s):IsB (gZ T s).1.1/\IsB (gZ T s).1.2.1/\IsB (gZ T s).1.2.2:=by
 have a:IsB rE.1/\IsB rE.2.1/\IsB rE.2.2:=⟨tK,tK,tK⟩;unfold gZ;split
 .exact a
 split
 .exact a
 unfold wS;split
 .exact a
 split
 .exact a
 split
 .exact a
 exact⟨b0B T s,uni_isB T s,b0D T _⟩
theorem Z7{T:aj}{R:List (List Int)}(d:∀s∈R,IsB s):∀p∈bC (fB T R),IsB p.1.1/\IsB p.1.2.1/\IsB p.1.2.2:=by
 intro p b;have h:=Js.1 b;obtain⟨c,e⟩:=List.getElem?_eq_some_iff.1 h;have a:p.2<R.length:=by simpa[fB]using c
 rw[<- e];simp only[fB,List.getElem_map];exact JF (d _ (gM' a))
theorem b0E{T:aj}{R:List (List Int)}(a:∀s∈R,IsB s)(p:P3)(b:p∈bC (fB T R)):IsB (kyP p):=(Z7 a p b).2.2
theorem JG(R:List (List Int))(A:Option Addr)(n c:Nat)(w:World)(ht:aW w t T)(hr:nO w ⟨A,n,c⟩ R)(hB:∀s∈R,IsB s):Calls prog 17 #[t.v,.slice A n c] w (Ee w (mkE T R) (mkS T R)):=by
 obtain⟨G,l⟩:=eX' ((w.alloc (.cells #[.slice t.s0.a t.s0.n t.s0.c,.slice t.s1.a t.s1.n t.s1.c,.slice t.s2.a t.s2.n t.s2.c,.slice t.s3.a t.s3.n t.s3.c,.slice t.s4.a t.s4.n t.s4.c,.slice t.s5.a t.s5.n t.s5.c,.slice t.s6.a t.s6.n t.s6.c,.slice t.s7.a t.s7.n t.s7.c,.slice t.s8.a t.s8.n t.s8.c,.slice t.s9.a t.s9.n t.s9.c,.slice t.s10.a t.s10.n t.s10.c,.slice t.s11.a t.s11.n t.s11.c] 26)).alloc (.cells iF 42));have U:Ext w G:=by rw[l];exact(eR'.aB _).aB _
 have J:=ah U;have HT:=ah (ht.aC U);have HR:=ah (hr.ext U);have V:=ah hB;have gW:Hid (∀B,Ext G B->∀k:Nat,B.cell? ⟨w.heap.size,k,none⟩=t.v.cells[k]?):=ah (λB h=>aQ ((eR'.aB _).trans' (by rw[l]at h;exact h)));have g:Hid (∀B,Ext G B->B.heap[w.heap.size+1]? =some (.cells iF 42 (0,0))):=ah (λB h=>JB (by rw[l]at h;exact h));have bM:w.heap.size+2<=G.heap.size:=by rw[l];simp
 have hn:n=R.length:=hr.1.1;subst hn;clear ht hr hB U;by_cases H:R.length=0
 .have Q:Hid (mkE T R=(10,-1,[])):=ah (by rw[mkE,pP' H]);have H0:Hid (((10,-1,[]):Int×Int×List Int).1≠0):=ah (by decide);have e1:(R.length==0)=true:=by rw[bq'];exact H
  have e2:((R.length:Int)==0)=true:=by rw[bq'];omega
  clear H;go_enter func17,ntmps17;go_wp2_with fail;rw[<- l];refine(JD 10 (-1) [] G).mono ?_;rintro e w1⟨rfl,f⟩;go_wp2_with(refine wpList_store_row rfl _ _ _ rfl (w.heap.size+1) _ rfl rfl 42 iF (g.out _ f) (by kernel_rfl) rfl (vg _ _ _ _ _ _ _ _) ?_)
  (try simp only[Exit.inBlock,Exit.then])
  refine bodyPost_ret (results_tt_cell (u:=4) (v:=5) (p:=6) (ty:=42) (by kernel_rfl) _ _ (w.heap.size+1) 42 _ (0,0) (by first|rfl|simp[Act.put]) (setRow_heap _ _ _ _ _ _ (g.out _ f)) underlying42 (by kernel_rfl)) rfl ?_;exact Bf Q.out H0.out (og (J.out.trans' f) (Nat.le_succ _) _) rfl
 have e1:(R.length==0)=false:=by rw[aO];exact H
 have e2:((R.length:Int)==0)=false:=bF';by_cases C:16<R.length
 .have Q:Hid (mkE T R=(7,-1,[])):=ah (by rw[mkE,nN' H,pP' C]);have H0:Hid (((7,-1,[]):Int×Int×List Int).1≠0):=ah (by decide);have d1:decide (16<R.length)=true:=dt' C;have d2:decide (16<(R.length:Int))=true:=dT';clear H C;go_enter func17,ntmps17;go_wp2_with fail;rw[<- l];refine(JD 7 (-1) [] G).mono ?_;rintro e w1⟨rfl,f⟩;go_wp2_with(refine wpList_store_row rfl _ _ _ rfl (w.heap.size+1) _ rfl rfl 42 iF (g.out _ f) (by kernel_rfl) rfl (vg _ _ _ _ _ _ _ _) ?_)
  (try simp only[Exit.inBlock,Exit.then])
  refine bodyPost_ret (results_tt_cell (u:=4) (v:=5) (p:=6) (ty:=42) (by kernel_rfl) _ _ (w.heap.size+1) 42 _ (0,0) (by first|rfl|simp[Act.put]) (setRow_heap _ _ _ _ _ _ (g.out _ f)) underlying42 (by kernel_rfl)) rfl ?_;exact Bf Q.out H0.out (og (J.out.trans' f) (Nat.le_succ _) _) rfl
 have d1:decide (16<R.length)=false:=df' C;have d2:decide (16<(R.length:Int))=false:=dF';have bH:R.length<=16:=by omega
 have bL:0<R.length:=by omega
 have HM:Hid (mkE T R=match qJ T 0 R with
  |some q=>(q.2,q.1,[])
  |none=>match qm (fB T R)with
   |some p=>(22,p.2,p.1.1)
   |none=>(0,-1,[])):=ah (by rw[mkE,nN' H,nN' C])
 clear H C;go_enter func17,ntmps17;go_wp2_with fail;rw[<- l];clear l;go_loopg[7,8,31] R.length (λgh s7 s8 bf wx=>MkL T G R gh s7 s8 bf wx);exact⟨0,none,0,none,0,by omega,rfl,rfl,rfl,ah (Own.nil_ _ _ _ _),ah (Own.nil_ _ _ _ _),ah rfl,ah eR'⟩;obtain⟨k,A2,c2,B2,aD,bN,rfl,rfl,rfl,HO,HI,K,HB⟩:=hrel;have rT:=gW.out _ HB.out;by_cases hk:k<R.length
 .obtain⟨bh,rfl⟩:=gS' gk;obtain⟨b,o,rfl,bi⟩:=(HR.out.ext HB.out).at_ hk;have HC:=ah (YV T t R[k] wr (HT.out.aC HB.out) (V.out _ (gM' hk)));have W:=ah (Z5 (T:=T) hk);have aa:=ah (Z4 (T:=T) hk);have X:=ah (λp hp=>b0E (T:=T) (R:=R.take k) (λs hs=>V.out s (List.mem_of_mem_take hs)) p hp);have aL:=ah (JF (T:=T) (V.out _ (gM' hk))).2.2;have m:=ah (PV (T:=T) (R:=R) (k:=k) (by omega));generalize R[k]=x at*;generalize gZ T x=D at*;obtain⟨d,ev⟩:=D;simp only[]at W aa aL;have bO:=z0' k;have bR:(k:Int)<(R.length:Int):=by omega
  go_wp2_with fail;refine HC.out.mono ?_;rintro e r⟨rfl,Y⟩;have ab:=ah (HB.out.trans' Y);have dM:=ah (Own.ext HO.out Y);have aM:=ah (Own.ext HI.out Y);have Z:Ext r (r.alloc (.cells #[.string (sB d.1),.string (sB d.2.1),.string (sB d.2.2)] 32)):=eR'.aB _;clear Y rT bi HC HO HI;by_cases I:ev=0
  case neg=>
   have f1:(ev != 0)=true:=bN' I;have Q:Hid (mkE T R=(ev,(k:Int),[])):=ah (by rw[HM.out,<- K.out,W.out,pP' I]);have H0:Hid (((ev,(k:Int),[]):Int×Int×List Int).1≠0):=ah I;clear I;go_wp2_with(refine wpList_store_row rfl _ _ _ rfl r.heap.size _ rfl rfl 32 kP (heap_alloc_new r _) (by kernel_rfl) rfl (oK _ _ _) ?_;rw[World.setRow_alloc_new]);refine(JD ev k [] _).mono ?_;rintro e w4⟨rfl,aR⟩;have ac:=ah ((ab.out.trans' Z).trans' aR);clear aR Z;go_wp2_with(refine wpList_store_row rfl _ _ _ rfl (w.heap.size+1) _ rfl rfl 42 iF (g.out _ ac.out) (by kernel_rfl) rfl (vg _ _ _ _ _ _ _ _) ?_)
   (try simp only[Exit.inBlock,Exit.then])
   refine bodyPost_ret (results_tt_cell (u:=4) (v:=5) (p:=6) (ty:=42) (by kernel_rfl) _ _ (w.heap.size+1) 42 _ (0,0) (by first|rfl|simp[Act.put]) (setRow_heap _ _ _ _ _ _ (g.out _ ac.out)) underlying42 (by kernel_rfl)) rfl ?_;exact Bf Q.out H0.out (og (J.out.trans' ac.out) (Nat.le_succ _) _) rfl
  have f1:(ev != 0)=false:=bZ' I;have bj:=ah ((W.out.trans (nN' (by rw[I];simp))).symm.trans K.out);clear I W K
  have iy:Hid (bC (fB T (R.take (k+1)))=yO (bC (fB T (R.take k))) (d,k)):=ah (by
   rw[aa.out,YJ,fB,List.length_map,List.length_take,Nat.min_eq_left (by omega)])
  generalize bC (fB T (R.take k))=S at*;have HY:Hid (IsB d.2.2/\∀p∈S,IsB (kyP p)):=ah ⟨aL.out,X.out⟩;obtain⟨W5,a0⟩:=eX' (r.alloc (.cells #[.string (sB d.1),.string (sB d.2.1),.string (sB d.2.2)] 32));have a1:Ext r W5:=by rw[a0];exact Z
  have bD:=ah (ab.out.trans' a1);have bP:=ah (Own.ext dM.out a1);have lS:=ah (Own.ext aM.out a1)
  have eX:Hid (∀B,Ext W5 B->B.cell? ⟨r.heap.size,0,none⟩=some (.string (sB d.1))/\B.cell? ⟨r.heap.size,1,none⟩=some (.string (sB d.2.1))/\B.cell? ⟨r.heap.size,2,none⟩=some (.string (sB d.2.2))):=ah (λB h=>by
   rw[a0]at h
   exact⟨bI (bK h) (World.cell?_alloc_new r _ _ 0),bI (bK h) (World.cell?_alloc_new r _ _ 1),bI (bK h) (World.cell?_alloc_new r _ _ 2)⟩)
  clear Z a1 ab dM aM aa;go_wp2_with(refine wpList_store_row rfl _ _ _ rfl r.heap.size _ rfl rfl 32 kP (heap_alloc_new r _) (by kernel_rfl) rfl (oK _ _ _) ?_;rw[World.setRow_alloc_new,<- a0];clear a0);have IY:=m.out;go_loopg[13] k (λgh bk wx=>bk=.int .i64 gh/\gh<=k/\Hid (lY d.2.2 S gh=lY d.2.2 S k)/\Hid (Ext W5 wx));exact⟨rfl,lr' _,ah rfl,ah eR'⟩;obtain⟨rfl,bS,HP,E⟩:=hrel;have ad:=ah (Own.ext bP.out E.out);have cN:∀z:ak wr,z.w.cell? ⟨r.heap.size,2,none⟩=some (.string (sB d.2.2)):=λz=>(eX.out _ (E.out.trans' z.h)).2.2
  have bl:(decide (0<gk)=false/\Hid (lY d.2.2 S k=gk))\/(decide (0<gk)=true/\∃(j:Nat)(q:List Int)(g0 o0:Nat),(gk:Int)-1=(j:Int)/\j<k/\Hid (gk=j+1)/\A2=some ⟨g0,o0,none⟩/\(∀z:ak wr,z.w.cell? ⟨g0,o0+j*3+2,none⟩=some (.string (sB q)))/\
   ((Op.bytesLess (sB q).toList (sB d.2.2).toList=true/\Hid (lY d.2.2 S k=gk))\/(Op.bytesLess (sB q).toList (sB d.2.2).toList=false/\((sB q).toList==(sB d.2.2).toList)=true/\Hid (lY d.2.2 S k=gk))\/
    (Op.bytesLess (sB q).toList (sB d.2.2).toList=false/\((sB q).toList==(sB d.2.2).toList)=false/\Hid (lY d.2.2 S j=lY d.2.2 S k)))):=by
   by_cases hz:gk=0
   .exact .inl ⟨df' (by omega),ah (by have:=HP.out;rw[hz]at this |-;exact this.symm)⟩
   .obtain⟨j,hj⟩:∃j,gk=j+1:=⟨gk-1,by omega⟩;have L:j<S.length:=(by omega);obtain⟨g0,o0,hA,_,_,h2⟩:=NmS.at_ (mg.nms ad.out) (i:=j) (by rw[List.length_map];omega);rw[List.getElem_map]at h2;have hP:=HP.out;rw[hj,lY,dif_pos L]at hP;have b1:=HY.out.2 _ (gM' L);refine .inr ⟨dt' (by omega),j,S[j].1.2.2,g0,o0,by omega,by omega,ah hj,hA,λz=>bI (bK z.h) h2,?_⟩;rw[Ju b1 HY.out.1,vO b1 HY.out.1];by_cases M:ltS d.2.2 (kyP S[j])=true
    .rw[pP' M]at hP;exact .inr (.inr ⟨Gm M,df' (λe=>Jv M e.symm),ah hP⟩)
    .rw[nN' M]at hP;have b2:ltS d.2.2 S[j].1.2.2=false:=(by cases h:ltS d.2.2 S[j].1.2.2;rfl;exact absurd h M);cases hq:ltS S[j].1.2.2 d.2.2 with
     |true=>exact .inl ⟨rfl,ah (by rw[hj];exact hP.symm)⟩
     |false=>exact .inr (.inl ⟨rfl,dt' (CZ hq b2),ah (by rw[hj];exact hP.symm)⟩)
  rcases bl with⟨hd,a2⟩|⟨hd,j,q,g0,o0,bm,bW,bo,rfl,cQ,⟨f,a2⟩|⟨f,bp,a2⟩|⟨f,bp,bq⟩⟩
  all_goals
   go_wp2_with fail;refine rX' ?_
   repeat(go_big_quiet_step(fail))
   refine wpQuiet_nil ?_;rintro _⟨z,rfl⟩
  rotate_left 3
  .have N:=ah (E.out.trans' z.h);clear cN cQ;go_wp2;go_roundg j;exact⟨by go_num,by omega,bq,N⟩;have:=bo.out;omega
  all_goals
   have N:=ah (E.out.trans' z.h);have iW:=ah (bD.out.trans' N.out);have ae:(S.map Prod.fst).length=k:=(by rw[List.length_map];exact m.out);have af:(S.map λp=>(p.2:Int)).length=k:=by rw[List.length_map];exact m.out
   have y:=ah (Own.ext lS.out N.out);have O:=ah (Own.ext ad.out z.h);obtain⟨k0,k1,k2⟩:=eX.out _ N.out;generalize z.w=w6 at*;have PY:=ah (aYm G w6 _ c2 (S.map Prod.fst) d gk (by rw[ae];exact O.out) iW.out (by omega) (by omega));rw[ae]at PY
   have ag:Hid ((S.map Prod.fst).take gk++d::(S.map Prod.fst).drop gk=(bC (fB T (R.take (k+1)))).map Prod.fst/\qh (S.map λp=>(p.2:Int)) gk (k:Int)=(bC (fB T (R.take (k+1)))).map λp=>(p.2:Int)):=ah (by
    rw[iy.out,yO,show lY (kyP (d,k)) S S.length=gk from by rw[m.out];exact a2.out]
    simp[qh,List.map_take,List.map_drop])
   clear a2 E N cN ad HP ae;go_wp2_with fail;refine PY.out.mono ?_;rintro e w7⟨A7,c7,rfl,wG,F,b3⟩;have ai:=ah wG;have al:=ah (Own.kp (Own.ext y.out (eR'.aB _)) b3 (λb hb hm=>Own.types y.out O.out (by decide) b hb (by simpa using hm)));have su:=ah F;have PX:=ah (YR G w7 B2 aD (S.map λp=>(p.2:Int)) (k:Int) gk (by rw[af];exact al.out) F (by omega) (by omega));rw[af]at PX;clear wG F b3 PY y O k0 k1 k2;go_wp2_with fail;refine PX.out.mono ?_;rintro e w8⟨⟨B8,n8,d8,rfl,b4,oq,b5⟩,b6⟩;have Ph:n8=k+1:=(by rw[b4,AQ _ _ _ (by omega),af]);subst Ph;have b7:=ah (Own.kp (Own.ext ai.out (eR'.aB _)) b6 (λb hb hm=>Own.types ai.out al.out (by decide) b hb (by simpa using hm)));rw[ag.out.1]at b7;rw[ag.out.2]at oq;have br:=ah oq;have bs:=ah b5;clear oq b5 b6 PX al ai ag b4;go_wp2;go_roundg bh;exact⟨k+1,A7,c7,B8,d8,by omega,by go_num,rfl,rfl,b7,br,bj,bs⟩;omega
 .have bt:k=R.length:=by omega
  subst bt;have b8:Hid (qJ T 0 R=none):=ah (by rw[<- K.out,List.drop_of_length_le (lr' _)];rfl);rw[List.take_length]at HO HI;have m:Hid ((bC (fB T R)).length=R.length):=ah (by have:=PV (T:=T) (R:=R) (lr' _);rwa[List.take_length]at this);have X:=ah (Z7 (T:=T) V.out)
  have b9:Hid (mkE T R=match qm (fB T R)with
   |some p=>(22,p.2,p.1.1)
   |none=>(0,-1,[])):=ah (by rw[HM.out,b8.out])
  have ba:Hid (mkS T R=if(mkE T R).1=0 then bC (fB T R)else[]):=rfl;have bu:Hid (qm (fB T R)=sN (bC (fB T R)) (bC (fB T R)).length 1):=rfl;generalize qm (fB T R)=TW at*;generalize bC (fB T R)=S at*;have bv:R.length-1+1=R.length:=by omega
  clear HM K b8;go_wp2;go_loopg[14] (R.length-1) (λgh bw wx=>∃i:Nat,i+gh=R.length/\1<=i/\bw=.int .i64 i/\Hid (sN S (gh+1) i=TW)/\Hid (Ext wr wx));exact⟨1,by omega,lr' _,rfl,ah (by rw[bv,bu.out,m.out]),ah eR'⟩;obtain⟨i,bX,bZ,rfl,P,E⟩:=hrel;by_cases hi:i<R.length
  .obtain⟨g2,rfl⟩:=gS' gk;obtain⟨j,rfl⟩:=gS' i;have L:j+1<S.length:=(by have:=m.out;omega);have a3:Hid (TW=if S[j+1].1.2.2=S[j].1.2.2 then some S[j+1]else sN S (g2+1) (j+2)):=ah (by rw[<- P.out,sN,dif_pos L];rfl);have ao:=mg.nms (Own.ext HO.out E.out);have y:=ah (aK.ints (Own.ext HI.out E.out));obtain⟨g0,o0,rfl,_,_,H⟩:=NmS.at_ ao (i:=j) (by rw[List.length_map];omega);obtain⟨c3,c4,hA,I,_,h2⟩:=NmS.at_ ao (i:=j+1) (by rw[List.length_map];omega);cases hA;rw[List.getElem_map]at H I h2;have bb:=vO (X.out _ (gM' L)).2.2 (X.out _ (gM' (show j<S.length by omega))).2.2;obtain⟨g1,o1,rfl,h3⟩:=y.out.at_ (i:=j+1) (by rw[List.length_map];omega);rw[List.getElem_map]at h3;have bx:=ah I;have bz:=ah h3;generalize S[j+1]=p1 at*;generalize S[j].1=q0 at*;have c0:∀z:ak wr,z.w.cell? ⟨g0,o0+j*3+2,none⟩=some (.string (sB q0.2.2)):=dA H;have c1:∀z:ak wr,z.w.cell? ⟨g0,o0+(j+1)*3+2,none⟩=some (.string (sB p1.1.2.2)):=dA h2;have bm:((j+1:Nat):Int)-1=(j:Int):=(by omega);clear ao H I h2 h3 rT;by_cases he:p1.1.2.2=q0.2.2
   .rw[dt' he]at bb;have HF:=ah (a3.out.trans (pP' he));have Q:Hid (mkE T R=(22,(p1.2:Int),p1.1.1)):=ah (by rw[b9.out,HF.out]);have H0:Hid (((22,(p1.2:Int),p1.1.1):Int×Int×List Int).1≠0):=ah (by show(22:Int)≠0;omega);clear he a3 P;go_wp2_with fail;refine rX' ?_
    repeat(go_big_quiet_step(fail))
    refine wpQuiet_nil ?_;rintro _⟨z,rfl⟩;have N:=ah (E.out.trans' z.h);have I:=dA bx.out z;have h3:=dA bz.out z;generalize z.w=w6 at*;have c5:(0:Int)<=(j:Int)+1:=(by omega);have c6:(j:Int)+1<(R.length:Int):=(by omega);have c8:((j:Int)+1).toNat=j+1:=(by omega);clear c0 c1 z;go_wp2_with fail;go_region_law((go_simp;go_at_call 52;refine(JD 22 p1.2 p1.1.1 _).mono ?_;rintro e w7⟨rfl,F⟩;have lQ:Hid (Ext w6 w7):=ah (eR'.dJ.trans' F);have ap:=ah (g.out w7 (HB.out.trans' (N.out.trans' lQ.out)));have cR:∀k:Nat,w7.cell? ⟨w.heap.size+1,k,none⟩=iF[k]? :=λk=>cell_of_row w7 _ k iF _ (0,0) ap.out;have fR:∀k:Nat,w7.frozen? ⟨w.heap.size+1,k,none⟩=false:=λk=>frozen_of_row w7 _ k iF _ ap.out;clear F))
    all_goals
     have bA:=Z8 ap.out 22 p1.2 (sB p1.1.1);have bn:=ah (Z9 (J.out.trans' (HB.out.trans' (N.out.trans' lQ.out))) (Nat.le_succ w.heap.size) 22 p1.2 (sB p1.1.1));clear cR fR;go_wp2_with fail
     (try simp only[Exit.inBlock,Exit.then])
     refine bodyPost_ret (results_tt_cell (u:=4) (v:=5) (p:=6) (ty:=42) (by kernel_rfl) _ _ (w.heap.size+1) 42 _ (0,0) (by first|rfl|simp[Act.put]) bA underlying42 (by kernel_rfl)) rfl ?_;exact Bf Q.out H0.out bn.out rfl
   .rw[df' he]at bb;have bB:=ah (a3.out.trans (nN' he));clear he a3 P;go_wp2_with fail;refine rX' ?_
    repeat(go_big_quiet_step(fail))
    refine wpQuiet_nil ?_;rintro _⟨z,rfl⟩;have N:=ah (E.out.trans' z.h);generalize z.w=w6 at*;clear c0 c1 z;go_wp2;go_roundg g2;exact⟨j+2,by omega,by omega,by go_num,ah bB.out.symm,N⟩;omega
  .have bE:i=R.length:=by omega
   have bd:Hid (TW=none):=ah (by rw[<- P.out,sN,dif_neg (by rw[m.out];omega)]);have Q:Hid (mkE T R=(0,-1,[])):=ah (by rw[b9.out,bd.out]);have be:Hid (mkS T R=S):=ah (by rw[ba.out,pP' (by rw[Q.out])]);have bn:=ah (HB.out.trans' E.out);have O:=ah (λcs:Array Value=>(Own.kp (Own.ext HO.out E.out) (Ef _ (w.heap.size+1) cs) (λb hb hm=>by have:=(Own.lt HO.out b hb).1;simp at hm;omega)));have y:=ah (λcs:Array Value=>(Own.kp (Own.ext HI.out E.out) (Ef _ (w.heap.size+1) cs) (λb hb hm=>by have:=(Own.lt HI.out b hb).1;simp at hm;omega)));clear bE bd ba P rT;go_wp2_with(refine wpList_store_row rfl _ _ _ rfl (w.heap.size+1) _ rfl rfl 42 iF (g.out _ bn.out) (by kernel_rfl) rfl (vg _ _ _ _ _ _ _ _) ?_)
   (try simp only[Exit.inBlock,Exit.then])
   refine bodyPost_ret (results_tt_cell (u:=4) (v:=5) (p:=6) (ty:=42) (by kernel_rfl) _ _ (w.heap.size+1) 42 _ (0,0) (by first|rfl|simp[Act.put]) (setRow_heap _ _ _ _ _ _ (g.out _ bn.out)) underlying42 (by kernel_rfl)) rfl ?_;exact⟨A2,_,c2,B2,_,aD,by rw[Q.out];rfl,⟨G.heap.size,by omega,by rw[be.out];exact O.out _,by rw[be.out];exact y.out _⟩,og (J.out.trans' bn.out) (Nat.le_succ _) _⟩
end Go.Proofs.YtlmkgaoakcjlnaaGreatDoor
