/- Part Bz14. -/
import Derived.Test.YtpmgophlhmcogaaGreatDoorBz13
open Go.Proofs.Tryz
namespace Go.Proofs.YtpmgophlhmcogaaGreatDoor
set_option maxHeartbeats 25600000
set_option maxRecDepth 100000
open Go.RowKit
theorem EZ(j b:Int)(a:0<=j/\j<=4096)(c: -100000<=b/\b<=100000)(w:World):cW' 309 #[.int .i64 j,.int .i64 b] w (.int .i64 (eU j b)):=by
 go_enter func309,ntmps309;go_wp2
 all_goals(go_ret;refine⟨bG ?_,rfl⟩;unfold eU;omega)
def fD(d:Int):Int:=if d<26 then 97+d else 22+d
theorem Nl{d:Int}(h:0<=d/\d<36):0<=fD d/\fD d<256:=by unfold fD;split<;>omega
theorem MP{d:Int}(h:0<=d/\d<36)(w:World):(Instr.index 9 (.string ⟨#[97,98,99,100,101,102,103,104,105,106,107,108,109,110,111,112,113,114,115,116,117,118,119,120,121,122,48,49,50,51,52,53,54,55,56,57]⟩) (.int .i64 d)).run prog w=.ok (.int .u8 (fD d)) w:=by
 obtain⟨n,rfl⟩:=Int.eq_ofNat_of_zero_le h.1;have a:n<36:=by omega
 have b:=AY (l:=[97,98,99,100,101,102,103,104,105,106,107,108,109,110,111,112,113,114,115,116,117,118,119,120,121,122,48,49,50,51,52,53,54,55,56,57]) w (by intro x c;simp at c;omega) (k:=n) (by simp;omega);refine Eq.trans b (congrArg (λx:Int=>Result.ok (Value.int .u8 x) w) ?_);have:∀m:Fin 36,([97,98,99,100,101,102,103,104,105,106,107,108,109,110,111,112,113,114,115,116,117,118,119,120,121,122,48,49,50,51,52,53,54,55,56,57]:List Int)[m.val]=fD m.val:=by decide
 exact this ⟨n,a⟩
theorem EY(d:Int)(h:0<=d/\d<36)(w:World):cW' 310 #[.int .i64 d] w (.int .u8 (fD d)):=by
 have a:=MP h w;generalize fD d=v at*;go_enter func310,ntmps310;go_wp2;go_ret;exact⟨rfl,rfl⟩
def Nb(w0:World)(L:List Int)(b v0:Int)(g:Nat)(s0 s1 s7:Value)(wx:World):Prop:=
 ∃(A:Option Addr)(c j:Nat)(v:Int)(acc:List Int),g+j=63/\s7=.int .i64 j/\s1=.int .i64 v/\0<=v/\v<2 ^ g/\v<2147483648/\s0=.slice A (L.length+acc.length) c/\OwnB wx w0.heap.size A (L.length+acc.length) c (L++acc.map fD)/\Ext w0 wx/\acc.length<=j/\Hid (fK b 64 0 v0=acc++fK b (g+1) j v)
theorem Nh(s w:World)(A:Option Addr)(n c:Nat)(L:List Int)(v b:Int)(O:0<=v/\v<2147483648)(hb: -100000<=b/\b<=100000)(d:OwnB w s.heap.size A n c L)(P:Ext s w)(hn:n=L.length)(hm:n<=1099511000000):
 Calls prog 276 #[.slice A n c,.int .i64 v,.int .i64 b] w (ET s (L++(fK b 64 0 v).map fD)):=by
 have x:=ah d;have Q:=ah P;subst hn;clear d P;generalize H:v=v0 at*;have HV:=ah H;clear H;go_enter func276,ntmps276;go_wp2;go_loopg[0,1,7] 63 (λR S T U V=>Nb s L b v0 R S T U V);exact⟨A,c,0,v0,[],by omega,rfl,rfl,O.1,by omega,O.2,rfl,by simpa using x.out,Q.out,by simp,rfl⟩;obtain⟨A,c,j,v,g,hg,rfl,rfl,W,p,X,rfl,d,q,Y,D⟩:=hrel;have x:=ah d;have I:=ah q;have E:(0:Int)<=(j:Int)/\(j:Int)<=4096:=by omega
 have ht:=xA j b;have i:Hid (fK b (gk+1) j v=if v<eU j b then[v]else(eU j b+(v-eU j b) % (36-eU j b))::fK b gk (j+1) ((v-eU j b) / (36-eU j b))):=rfl;have J:=ah (EZ j b E hb wr);generalize eU j b=t at*;clear d q;go_wp2_with fail;refine J.out.mono ?_;rintro e K⟨rfl,rfl⟩;by_cases k:v<t
 .rw[pP' k]at i;have Z:decide (v<t)=true:=by rw[aW];exact k
  have z:=ah (EY v (by omega) wr);obtain⟨B,C,M,f,a,l,_⟩:=qU x.out I.out #[.int .u8 (fD v)] [fD v] 1 rfl rfl (by omega) (by omega);go_wp2_with fail;refine z.out.mono ?_;rintro e K⟨rfl,rfl⟩;obtain⟨y,m⟩:=eY' (fD v);have HY:=ah m;rw[m]at f a;rw[m];clear m;go_wp2_with(at_builtin;refine bP rfl _ _ _ rfl _ _ rfl rfl _ _ f ?_);have N:Hid (fK b 64 0 v0=g++[v]):=ah (by rw[D.out,i.out]);go_ret;exact⟨B,_,C,rfl,by rw[N.out];simp[Nat.add_assoc],by rw[N.out];simpa[HY.out]using a,l⟩
 .rw[nN' k]at i;have Z:decide (v<t)=false:=by rw[bf];exact k
  have a1:=Int.emod_nonneg (v-t) (b:=36-t) (by omega);have a2:=Int.emod_lt_of_pos (v-t) (b:=36-t) (by omega);have r:0<=(v-t) / (36-t):=Int.ediv_nonneg (by omega) (by omega);have a3:(v-t) / (36-t)*2<=v:=by
   have h1:=Int.mul_ediv_add_emod (v-t) (36-t);have h2:(v-t) / (36-t)*2<=(v-t) / (36-t)*(36-t):=Int.mul_le_mul_of_nonneg_left (by omega) r;rw[Int.mul_comm (36-t)]at h1;omega
  obtain⟨o,rfl⟩:∃g',gk=g'+1:=by
   rcases Nat.eq_zero_or_pos gk with h|h
   .subst h;exact absurd p (by omega)
   .exact⟨gk-1,by omega⟩
  have F:(v-t) / (36-t)<2 ^ o:=by rw[Int.pow_succ]at p;omega
  have z:=ah (EY (t+(v-t) % (36-t)) (by omega) wr);have G:=aF D (show _=(g++[t+(v-t) % (36-t)])++fK b (o+1) ((j+1:Nat):Int) ((v-t) / (36-t))from by rw[i.out];simp);have a6:t+(v-t) % (36-t)<62:=by omega
  obtain⟨y,m⟩:=eY' (fD (t+(v-t) % (36-t)));obtain⟨B,C,M,f,a,l,_⟩:=qU x.out I.out #[.int .u8 y] [y] 1 rfl rfl (by omega) (by omega);rw[m]at z;have aZ:Hid (OwnB M s.heap.size B (L.length+g.length+1) C (L++(g++[t+(v-t) % (36-t)]).map fD)):=ah (by simpa[m]using a);have bg:=ah l;clear a l m D i J;go_wp2_with fail;refine z.out.mono ?_;rintro e K⟨rfl,rfl⟩;go_wp2_with(at_builtin;refine bP rfl _ _ _ rfl _ _ rfl rfl _ _ f ?_);go_roundg o;exact⟨B,C,j+1,_,g++[t+(v-t) % (36-t)],by omega,by go_num,rfl,r,F,by omega,by simp[Nat.add_assoc],by simpa[Nat.add_assoc]using aZ.out,bg.out,by simp;omega,G⟩;omega
def O4(w:World)(d0:Int)(g:Nat)(s0 s7:Value)(wx:World):Prop:=
 ∃k d:Int,s0=.int .i64 d/\s7=.int .i64 k/\0<=d/\d<35 ^ g/\d<64339296875/\0<=k/\k+36*g=252/\w=wx/\Hid (adG 64 0 d0=adG (57+g) k d)
theorem Fq(d p:Int)(f:Bool)(O:0<=d/\d<2147483648)(P:1<=p/\p<=4096)(w:World):cW' 277 #[.int .i64 d,.int .i64 p,.bool f] w (.int .i64 (kZ d p f)):=by
 have n:Hid (kZ d p f=adG 64 0 ((if f then d / 700 else d / 2)+(if f then d / 700 else d / 2) / p)):=ah (by unfold kZ;rw[nN' (by omega)]);generalize kZ d p f=V at*;obtain⟨a,b⟩:=eY' (if f=true then d / 700 else d / 2);rw[b]at n;have i:0<=a/\a<=1073741824:=by rw[<- b];cases f<;>simp<;>omega
 have r:0<=a / p:=Int.ediv_nonneg (by omega) (by omega);have s:a / p<=a:=Int.ediv_le_self p i.1;have o:Hid (a+a / p<64339296875):=ah (by omega);have I:decide (d<0)=false:=dF';have J:decide (1099511627776<d)=false:=dF';have K:decide (p<1)=false:=dF';have L:decide (4096<p)=false:=dF';go_enter func277,ntmps277;cases f<;>simp only[Bool.false_eq_true,if_false,if_true]at b
 all_goals
  go_wp2_with fail;rw[b];clear b;go_loopg[0,7] 7 (λt y z A=>O4 w (a+a / p) t y z A);exact⟨0,a+a / p,rfl,rfl,by omega,o.out,o.out,by omega,by omega,rfl,rfl⟩;obtain⟨k,x,rfl,rfl,B,g,C,D,M,rfl,j⟩:=hrel;have l:Hid (adG (57+gk) k x=if x<=455 then k+36*x / (x+38)else adG (56+gk) (k+36) (x / 35)):=ah (by rw[show 57+gk=(56+gk)+1 by omega];rfl);by_cases q:x<=455
  .have E:Hid (V=k+36*x / (x+38)):=ah (by rw[n.out,j.out,l.out,pP' q]);have N:0<=36*x / (x+38):=Int.ediv_nonneg (by omega) (by omega);have F:36*x / (x+38)<=36*x:=Int.ediv_le_self _ (by omega);go_wp2;go_ret;exact⟨bG E.out.symm,rfl⟩
  .obtain⟨c,rfl⟩:∃G,gk=G+1:=by
    rcases Nat.eq_zero_or_pos gk with h|h
    .subst h;exact absurd g (by omega)
    .exact⟨gk-1,by omega⟩
   have H:x / 35<35 ^ c:=(by rw[Int.pow_succ]at g;omega);have m:=aF j (show _=adG (57+c) (k+36) (x / 35)from by rw[l.out,nN' q];congr 1;omega);clear j l;go_wp2;go_roundg c;exact⟨k+36,x / 35,rfl,rfl,by omega,H,by omega,by omega,by omega,rfl,m⟩;omega
def iU(l:List Int):List Int:=fE l++if(fE l).length=0 then[]else[45]
noncomputable def gG(l:List Int):List Int:=iU l++(pR l).map fD
noncomputable def iw(l:List Int):List Int×Int:=if 256<l.length then([],7)else if l.any (λc=> !aX c)then([],3)else(gG l,0)
theorem Bl(l:List Int):(fE l).length<=l.length:=List.length_filter_le _ _
def Oi(w:World)(l:List Int)(g:Nat)(s4 s22:Value)(wx:World):Prop:=
 ∃(A:Option Addr)(c k:Nat),g+k=l.length/\s22=.int .i64 k/\s4=.slice A (fE (l.take k)).length c/\OwnB wx w.heap.size A (fE (l.take k)).length c (fE (l.take k))/\Ext w wx/\Hid ((l.take k).any (λc=> !aX c)=false)
structure PoS(w:World)(l:List Int)(A:Option Addr)(N c h:Nat)(n delta b nr ir:Int)(f:Bool)(acc:List Int)(wx:World):Prop where
 own:OwnB wx w.heap.size A N c (iU l++acc.map fD)
 len:N=(iU l++acc.map fD).length
 ext:Ext w wx
 fw:FwP l n 0 nr ir b f acc
 cnt:h=aY (plc l n 0) l.length
 del:delta=(n-nr)*(h+1)-ir
def FQ(w:World)(l:List Int)(g:Nat)(s4 s7 s8 s9 s10 s11:Value)(wx:World):Prop:=
 ∃(A:Option Addr)(N c h:Nat)(n delta b nr ir:Int)(f:Bool)(acc:List Int),g+h=l.length/\s4=.slice A N c/\s7=.int .i64 h/\s8=.bool f/\s9=.int .i64 n/\s10=.int .i64 delta/\s11=.int .i64 b/\
  Hid (PoS w l A N c h n delta b nr ir f acc wx)/\0<=delta/\0<=nr/\nr<=n/\128<=n/\n<=1114112/\0<=ir/\0<=b/\b<=2400/\N<=257+64*h
def Ov(l:List Int)(n:Int)(w1:World)(g:Nat)(s12 s50:Value)(wx:World):Prop:=
 ∃k:Nat,g+k=l.length/\s50=.int .i64 k/\s12=.int .i64 (mnP n (l.take k))/\wx=w1
structure PiS(w:World)(l:List Int)(A:Option Addr)(N c p h:Nat)(m delta b nr ir:Int)(f:Bool)(acc:List Int)(wx:World):Prop where
 own:OwnB wx w.heap.size A N c (iU l++acc.map fD)
 len:N=(iU l++acc.map fD).length
 ext:Ext w wx
 fw:FwP l m p nr ir b f acc
 cnt:h=aY (plc l m p) l.length
 del:delta=(m-nr)*(h+1)+aY (plc l m p) p-ir
def Ot(w:World)(l:List Int)(m:Int)(h0:Nat)(g:Nat)(s4 s7 s8 s10 s11 s71:Value)(wx:World):Prop:=
 ∃(A:Option Addr)(N c p h:Nat)(delta b nr ir:Int)(f:Bool)(acc:List Int),g+p=l.length/\s71=.int .i64 p/\s4=.slice A N c/\s7=.int .i64 h/\s8=.bool f/\s10=.int .i64 delta/\s11=.int .i64 b/\
  Hid (PiS w l A N c p h m delta b nr ir f acc wx)/\0<=delta/\0<=nr/\nr<=m/\0<=ir/\0<=b/\b<=2400/\N<=257+64*h/\h0<=h/\Hid (h0<h\/∀q(hq:q<l.length),q<p->l[q]≠m)
theorem Oq(l:List Int)(A:Option Addr)(n c:Nat)(w:World)(hi:au w ⟨A,n,c⟩ l):Calls prog 225 #[.slice A n c] w (xk w (iw l)):=by
 have HD:Hid (iw l=if 256<l.length then([],7)else if l.any (λc=> !aX c)then([],3)else(gG l,0)):=rfl;generalize iw l=D at*;have hn:=hi.len.1;subst hn;have HI:=ah hi;clear hi;by_cases h1:256<l.length
 .rw[pP' h1]at HD;go_enter func225,ntmps225;go_wp2;go_ret2;exact⟨by rw[HD.out];rfl,eR'⟩
 rw[nN' h1]at HD;go_enter func225,ntmps225;go_wp2;go_loopg[4,22] l.length (λX s4 bq Y=>Oi w l X s4 bq Y);exact⟨none,0,0,by omega,rfl,rfl,Own.nil_ _ _ _ _,eR',rfl⟩;obtain⟨B,d,k,hg,rfl,rfl,aa,hb,HN⟩:=hrel;have HO:=ah aa;have HB:=ah hb;have al:=Bl (l.take k);rw[List.length_take]at al;clear aa hb;by_cases hk:k<l.length
 .obtain⟨b,o,hA,b5⟩:=(HI.out.ext HB.out).at_ hk;subst hA;have am:=ah (xq (f:=λc=> !aX c) hk);have an:=ah (anyM (f:=λc=> !aX c) hk);have P:=ah (Fv hk);generalize l[k]=x at*;go_wp2_with fail;refine(qh _ _).mono ?_;rintro e w'⟨rfl,rfl⟩;cases hs:aX x
  .have HF:Hid (D=([],3)):=ah (by rw[HD.out,pP' (an.out (by simp[hs]))]);have hb:=HB.out;have e1:(utfLen x==0)=true:=(by rw[bq'];exact(utfLen_eq_zero x).2 hs);go_wp2;go_ret2;exact⟨by rw[HF.out];rfl,hb⟩
  .have b6:Hid ((l.take (k+1)).any (λc=> !aX c)=false):=ah (by rw[am.out,HN.out];simp[hs]);have e1:(utfLen x==0)=false:=(by rw[aP];intro h;rw[(utfLen_eq_zero x).1 h]at hs;cases hs);have hx:=uw hs;by_cases G:x<128
   .obtain⟨V,W,Z,E,r,Q,_⟩:=qU HO.out HB.out #[.int .u8 x] [x] 1 rfl rfl (by omega) (by omega);rw[pP' G]at P;have aZ:Hid (OwnB Z w.heap.size V (fE (l.take (k+1))).length W (fE (l.take (k+1)))):=ah (by rw[P.out,lA'];exact r);have bg:=ah Q;have br:Hid ((fE (l.take (k+1))).length=(fE (l.take k)).length+1):=ah (by rw[P.out,lA'];rfl);clear r Q HN am an P;go_wp2_with(at_builtin;refine bP rfl _ _ _ rfl _ _ rfl rfl _ _ E ?_);go_roundg (l.length-(k+1));exact⟨V,W,k+1,by omega,by go_num,by rw[br.out],aZ.out,bg.out,b6⟩;omega
   .rw[nN' G,List.append_nil]at P;clear HN am an;go_wp2;go_roundg (l.length-(k+1));exact⟨B,d,k+1,by omega,by go_num,by rw[P.out],by rw[P.out];exact HO.out,HB.out,b6⟩;omega
 .have he:l.take k=l:=tL' (by omega);rw[he]at HO HN al;have HF:Hid (D=(gG l,0)):=ah (by rw[HD.out,nN' (by rw[HN.out];simp)]);have y:Hid ((fE l).length=aY (plc l 128 0) l.length):=ah (by rw[FC l.length (lr' _),tL' (lr' _)])
  have Ar:Hid (∀x∈l,0<=x/\x<=1114111):=ah (λx hx=>uw (by
   cases hs:aX x
   .have h:l.any (λc=> !aX c)=true:=List.any_eq_true.2 ⟨x,hx,by simp[hs]⟩;rw[HN.out]at h;cases h
   .rfl))
  rw[he];clear HD HN he;have hl:l.length<=256:=by omega
  clear al h1 hg;generalize wr=w2 at*;have bs:=Bl l;have ni:Hid (iU l=fE l++if(fE l).length=0 then[]else[45]):=rfl;obtain⟨H,hH⟩:=eY' ((fE l).length);have og:Hid ((iU l).length=H+if H=0 then 0 else 1):=ah (by rw[ni.out,lA',hH];split<;>rfl);rw[hH]at HO y bs ni |-;have a0:Hid (∀(V:Option Addr)(N5 W:Nat)(Z:World),OwnB Z w.heap.size V N5 W (iU l)->N5=(iU l).length->Ext w Z->PoS w l V N5 W H 128 0 72 128 0 true [] Z):=ah (λV N5 W Z a1 a2 a3=>⟨by simpa using a1,by simpa using a2,a3,Nv l,y.out,by omega⟩);clear hH y;by_cases h0:H=0
  case' pos=>
   have jS:Hid (PoS w l B H d H 128 0 72 128 0 true [] w2):=ah (a0.out B H d w2 (by rw[ni.out,pP' h0,List.append_nil];exact HO.out) (by rw[og.out,pP' h0];omega) HB.out);have R:decide ((0:Int)<(H:Int))=false:=dF';have b7:decide (0<H)=false:=dF';clear HO HB a0 og ni h0;go_wp2;go_loopg[4,7,8,9,10,11] (l.length-H) (λX s4 s7 s8 s9 S T Y=>FQ w l X s4 s7 s8 s9 S T Y)
   case atStart=>exact⟨B,H,d,H,128,0,72,128,0,true,[],by omega,rfl,rfl,rfl,rfl,rfl,rfl,jS,by omega,by omega,by omega,by omega,by omega,by omega,by omega,by omega,by omega⟩
  case' neg=>
   obtain⟨V,W,Z,E,r,Q,_⟩:=qU HO.out HB.out #[.int .u8 45] [45] 1 rfl rfl (by omega) (by omega);have R:decide ((0:Int)<(H:Int))=true:=dT';have b7:decide (0<H)=true:=dT';have jS:Hid (PoS w l V (H+1) W H 128 0 72 128 0 true [] Z):=ah (a0.out V _ W Z (by rw[ni.out,nN' h0];exact r) (by rw[og.out,nN' h0]) Q);clear HO r HB Q a0 og ni h0;go_wp2_with(at_builtin;refine bP rfl _ _ _ rfl _ _ rfl rfl _ _ E ?_);clear E;go_loopg[4,7,8,9,10,11] (l.length-H) (λX s4 s7 s8 s9 S T Y=>FQ w l X s4 s7 s8 s9 S T Y)
   case atStart=>exact⟨V,H+1,W,H,128,0,72,128,0,true,[],by omega,rfl,rfl,rfl,rfl,rfl,rfl,jS,by omega,by omega,by omega,by omega,by omega,by omega,by omega,by omega,by omega⟩
  all_goals
   clear R b7 jS;obtain⟨A6,N6,c6,h,n,g,b,z,ir,f,j,hg,rfl,rfl,rfl,rfl,rfl,rfl,i,R,I,a6,bD,bE,J,K,L,hN⟩:=hrel;generalize wr=w3 at*;by_cases hh:h<l.length
   .have HM:=ah (Ol n l)
    have HX:Hid (∃q,∃C:q<l.length,128<=l[q]/\n<=l[q]):=ah (by
     have h1:=hh;rw[i.out.cnt]at h1;obtain⟨q,C,hf⟩:=FK h1;rw[jV C]at hf;simp only[oF',bf]at hf
     exact⟨q,C,by omega,by omega⟩)
    go_wp2;go_loopg[12,50] l.length (λX bt bu Y=>Ov l n w3 X bt bu Y);exact⟨0,by omega,rfl,rfl,rfl⟩;obtain⟨p,bb,rfl,rfl,rfl⟩:=hrel;by_cases O:p<l.length
    .obtain⟨b',o',hA,b5⟩:=(HI.out.ext i.out.ext).at_ O;subst hA;have P:Hid (mnP n (l.take (p+1))=if n<=l[p]then min (mnP n (l.take p)) l[p]else mnP n (l.take p)):=ah (by rw[tS' O,Oo]);generalize l[p]=x at*;generalize mnP n (l.take p)=m at*;by_cases a7:n<=x
     .have bF:decide (n<=x)=true:=(by rw[aW];exact a7);by_cases bc:m<=x
      .have U:Hid (mnP n (l.take (p+1))=m):=ah (by rw[P.out,pP' a7,Int.min_eq_left bc]);go_wp2;go_roundg (l.length-(p+1));exact⟨p+1,by omega,by go_num,by rw[U.out];first|done|rw[Int.min_eq_left bc],rfl⟩;omega
      .have U:Hid (mnP n (l.take (p+1))=x):=ah (by rw[P.out,pP' a7,Int.min_eq_right (by omega)]);go_wp2;go_roundg (l.length-(p+1));exact⟨p+1,by omega,by go_num,by rw[U.out];first|done|rw[Int.min_eq_right (show x<=m by omega)],rfl⟩;omega
     .have U:Hid (mnP n (l.take (p+1))=m):=ah (by rw[P.out,nN' a7]);go_wp2;go_roundg (l.length-(p+1));exact⟨p+1,by omega,by go_num,by rw[U.out],rfl⟩;omega
    .have he:l.take p=l:=tL' (by omega);rw[he];obtain⟨m,hm⟩:=eY' (mnP n l);rw[hm]at HM |-;have bd:n<=m/\m<=1114111:=by
      obtain⟨q,C,h1,h2⟩:=HX.out;obtain⟨a1,a2,a3⟩:=HM.out;have h3:=a2 _ (gM' C) h2;have h4:=Ar.out _ (gM' C);refine⟨?_,by omega⟩;rcases a3 with a3|a3
      .omega
      .exact a3.2
     have be:Hid (m∈l):=ah (by
      rcases HM.out.2.2 with a3|a3
      .omega
      .exact a3.1)
     have a8:=yX (a:=m-n) (h:=h) (by omega) (by omega) (by omega) (by omega);have bv:=yX (a:=n-z) (h:=h) (by omega) (by omega) (by omega) (by omega);have F:=i.out.del;have ao:g<=286326784:=by omega
     have s:Hid (PiS w l A6 N6 c6 0 h m (g+(m-n)*((h:Int)+1)) b z ir f j wr):=ah (by
      have hj:=FB bd.1 (λc hc hn=>HM.out.2.1 c hc hn);refine⟨i.out.own,i.out.len,i.out.ext,Om i.out.fw bd.1 (λc hc hn=>HM.out.2.1 c hc hn),by rw[<- hj];exact i.out.cnt,?_⟩;have e1:(m-z)*((h:Int)+1)=(m-n)*((h:Int)+1)+(n-z)*((h:Int)+1):=(by rw[<- Int.add_mul];congr 1;omega);have e2:aY (plc l m 0) 0=0:=rfl;rw[e1,e2]
      omega)
     clear hm HM HX F bv he;go_wp2;go_loopg[4,7,8,10,11,71] l.length (λX s4 s7 s8 S T bw Y=>Ot w l m h X s4 s7 s8 S T bw Y);exact⟨A6,N6,c6,0,h,_,b,z,ir,f,j,by omega,rfl,rfl,rfl,rfl,rfl,rfl,s,by omega,I,by omega,J,K,L,hN,lr' _,ah (.inr (λq _ C=>by omega))⟩;clear i s ao a8 R I a6 J K L hN O bb;obtain⟨A7,rQ,c7,p,t,g,b,z,ir,f,j,bb,rfl,rfl,rfl,rfl,rfl,rfl,i,R,I,a6,J,K,L,hN,bh,HH⟩:=hrel;have a9:=uG (plc l m p) l.length;rw[<- i.out.cnt]at a9;have a8:=yX (a:=m-z) (h:=t) (by omega) (by omega) (by omega) (by omega);have F:=i.out.del;by_cases O:p<l.length
     .have bx:=Nat.le_trans (uG (plc l m p) p) (Nat.le_of_lt O);have ao:g<=286327100:=(by omega);obtain⟨b',o',hA,b5⟩:=(HI.out.ext i.out.ext).at_ O;subst hA;clear F a8 bx;by_cases G:l[p]<m
      .have av:l[p]≠m:=(by omega);have y:=ah (Fh O av (by omega));have s:Hid (PiS w l A7 rQ c7 (p+1) t m (g+1) b z ir f j wr):=ah ⟨i.out.own,i.out.len,i.out.ext,Fj i.out.fw O av,by rw[y.out.1];exact i.out.cnt,by rw[y.out.2,pP' G];have:=i.out.del;omega⟩
       have aw:Hid (h<t\/∀q(C:q<l.length),q<p+1->l[q]≠m):=ah (HH.out.elim .inl (λk=>.inr (λq C h2=>by
        by_cases e:q=p
        .subst e;exact av
        .exact k q C (by omega))))
       clear y;generalize l[p]=x at*;go_wp2;go_roundg (l.length-(p+1));exact⟨A7,rQ,c7,p+1,t,_,b,z,ir,f,j,by omega,by go_num,rfl,rfl,rfl,rfl,rfl,s,by omega,I,a6,J,K,L,hN,bh,aw⟩;omega
      by_cases M:l[p]=m
      .have y:=ah (NQ O M (by omega));have bi:=i.out.len;have ax:0<=g/\g<2147483648:=(by omega);have bz: -100000<=b/\b<=100000:=(by omega);have az:=ah (Nh w wr A7 rQ c7 _ g b ax bz i.out.own i.out.ext bi (by omega));have bj:(1:Int)<=((t+1:Nat):Int)/\((t+1:Nat):Int)<=4096:=(by omega);have bk:=ah (λw=>Fq g ((t+1:Nat):Int) f ax bj w);have aD:=FN (f:=f) ax.1 bj.1;have bA:=Bf b 64 0 g;have N:=ah (NW (v:=g) i.out.fw O M (by omega) (by rw[<- i.out.cnt];exact i.out.del));rw[<- i.out.cnt]at N y;rw[show((t:Int)+1)=((t+1:Nat):Int)by omega]at N;obtain⟨b2,bl⟩:=eY' (kZ g ((t+1:Nat):Int) f);rw[bl]at bk aD N;obtain⟨ds,bm⟩:=eY' (fK b 64 0 g);rw[bm]at az bA N;clear bi bl bm;generalize l[p]=x at*;go_wp2_with fail;refine az.out.mono ?_;rintro e w8⟨A8,n8,c8,rfl,aE,Jc,bo⟩;have bH:n8<=rQ+64:=by
        have:=i.out.len;rw[aE,lA',List.length_map];omega
       have s:Hid (PiS w l A8 n8 c8 (p+1) (t+1) m 0 b2 m (aY (plc l m p) p+1) false (j++ds) w8):=ah ⟨by simpa using Jc,by simpa using aE,bo,N.out,y.out.1.symm,by rw[y.out.2];omega⟩;clear aE Jc bo az N y;go_wp2_with fail;refine(bk.out w8).mono ?_;rintro e w9⟨rfl,rfl⟩;go_wp2;go_roundg (l.length-(p+1));exact⟨A8,n8,c8,p+1,t+1,0,b2,m,_,false,j++ds,by omega,by go_num,rfl,by go_num,rfl,rfl,rfl,s,by omega,by omega,by omega,by omega,aD.1,aD.2,by omega,by omega,ah (.inl (by omega))⟩;omega
      .have y:=ah (Fh O M (by omega));have s:Hid (PiS w l A7 rQ c7 (p+1) t m g b z ir f j wr):=ah ⟨i.out.own,i.out.len,i.out.ext,Fj i.out.fw O M,by rw[y.out.1];exact i.out.cnt,by rw[y.out.2,nN' G];have:=i.out.del;omega⟩
       have aw:Hid (h<t\/∀q(C:q<l.length),q<p+1->l[q]≠m):=ah (HH.out.elim .inl (λk=>.inr (λq C h2=>by
        by_cases e:q=p
        .subst e;exact M
        .exact k q C (by omega))))
       clear y;generalize l[p]=x at*;have bK:(x==m)=false:=(by rw[aP];exact M);go_wp2;go_roundg (l.length-(p+1));exact⟨A7,rQ,c7,p+1,t,_,b,z,ir,f,j,by omega,by go_num,rfl,rfl,rfl,rfl,rfl,s,by omega,I,a6,J,K,L,hN,bh,aw⟩;omega
     .have G:h<t:=by
       rcases HH.out with h'|h'
       .exact h'
       .obtain⟨q,C,e⟩:=List.getElem_of_mem be.out;exact absurd e (h' q C (by omega))
      have bp:p=l.length:=by omega
      have s:Hid (PoS w l A7 rQ c7 t (m+1) (g+1) b z ir f j wr):=ah (by
       have hj:plc l m l.length=plc l (m+1) 0:=Fb (by omega) (λc _ _ h=>by omega);have hc:=i.out.cnt;have hd:=i.out.del;have hf:=i.out.fw;rw[bp]at hc hd hf;rw[<- hc]at hd;refine⟨i.out.own,i.out.len,i.out.ext,NS hf (by omega) (λc _ _ h=>by omega),by rw[<- hj];exact hc,?_⟩;rw[show m+1-z=(m-z)+1 by omega,Int.add_mul]
       omega)
      have ao:g<=286327100:=by
       have:=uG (plc l m p) p;omega
      clear i HH be F a8 bp;go_wp2;go_roundg (l.length-t);exact⟨A7,rQ,c7,t,m+1,g+1,b,z,ir,f,j,by omega,rfl,rfl,rfl,rfl,rfl,rfl,s,by omega,I,by omega,by omega,by omega,J,K,L,hN⟩;omega
   .have a9:=uG (plc l n 0) l.length;rw[<- i.out.cnt]at a9;have hR:=NR i.out.fw (FP (by rw[<- i.out.cnt];omega));have HP:Hid (gG l=iU l++j.map fD):=ah (by unfold gG;rw[FM hR]);have bB:=wU (OwnB.AX i.out.own);have hb:=i.out.ext;rw[<- HP.out]at bB;clear a9 hR i;go_wp2;go_ret2;exact⟨by rw[HF.out];rfl,hb⟩
end Go.Proofs.YtpmgophlhmcogaaGreatDoor
