/- Part Bw10. -/
import Derived.Test.YtljilcbobhmkgaaGreatDoorBw07
import Derived.Test.YtljilcbobhmkgaaGreatDoorBw09
open Go.Proofs.Tryz
namespace Go.Proofs.YtljilcbobhmkgaaGreatDoor
set_option maxHeartbeats 25600000
set_option maxRecDepth 100000
open Go.RowKit
variable (t:TV)(T:ak)(l:List Int)(A:Option Addr)(n c:Nat)(w:World)
theorem Qp(j b:Int)(a:0<=j/\j<=4096)(c: -100000<=b/\b<=100000)(w:World):cW' 310 #[.int .i64 j,.int .i64 b] w (.int .i64 (gB j b)):=by
 go_enter func310,ntmps310;go_wp2
 all_goals(go_ret;refine⟨aU ?_,rfl⟩;unfold gB;omega)
def eH(d:Int):Int:=if d<26 then 97+d else 22+d
theorem ZB{d:Int}(h:0<=d/\d<36):0<=eH d/\eH d<256:=by unfold eH;split<;>omega
theorem Za{d:Int}(h:0<=d/\d<36)(w:World):(Instr.index 9 (.string ⟨#[97,98,99,100,101,102,103,104,105,106,107,108,109,110,111,112,113,114,115,116,117,118,119,120,121,122,48,49,50,51,52,53,54,55,56,57]⟩) (.int .i64 d)).run prog w=.ok (.int .u8 (eH d)) w:=by
 obtain⟨n,rfl⟩:=Int.eq_ofNat_of_zero_le h.1;have a:n<36:=by omega
 have b:=Jv (l:=[97,98,99,100,101,102,103,104,105,106,107,108,109,110,111,112,113,114,115,116,117,118,119,120,121,122,48,49,50,51,52,53,54,55,56,57]) w (by intro x c;simp at c;omega) (k:=n) (by simp;omega);refine Eq.trans b (congrArg (λx:Int=>Result.ok (Value.int .u8 x) w) ?_);have:∀m:Fin 36,([97,98,99,100,101,102,103,104,105,106,107,108,109,110,111,112,113,114,115,116,117,118,119,120,121,122,48,49,50,51,52,53,54,55,56,57]:List Int)[m.val]=eH m.val:=by decide
 exact this ⟨n,a⟩
theorem Qo(d:Int)(h:0<=d/\d<36)(w:World):cW' 311 #[.int .i64 d] w (.int .u8 (eH d)):=by
 have a:=Za h w;generalize eH d=v at*;go_enter func311,ntmps311;go_wp2;go_ret;exact⟨rfl,rfl⟩
def Zr(w0:World)(L:List Int)(b v0:Int)(g:Nat)(s0 s1 s7:Value)(wx:World):Prop:=
 ∃(A:Option Addr)(c j:Nat)(v:Int)(acc:List Int),g+j=63/\s7=.int .i64 j/\s1=.int .i64 v/\0<=v/\v<2 ^ g/\v<2147483648/\s0=.slice A (L.length+acc.length) c/\OwnB wx w0.heap.size A (L.length+acc.length) c (L++acc.map eH)/\Ext w0 wx/\acc.length<=j/\Hid (iQ b 64 0 v0=acc++iQ b (g+1) j v)
theorem Zv(s w:World)(A:Option Addr)(n c:Nat)(L:List Int)(v b:Int)(O:0<=v/\v<2147483648)(hb: -100000<=b/\b<=100000)(d:OwnB w s.heap.size A n c L)(P:Ext s w)(hn:n=L.length)(hm:n<=1099511000000):
 Calls prog 279 #[.slice A n c,.int .i64 v,.int .i64 b] w (Q9 s (L++(iQ b 64 0 v).map eH)):=by
 have x:=ah d;have Q:=ah P;subst hn;clear d P;generalize H:v=v0 at*;have HV:=ah H;clear H;go_enter func279,ntmps279;go_wp2;go_loopg[0,1,7] 63 (λR S T U V=>Zr s L b v0 R S T U V);exact⟨A,c,0,v0,[],by omega,rfl,rfl,O.1,by omega,O.2,rfl,by simpa using x.out,Q.out,by simp,rfl⟩;obtain⟨A,c,j,v,g,hg,rfl,rfl,W,p,X,rfl,d,q,Y,D⟩:=hrel;have x:=ah d;have I:=ah q;have E:(0:Int)<=(j:Int)/\(j:Int)<=4096:=by omega
 have ht:=AA j b;have i:Hid (iQ b (gk+1) j v=if v<gB j b then[v]else(gB j b+(v-gB j b) % (36-gB j b))::iQ b gk (j+1) ((v-gB j b) / (36-gB j b))):=rfl;have J:=ah (Qp j b E hb wr);generalize gB j b=t at*;clear d q;go_wp2_with fail;refine J.out.mono ?_;rintro e K⟨rfl,rfl⟩;by_cases k:v<t
 .rw[pP' k]at i;have Z:decide (v<t)=true:=by rw[au];exact k
  have z:=ah (Qo v (by omega) wr);obtain⟨B,C,M,f,a,l,_⟩:=yG x.out I.out #[.int .u8 (eH v)] [eH v] 1 rfl rfl (by omega) (by omega);go_wp2_with fail;refine z.out.mono ?_;rintro e K⟨rfl,rfl⟩;obtain⟨y,m⟩:=eY' (eH v);have HY:=ah m;rw[m]at f a;rw[m];clear m;go_wp2_with(at_builtin;refine dA rfl _ _ _ rfl _ _ rfl rfl _ _ f ?_);have N:Hid (iQ b 64 0 v0=g++[v]):=ah (by rw[D.out,i.out]);go_ret;exact⟨B,_,C,rfl,by rw[N.out];simp[Nat.add_assoc],by rw[N.out];simpa[HY.out]using a,l⟩
 .rw[nN' k]at i;have Z:decide (v<t)=false:=by rw[aA];exact k
  have a1:=Int.emod_nonneg (v-t) (b:=36-t) (by omega);have a2:=Int.emod_lt_of_pos (v-t) (b:=36-t) (by omega);have r:0<=(v-t) / (36-t):=Int.ediv_nonneg (by omega) (by omega);have a3:(v-t) / (36-t)*2<=v:=by
   have h1:=Int.mul_ediv_add_emod (v-t) (36-t);have h2:(v-t) / (36-t)*2<=(v-t) / (36-t)*(36-t):=Int.mul_le_mul_of_nonneg_left (by omega) r;rw[Int.mul_comm (36-t)]at h1;omega
  obtain⟨o,rfl⟩:∃g',gk=g'+1:=by
   rcases Nat.eq_zero_or_pos gk with h|h
   .subst h;exact absurd p (by omega)
   .exact⟨gk-1,by omega⟩
  have F:(v-t) / (36-t)<2 ^ o:=by rw[Int.pow_succ]at p;omega
  have z:=ah (Qo (t+(v-t) % (36-t)) (by omega) wr);have G:=aI D (show _=(g++[t+(v-t) % (36-t)])++iQ b (o+1) ((j+1:Nat):Int) ((v-t) / (36-t))from by rw[i.out];simp);have a6:t+(v-t) % (36-t)<62:=by omega
  obtain⟨y,m⟩:=eY' (eH (t+(v-t) % (36-t)));obtain⟨B,C,M,f,a,l,_⟩:=yG x.out I.out #[.int .u8 y] [y] 1 rfl rfl (by omega) (by omega);rw[m]at z;have bI:Hid (OwnB M s.heap.size B (L.length+g.length+1) C (L++(g++[t+(v-t) % (36-t)]).map eH)):=ah (by simpa[m]using a);have bH:=ah l;clear a l m D i J;go_wp2_with fail;refine z.out.mono ?_;rintro e K⟨rfl,rfl⟩;go_wp2_with(at_builtin;refine dA rfl _ _ _ rfl _ _ rfl rfl _ _ f ?_);go_roundg o;exact⟨B,C,j+1,_,g++[t+(v-t) % (36-t)],by omega,by go_num,rfl,r,F,by omega,by simp[Nat.add_assoc],by simpa[Nat.add_assoc]using bI.out,bH.out,by simp;omega,G⟩;omega
def QW(w:World)(d0:Int)(g:Nat)(s0 s7:Value)(wx:World):Prop:=
 ∃k d:Int,s0=.int .i64 d/\s7=.int .i64 k/\0<=d/\d<35 ^ g/\d<64339296875/\0<=k/\k+36*g=252/\w=wx/\Hid (adG 64 0 d0=adG (57+g) k d)
theorem QV(d p:Int)(f:Bool)(O:0<=d/\d<2147483648)(P:1<=p/\p<=4096)(w:World):cW' 280 #[.int .i64 d,.int .i64 p,.bool f] w (.int .i64 (nJ d p f)):=by
 have n:Hid (nJ d p f=adG 64 0 ((if f then d / 700 else d / 2)+(if f then d / 700 else d / 2) / p)):=ah (by unfold nJ;rw[nN' (by omega)]);generalize nJ d p f=V at*;obtain⟨a,b⟩:=eY' (if f=true then d / 700 else d / 2);rw[b]at n;have i:0<=a/\a<=1073741824:=by rw[<- b];cases f<;>simp<;>omega
 have r:0<=a / p:=Int.ediv_nonneg (by omega) (by omega);have s:a / p<=a:=Int.ediv_le_self p i.1;have o:Hid (a+a / p<64339296875):=ah (by omega);have I:decide (d<0)=false:=dF';have J:decide (1099511627776<d)=false:=dF';have K:decide (p<1)=false:=dF';have L:decide (4096<p)=false:=dF';go_enter func280,ntmps280;cases f<;>simp only[Bool.false_eq_true,if_false,if_true]at b
 all_goals
  go_wp2_with fail;rw[b];clear b;go_loopg[0,7] 7 (λt y z A=>QW w (a+a / p) t y z A);exact⟨0,a+a / p,rfl,rfl,by omega,o.out,o.out,by omega,by omega,rfl,rfl⟩;obtain⟨k,x,rfl,rfl,B,g,C,D,M,rfl,j⟩:=hrel;have l:Hid (adG (57+gk) k x=if x<=455 then k+36*x / (x+38)else adG (56+gk) (k+36) (x / 35)):=ah (by rw[show 57+gk=(56+gk)+1 by omega];rfl);by_cases q:x<=455
  .have E:Hid (V=k+36*x / (x+38)):=ah (by rw[n.out,j.out,l.out,pP' q]);have N:0<=36*x / (x+38):=Int.ediv_nonneg (by omega) (by omega);have F:36*x / (x+38)<=36*x:=Int.ediv_le_self _ (by omega);go_wp2;go_ret;exact⟨aU E.out.symm,rfl⟩
  .obtain⟨c,rfl⟩:∃G,gk=G+1:=by
    rcases Nat.eq_zero_or_pos gk with h|h
    .subst h;exact absurd g (by omega)
    .exact⟨gk-1,by omega⟩
   have H:x / 35<35 ^ c:=(by rw[Int.pow_succ]at g;omega);have m:=aI j (show _=adG (57+c) (k+36) (x / 35)from by rw[l.out,nN' q];congr 1;omega);clear j l;go_wp2;go_roundg c;exact⟨k+36,x / 35,rfl,rfl,by omega,H,by omega,by omega,by omega,rfl,m⟩;omega
def lQ(l:List Int):List Int:=iR l++if(iR l).length=0 then[]else[45]
noncomputable def jZ(l:List Int):List Int:=lQ l++(xE l).map eH
noncomputable def jE(l:List Int):List Int×Int:=if 256<l.length then([],7)else if l.any (λc=> !bn c)then([],3)else(jZ l,0)
theorem Gl:(iR l).length<=l.length:=List.length_filter_le _ _
def aG6(w:World)(l:List Int)(g:Nat)(s4 s22:Value)(wx:World):Prop:=
 ∃(A:Option Addr)(c k:Nat),g+k=l.length/\s22=.int .i64 k/\s4=.slice A (iR (l.take k)).length c/\OwnB wx w.heap.size A (iR (l.take k)).length c (iR (l.take k))/\Ext w wx/\Hid ((l.take k).any (λc=> !bn c)=false)
structure PoS(w:World)(l:List Int)(A:Option Addr)(N c h:Nat)(n delta b nr ir:Int)(f:Bool)(acc:List Int)(wx:World):Prop where
 own:OwnB wx w.heap.size A N c (lQ l++acc.map eH)
 len:N=(lQ l++acc.map eH).length
 ext:Ext w wx
 fw:FwP l n 0 nr ir b f acc
 cnt:h=bP (plc l n 0) l.length
 del:delta=(n-nr)*(h+1)-ir
def Rz(w:World)(l:List Int)(g:Nat)(s4 s7 s8 s9 s10 s11:Value)(wx:World):Prop:=
 ∃(A:Option Addr)(N c h:Nat)(n delta b nr ir:Int)(f:Bool)(acc:List Int),g+h=l.length/\s4=.slice A N c/\s7=.int .i64 h/\s8=.bool f/\s9=.int .i64 n/\s10=.int .i64 delta/\s11=.int .i64 b/\
  Hid (PoS w l A N c h n delta b nr ir f acc wx)/\0<=delta/\0<=nr/\nr<=n/\128<=n/\n<=1114112/\0<=ir/\0<=b/\b<=2400/\N<=257+64*h
def aGm(l:List Int)(n:Int)(w1:World)(g:Nat)(s12 s50:Value)(wx:World):Prop:=
 ∃k:Nat,g+k=l.length/\s50=.int .i64 k/\s12=.int .i64 (mnP n (l.take k))/\wx=w1
structure PiS(w:World)(l:List Int)(A:Option Addr)(N c p h:Nat)(m delta b nr ir:Int)(f:Bool)(acc:List Int)(wx:World):Prop where
 own:OwnB wx w.heap.size A N c (lQ l++acc.map eH)
 len:N=(lQ l++acc.map eH).length
 ext:Ext w wx
 fw:FwP l m p nr ir b f acc
 cnt:h=bP (plc l m p) l.length
 del:delta=(m-nr)*(h+1)+bP (plc l m p) p-ir
def aGh(w:World)(l:List Int)(m:Int)(h0:Nat)(g:Nat)(s4 s7 s8 s10 s11 s71:Value)(wx:World):Prop:=
 ∃(A:Option Addr)(N c p h:Nat)(delta b nr ir:Int)(f:Bool)(acc:List Int),g+p=l.length/\s71=.int .i64 p/\s4=.slice A N c/\s7=.int .i64 h/\s8=.bool f/\s10=.int .i64 delta/\s11=.int .i64 b/\
  Hid (PiS w l A N c p h m delta b nr ir f acc wx)/\0<=delta/\0<=nr/\nr<=m/\0<=ir/\0<=b/\b<=2400/\N<=257+64*h/\h0<=h/\Hid (h0<h\/∀q(hq:q<l.length),q<p->l[q]≠m)
theorem aGc(hi:aC w ⟨A,n,c⟩ l):Calls prog 233 #[.slice A n c] w (xB w (jE l)):=by
 have HD:Hid (jE l=if 256<l.length then([],7)else if l.any (λc=> !bn c)then([],3)else(jZ l,0)):=rfl;generalize jE l=D at*;have hn:=hi.len.1;subst hn;have HI:=ah hi;clear hi;by_cases h1:256<l.length
 .rw[pP' h1]at HD;go_enter func233,ntmps233;go_wp2;go_ret2;exact⟨by rw[HD.out];rfl,eR'⟩
 rw[nN' h1]at HD;go_enter func233,ntmps233;go_wp2;go_loopg[4,22] l.length (λX s4 bq Y=>aG6 w l X s4 bq Y);exact⟨none,0,0,by omega,rfl,rfl,Own.nil_ _ _ _ _,eR',rfl⟩;obtain⟨B,d,k,hg,rfl,rfl,aa,hb,HN⟩:=hrel;have HO:=ah aa;have HB:=ah hb;have al:=Gl (l.take k);rw[List.length_take]at al;clear aa hb;by_cases hk:k<l.length
 .obtain⟨b,o,hA,b6⟩:=(HI.out.ext HB.out).at_ hk;subst hA;have am:=ah (xC (f:=λc=> !bn c) hk);have an:=ah (anyM (f:=λc=> !bn c) hk);have P:=ah (JO hk);generalize l[k]=x at*;go_wp2_with fail;refine(xI _ _).mono ?_;rintro e w'⟨rfl,rfl⟩;cases hs:bn x
  .have HF:Hid (D=([],3)):=ah (by rw[HD.out,pP' (an.out (by simp[hs]))]);have hb:=HB.out;have e1:(utfLen x==0)=true:=(by rw[bq'];exact(utfLen_eq_zero x).2 hs);go_wp2;go_ret2;exact⟨by rw[HF.out];rfl,hb⟩
  .have b7:Hid ((l.take (k+1)).any (λc=> !bn c)=false):=ah (by rw[am.out,HN.out];simp[hs]);have e1:(utfLen x==0)=false:=(by rw[aH];intro h;rw[(utfLen_eq_zero x).1 h]at hs;cases hs);have hx:=uT hs;by_cases G:x<128
   .obtain⟨V,W,Z,E,r,Q,_⟩:=yG HO.out HB.out #[.int .u8 x] [x] 1 rfl rfl (by omega) (by omega);rw[pP' G]at P;have bI:Hid (OwnB Z w.heap.size V (iR (l.take (k+1))).length W (iR (l.take (k+1)))):=ah (by rw[P.out,lA'];exact r);have bH:=ah Q;have br:Hid ((iR (l.take (k+1))).length=(iR (l.take k)).length+1):=ah (by rw[P.out,lA'];rfl);clear r Q HN am an P;go_wp2_with(at_builtin;refine dA rfl _ _ _ rfl _ _ rfl rfl _ _ E ?_);go_roundg (l.length-(k+1));exact⟨V,W,k+1,by omega,by go_num,by rw[br.out],bI.out,bH.out,b7⟩;omega
   .rw[nN' G,List.append_nil]at P;clear HN am an;go_wp2;go_roundg (l.length-(k+1));exact⟨B,d,k+1,by omega,by go_num,by rw[P.out],by rw[P.out];exact HO.out,HB.out,b7⟩;omega
 .have he:l.take k=l:=tL' (by omega);rw[he]at HO HN al;have HF:Hid (D=(jZ l,0)):=ah (by rw[HD.out,nN' (by rw[HN.out];simp)]);have y:Hid ((iR l).length=bP (plc l 128 0) l.length):=ah (by rw[JW l.length (lr' _),tL' (lr' _)])
  have lZ:Hid (∀x∈l,0<=x/\x<=1114111):=ah (λx hx=>uT (by
   cases hs:bn x
   .have h:l.any (λc=> !bn c)=true:=List.any_eq_true.2 ⟨x,hx,by simp[hs]⟩;rw[HN.out]at h;cases h
   .rfl))
  rw[he];clear HD HN he;have hl:l.length<=256:=by omega
  clear al h1 hg;generalize wr=w2 at*;have bs:=Gl l;have gK:Hid (lQ l=iR l++if(iR l).length=0 then[]else[45]):=rfl;obtain⟨H,hH⟩:=eY' ((iR l).length);have oD:Hid ((lQ l).length=H+if H=0 then 0 else 1):=ah (by rw[gK.out,lA',hH];split<;>rfl);rw[hH]at HO y bs gK |-;have a0:Hid (∀(V:Option Addr)(N5 W:Nat)(Z:World),OwnB Z w.heap.size V N5 W (lQ l)->N5=(lQ l).length->Ext w Z->PoS w l V N5 W H 128 0 72 128 0 true [] Z):=ah (λV N5 W Z a1 a2 a3=>⟨by simpa using a1,by simpa using a2,a3,ZI l,y.out,by omega⟩);clear hH y;by_cases h0:H=0
  case' pos=>
   have rF:Hid (PoS w l B H d H 128 0 72 128 0 true [] w2):=ah (a0.out B H d w2 (by rw[gK.out,pP' h0,List.append_nil];exact HO.out) (by rw[oD.out,pP' h0];omega) HB.out);have R:decide ((0:Int)<(H:Int))=false:=dF';have b8:decide (0<H)=false:=dF';clear HO HB a0 oD gK h0;go_wp2;go_loopg[4,7,8,9,10,11] (l.length-H) (λX s4 s7 s8 s9 S T Y=>Rz w l X s4 s7 s8 s9 S T Y)
   case atStart=>exact⟨B,H,d,H,128,0,72,128,0,true,[],by omega,rfl,rfl,rfl,rfl,rfl,rfl,rF,by omega,by omega,by omega,by omega,by omega,by omega,by omega,by omega,by omega⟩
  case' neg=>
   obtain⟨V,W,Z,E,r,Q,_⟩:=yG HO.out HB.out #[.int .u8 45] [45] 1 rfl rfl (by omega) (by omega);have R:decide ((0:Int)<(H:Int))=true:=dT';have b8:decide (0<H)=true:=dT';have rF:Hid (PoS w l V (H+1) W H 128 0 72 128 0 true [] Z):=ah (a0.out V _ W Z (by rw[gK.out,nN' h0];exact r) (by rw[oD.out,nN' h0]) Q);clear HO r HB Q a0 oD gK h0;go_wp2_with(at_builtin;refine dA rfl _ _ _ rfl _ _ rfl rfl _ _ E ?_);clear E;go_loopg[4,7,8,9,10,11] (l.length-H) (λX s4 s7 s8 s9 S T Y=>Rz w l X s4 s7 s8 s9 S T Y)
   case atStart=>exact⟨V,H+1,W,H,128,0,72,128,0,true,[],by omega,rfl,rfl,rfl,rfl,rfl,rfl,rF,by omega,by omega,by omega,by omega,by omega,by omega,by omega,by omega,by omega⟩
  all_goals
   clear R b8 rF;obtain⟨A6,N6,c6,h,n,g,b,z,ir,f,j,hg,rfl,rfl,rfl,rfl,rfl,rfl,i,R,I,a6,bC,bE,J,K,L,hN⟩:=hrel;generalize wr=w3 at*;by_cases hh:h<l.length
   .have HM:=ah (aGS n l)
    have HX:Hid (∃q,∃C:q<l.length,128<=l[q]/\n<=l[q]):=ah (by
     have h1:=hh;rw[i.out.cnt]at h1;obtain⟨q,C,hf⟩:=Rt h1;rw[qg C]at hf;simp only[oF',aA]at hf
     exact⟨q,C,by omega,by omega⟩)
    go_wp2;go_loopg[12,50] l.length (λX bt bu Y=>aGm l n w3 X bt bu Y);exact⟨0,by omega,rfl,rfl,rfl⟩;obtain⟨p,bc,rfl,rfl,rfl⟩:=hrel;by_cases O:p<l.length
    .obtain⟨b',o',hA,b6⟩:=(HI.out.ext i.out.ext).at_ O;subst hA;have P:Hid (mnP n (l.take (p+1))=if n<=l[p]then min (mnP n (l.take p)) l[p]else mnP n (l.take p)):=ah (by rw[tS' O,aGY]);generalize l[p]=x at*;generalize mnP n (l.take p)=m at*;by_cases a7:n<=x
     .have bG:decide (n<=x)=true:=(by rw[au];exact a7);by_cases bd:m<=x
      .have U:Hid (mnP n (l.take (p+1))=m):=ah (by rw[P.out,pP' a7,Int.min_eq_left bd]);go_wp2;go_roundg (l.length-(p+1));exact⟨p+1,by omega,by go_num,by rw[U.out];first|done|rw[Int.min_eq_left bd],rfl⟩;omega
      .have U:Hid (mnP n (l.take (p+1))=x):=ah (by rw[P.out,pP' a7,Int.min_eq_right (by omega)]);go_wp2;go_roundg (l.length-(p+1));exact⟨p+1,by omega,by go_num,by rw[U.out];first|done|rw[Int.min_eq_right (show x<=m by omega)],rfl⟩;omega
     .have U:Hid (mnP n (l.take (p+1))=m):=ah (by rw[P.out,nN' a7]);go_wp2;go_roundg (l.length-(p+1));exact⟨p+1,by omega,by go_num,by rw[U.out],rfl⟩;omega
    .have he:l.take p=l:=tL' (by omega);rw[he];obtain⟨m,hm⟩:=eY' (mnP n l);rw[hm]at HM |-;have be:n<=m/\m<=1114111:=by
      obtain⟨q,C,h1,h2⟩:=HX.out;obtain⟨a1,a2,a3⟩:=HM.out;have h3:=a2 _ (gM' C) h2;have h4:=lZ.out _ (gM' C);refine⟨?_,by omega⟩;rcases a3 with a3|a3
      .omega
      .exact a3.2
     have bf:Hid (m∈l):=ah (by
      rcases HM.out.2.2 with a3|a3
      .omega
      .exact a3.1)
     have a8:=Ef (a:=m-n) (h:=h) (by omega) (by omega) (by omega) (by omega);have bv:=Ef (a:=n-z) (h:=h) (by omega) (by omega) (by omega) (by omega);have F:=i.out.del;have ao:g<=286326784:=by omega
     have s:Hid (PiS w l A6 N6 c6 0 h m (g+(m-n)*((h:Int)+1)) b z ir f j wr):=ah (by
      have hj:=QZ be.1 (λc hc hn=>HM.out.2.1 c hc hn);refine⟨i.out.own,i.out.len,i.out.ext,aGX i.out.fw be.1 (λc hc hn=>HM.out.2.1 c hc hn),by rw[<- hj];exact i.out.cnt,?_⟩;have e1:(m-z)*((h:Int)+1)=(m-n)*((h:Int)+1)+(n-z)*((h:Int)+1):=(by rw[<- Int.add_mul];congr 1;omega);have e2:bP (plc l m 0) 0=0:=rfl;rw[e1,e2]
      omega)
     clear hm HM HX F bv he;go_wp2;go_loopg[4,7,8,10,11,71] l.length (λX s4 s7 s8 S T bw Y=>aGh w l m h X s4 s7 s8 S T bw Y);exact⟨A6,N6,c6,0,h,_,b,z,ir,f,j,by omega,rfl,rfl,rfl,rfl,rfl,rfl,s,by omega,I,by omega,J,K,L,hN,lr' _,ah (.inr (λq _ C=>by omega))⟩;clear i s ao a8 R I a6 J K L hN O bc;obtain⟨A7,zh,c7,p,t,g,b,z,ir,f,j,bc,rfl,rfl,rfl,rfl,rfl,rfl,i,R,I,a6,J,K,L,hN,bh,HH⟩:=hrel;have a9:=uU (plc l m p) l.length;rw[<- i.out.cnt]at a9;have a8:=Ef (a:=m-z) (h:=t) (by omega) (by omega) (by omega) (by omega);have F:=i.out.del;by_cases O:p<l.length
     .have bx:=Nat.le_trans (uU (plc l m p) p) (Nat.le_of_lt O);have ao:g<=286327100:=(by omega);obtain⟨b',o',hA,b6⟩:=(HI.out.ext i.out.ext).at_ O;subst hA;clear F a8 bx;by_cases G:l[p]<m
      .have av:l[p]≠m:=(by omega);have y:=ah (QJ O av (by omega));have s:Hid (PiS w l A7 zh c7 (p+1) t m (g+1) b z ir f j wr):=ah ⟨i.out.own,i.out.len,i.out.ext,QM i.out.fw O av,by rw[y.out.1];exact i.out.cnt,by rw[y.out.2,pP' G];have:=i.out.del;omega⟩
       have aw:Hid (h<t\/∀q(C:q<l.length),q<p+1->l[q]≠m):=ah (HH.out.elim .inl (λk=>.inr (λq C h2=>by
        by_cases e:q=p
        .subst e;exact av
        .exact k q C (by omega))))
       clear y;generalize l[p]=x at*;go_wp2;go_roundg (l.length-(p+1));exact⟨A7,zh,c7,p+1,t,_,b,z,ir,f,j,by omega,by go_num,rfl,rfl,rfl,rfl,rfl,s,by omega,I,a6,J,K,L,hN,bh,aw⟩;omega
      by_cases M:l[p]=m
      .have y:=ah (aDn O M (by omega));have bi:=i.out.len;have ax:0<=g/\g<2147483648:=(by omega);have bz: -100000<=b/\b<=100000:=(by omega);have az:=ah (Zv w wr A7 zh c7 _ g b ax bz i.out.own i.out.ext bi (by omega));have bj:(1:Int)<=((t+1:Nat):Int)/\((t+1:Nat):Int)<=4096:=(by omega);have bk:=ah (λw=>QV g ((t+1:Nat):Int) f ax bj w);have aD:=Gm (f:=f) ax.1 bj.1;have bA:=Gj b 64 0 g;have N:=ah (aDv (v:=g) i.out.fw O M (by omega) (by rw[<- i.out.cnt];exact i.out.del));rw[<- i.out.cnt]at N y;rw[show((t:Int)+1)=((t+1:Nat):Int)by omega]at N;obtain⟨b2,bl⟩:=eY' (nJ g ((t+1:Nat):Int) f);rw[bl]at bk aD N;obtain⟨ds,bm⟩:=eY' (iQ b 64 0 g);rw[bm]at az bA N;clear bi bl bm;generalize l[p]=x at*;go_wp2_with fail;refine az.out.mono ?_;rintro e w8⟨A8,n8,c8,rfl,aE,wJ,bo⟩;have bL:n8<=zh+64:=by
        have:=i.out.len;rw[aE,lA',List.length_map];omega
       have s:Hid (PiS w l A8 n8 c8 (p+1) (t+1) m 0 b2 m (bP (plc l m p) p+1) false (j++ds) w8):=ah ⟨by simpa using wJ,by simpa using aE,bo,N.out,y.out.1.symm,by rw[y.out.2];omega⟩;clear aE wJ bo az N y;go_wp2_with fail;refine(bk.out w8).mono ?_;rintro e w9⟨rfl,rfl⟩;go_wp2;go_roundg (l.length-(p+1));exact⟨A8,n8,c8,p+1,t+1,0,b2,m,_,false,j++ds,by omega,by go_num,rfl,by go_num,rfl,rfl,rfl,s,by omega,by omega,by omega,by omega,aD.1,aD.2,by omega,by omega,ah (.inl (by omega))⟩;omega
      .have y:=ah (QJ O M (by omega));have s:Hid (PiS w l A7 zh c7 (p+1) t m g b z ir f j wr):=ah ⟨i.out.own,i.out.len,i.out.ext,QM i.out.fw O M,by rw[y.out.1];exact i.out.cnt,by rw[y.out.2,nN' G];have:=i.out.del;omega⟩
       have aw:Hid (h<t\/∀q(C:q<l.length),q<p+1->l[q]≠m):=ah (HH.out.elim .inl (λk=>.inr (λq C h2=>by
        by_cases e:q=p
        .subst e;exact M
        .exact k q C (by omega))))
       clear y;generalize l[p]=x at*;have bN:(x==m)=false:=(by rw[aH];exact M);go_wp2;go_roundg (l.length-(p+1));exact⟨A7,zh,c7,p+1,t,_,b,z,ir,f,j,by omega,by go_num,rfl,rfl,rfl,rfl,rfl,s,by omega,I,a6,J,K,L,hN,bh,aw⟩;omega
     .have G:h<t:=by
       rcases HH.out with h'|h'
       .exact h'
       .obtain⟨q,C,e⟩:=List.getElem_of_mem bf.out;exact absurd e (h' q C (by omega))
      have bp:p=l.length:=by omega
      have s:Hid (PoS w l A7 zh c7 t (m+1) (g+1) b z ir f j wr):=ah (by
       have hj:plc l m l.length=plc l (m+1) 0:=QG (by omega) (λc _ _ h=>by omega);have hc:=i.out.cnt;have hd:=i.out.del;have hf:=i.out.fw;rw[bp]at hc hd hf;rw[<- hc]at hd;refine⟨i.out.own,i.out.len,i.out.ext,aDp hf (by omega) (λc _ _ h=>by omega),by rw[<- hj];exact hc,?_⟩;rw[show m+1-z=(m-z)+1 by omega,Int.add_mul]
       omega)
      have ao:g<=286327100:=by
       have:=uU (plc l m p) p;omega
      clear i HH bf F a8 bp;go_wp2;go_roundg (l.length-t);exact⟨A7,zh,c7,t,m+1,g+1,b,z,ir,f,j,by omega,rfl,rfl,rfl,rfl,rfl,rfl,s,by omega,I,by omega,by omega,by omega,J,K,L,hN⟩;omega
   .have a9:=uU (plc l n 0) l.length;rw[<- i.out.cnt]at a9;have hR:=aDo i.out.fw (Ru (by rw[<- i.out.cnt];omega));have HP:Hid (jZ l=lQ l++j.map eH):=ah (by unfold jZ;rw[JZ hR]);have bB:=BO (OwnB.Ju i.out.own);have hb:=i.out.ext;rw[<- HP.out]at bB;clear a9 hR i;go_wp2;go_ret2;exact⟨by rw[HF.out];rfl,hb⟩
theorem Rx(j b:Int)(a:0<=j/\j<=4096)(c: -100000<=b/\b<=100000)(w:World):cW' 296 #[.int .i64 j,.int .i64 b] w (.int .i64 (gB j b)):=by
 go_enter func296,ntmps296;go_wp2
 all_goals(go_ret;refine⟨aU ?_,rfl⟩;unfold gB;omega)
theorem aGe{d:Int}(h:0<=d/\d<36)(w:World):(Instr.slice 9 (.string ⟨#[97,98,99,100,101,102,103,104,105,106,107,108,109,110,111,112,113,114,115,116,117,118,119,120,121,122,48,49,50,51,52,53,54,55,56,57]⟩) (some (.int .i64 d)) (some (.int .i64 (d+1))) none).run prog w=.ok (.string (sB [eH d])) w:=by
 obtain⟨n,rfl⟩:=Int.eq_ofNat_of_zero_le h.1;have a:n<36:=by omega
 have b:=OX (l:=[97,98,99,100,101,102,103,104,105,106,107,108,109,110,111,112,113,114,115,116,117,118,119,120,121,122,48,49,50,51,52,53,54,55,56,57]) w (k:=n) (m:=n+1) (by omega) (by simp;omega);refine Eq.trans b (congrArg (λx=>Result.ok (Value.string (sB x)) w) ?_);have:∀m:Fin 36,(([97,98,99,100,101,102,103,104,105,106,107,108,109,110,111,112,113,114,115,116,117,118,119,120,121,122,48,49,50,51,52,53,54,55,56,57]:List Int).drop m.val).take (m.val+1-m.val)=[eH m.val]:=by decide
 exact this ⟨n,a⟩
theorem Rw(d:Int)(h:0<=d/\d<36)(w:World):cW' 297 #[.int .i64 d] w (.string (sB [eH d])):=by
 have a:=aGe h w;generalize[eH d]=v at*;go_enter func297,ntmps297;go_wp2;go_ret;exact⟨rfl,rfl⟩
def aRP(w:World)(b v0:Int)(g:Nat)(s0 s5 s6:Value)(wx:World):Prop:=
 ∃(j:Nat)(v:Int)(acc:List Int),g+j=63/\s6=.int .i64 j/\s0=.int .i64 v/\0<=v/\v<2 ^ g/\v<2147483648/\s5=.string (sB (acc.map eH))/\w=wx/\acc.length<=j/\Hid (iQ b 64 0 v0=acc++iQ b (g+1) j v)
theorem aGt(v b:Int)(r:0<=v/\v<2147483648)(S: -100000<=b/\b<=100000)(w:World):
 cW' 256 #[.int .i64 v,.int .i64 b] w (.string (sB ((iQ b 64 0 v).map eH))):=by
 generalize s:v=v0 at*;clear s;go_enter func256,ntmps256;go_wp2;go_loopg[0,5,6] 63 (λx y z A B=>aRP w b v0 x y z A B);exact⟨0,v0,[],by omega,rfl,rfl,r.1,by omega,r.2,rfl,rfl,by simp,rfl⟩;obtain⟨j,v,a,T,rfl,rfl,C,g,D,rfl,rfl,G,l⟩:=hrel;have m:(0:Int)<=(j:Int)/\(j:Int)<=4096:=by omega
 have ht:=AA j b;have c:Hid (iQ b (gk+1) j v=if v<gB j b then[v]else(gB j b+(v-gB j b) % (36-gB j b))::iQ b gk (j+1) ((v-gB j b) / (36-gB j b))):=rfl;have q:=ah (Rx j b m S w);generalize gB j b=t at*;have i:Hid ((a.map eH).length=a.length):=ah (List.length_map _);go_wp2_with fail;refine q.out.mono ?_;rintro e w'⟨rfl,rfl⟩;by_cases d:v<t
 .rw[pP' d]at c;have H:decide (v<t)=true:=by rw[au];exact d
  have n:=ah (Rw v (by omega) w);have I:Hid ((iQ b 64 0 v0).map eH=a.map eH++[eH v]):=ah (by rw[l.out,c.out];simp);have J:(a.map eH).length<=64:=by rw[i.out];omega
  have K:[eH v].length<=1:=lr' _;generalize[eH v]=E at*;generalize a.map eH=F at*;go_wp2_with fail;refine n.out.mono ?_;rintro e w'⟨rfl,rfl⟩;go_wp2;go_ret;exact⟨by rw[I.out];rfl,rfl⟩
 .rw[nN' d]at c;have H:decide (v<t)=false:=by rw[aA];exact d
  have L:=Int.emod_nonneg (v-t) (b:=36-t) (by omega);have M:=Int.emod_lt_of_pos (v-t) (b:=36-t) (by omega);have k:0<=(v-t) / (36-t):=Int.ediv_nonneg (by omega) (by omega);have N:(v-t) / (36-t)*2<=v:=by
   have O:=Int.mul_ediv_add_emod (v-t) (36-t);have U:(v-t) / (36-t)*2<=(v-t) / (36-t)*(36-t):=Int.mul_le_mul_of_nonneg_left (by omega) k;rw[Int.mul_comm (36-t)]at O;omega
  obtain⟨f,rfl⟩:∃P,gk=P+1:=by
   rcases Nat.eq_zero_or_pos gk with h|h
   .subst h;exact absurd g (by omega)
   .exact⟨gk-1,by omega⟩
  have o:(v-t) / (36-t)<2 ^ f:=by rw[Int.pow_succ]at g;omega
  have n:=ah (Rw (t+(v-t) % (36-t)) (by omega) w);have p:=aI l (show _=(a++[t+(v-t) % (36-t)])++iQ b (f+1) ((j+1:Nat):Int) ((v-t) / (36-t))from by rw[c.out];simp);have Q:t+(v-t) % (36-t)<62:=by omega
  have J:(a.map eH).length<=64:=by rw[i.out];omega
  have K:[eH (t+(v-t) % (36-t))].length<=1:=lr' _;have R:Hid (a.map eH++[eH (t+(v-t) % (36-t))]=(a++[t+(v-t) % (36-t)]).map eH):=ah (by simp);generalize[eH (t+(v-t) % (36-t))]=E at*;generalize a.map eH=F at*;clear l c q;go_wp2_with fail;refine n.out.mono ?_;rintro e w'⟨rfl,rfl⟩;go_wp2;go_roundg f;exact⟨j+1,_,a++[t+(v-t) % (36-t)],by omega,by go_num,rfl,k,o,by omega,by rw[R.out],rfl,by simp;omega,p⟩;omega
theorem Ry(d p:Int)(f:Bool)(O:0<=d/\d<2147483648)(P:1<=p/\p<=4096)(w:World):cW' 257 #[.int .i64 d,.int .i64 p,.bool f] w (.int .i64 (nJ d p f)):=by
 have n:Hid (nJ d p f=adG 64 0 ((if f then d / 700 else d / 2)+(if f then d / 700 else d / 2) / p)):=ah (by unfold nJ;rw[nN' (by omega)]);generalize nJ d p f=V at*;obtain⟨a,b⟩:=eY' (if f=true then d / 700 else d / 2);rw[b]at n;have i:0<=a/\a<=1073741824:=by rw[<- b];cases f<;>simp<;>omega
 have r:0<=a / p:=Int.ediv_nonneg (by omega) (by omega);have s:a / p<=a:=Int.ediv_le_self p i.1;have o:Hid (a+a / p<64339296875):=ah (by omega);have I:decide (d<0)=false:=dF';have J:decide (1099511627776<d)=false:=dF';have K:decide (p<1)=false:=dF';have L:decide (4096<p)=false:=dF';go_enter func257,ntmps257;cases f<;>simp only[Bool.false_eq_true,if_false,if_true]at b
 all_goals
  go_wp2_with fail;rw[b];clear b;go_loopg[0,7] 7 (λt y z A=>QW w (a+a / p) t y z A);exact⟨0,a+a / p,rfl,rfl,by omega,o.out,o.out,by omega,by omega,rfl,rfl⟩;obtain⟨k,x,rfl,rfl,B,g,C,D,M,rfl,j⟩:=hrel;have l:Hid (adG (57+gk) k x=if x<=455 then k+36*x / (x+38)else adG (56+gk) (k+36) (x / 35)):=ah (by rw[show 57+gk=(56+gk)+1 by omega];rfl);by_cases q:x<=455
  .have E:Hid (V=k+36*x / (x+38)):=ah (by rw[n.out,j.out,l.out,pP' q]);have N:0<=36*x / (x+38):=Int.ediv_nonneg (by omega) (by omega);have F:36*x / (x+38)<=36*x:=Int.ediv_le_self _ (by omega);go_wp2;go_ret;exact⟨aU E.out.symm,rfl⟩
  .obtain⟨c,rfl⟩:∃G,gk=G+1:=by
    rcases Nat.eq_zero_or_pos gk with h|h
    .subst h;exact absurd g (by omega)
    .exact⟨gk-1,by omega⟩
   have H:x / 35<35 ^ c:=(by rw[Int.pow_succ]at g;omega);have m:=aI j (show _=adG (57+c) (k+36) (x / 35)from by rw[l.out,nN' q];congr 1;omega);clear j l;go_wp2;go_roundg c;exact⟨k+36,x / 35,rfl,rfl,by omega,H,by omega,by omega,by omega,rfl,m⟩;omega
def PlS(w:World)(base:Nat)(g n:Nat)(pl:Nat->Bool):Prop:=base<=g/\g<w.heap.size/\∀k,k<n->w.cell? ⟨g,k,none⟩=some (.bool (pl k))/\w.frozen? ⟨g,k,none⟩=false
def aGq(l:List Int)(pl:Nat->Bool)(w:World)(g:Nat)(s5 s10:Value)(wx:World):Prop:=
 ∃(q:Nat)(a:Int),g+q=l.length/\s10=.int .i64 q/\s5=.int .i64 a/\wx=w/\Hid (sN l pl q a)
theorem aGr(j:Nat->Bool)(A:Option Addr)(n c s g P:Nat)(w:World)(t:aC w ⟨A,n,c⟩ l)(D:PlS w s g l.length j):
 Calls prog 255 #[.slice A n c,.slice (some ⟨g,0,none⟩) l.length P] w λe w'=>∃a,e=.returned (.int .i64 a)/\w=w'/\sN l j l.length a:=by
 have E:=t.len.1;have Q:=t.len;subst E;have C:=ah t;have F:=ah D;clear t D;go_enter func255,ntmps255;go_wp2;go_loopg[5,10] l.length (λG H z I=>aGq l j w G H z I);exact⟨0,-1,by omega,rfl,rfl,rfl,ah (QL l j)⟩;obtain⟨q,a,R,rfl,rfl,rfl,i⟩:=hrel;by_cases k:q<l.length
 .obtain⟨b,o,p,J⟩:=C.out.at_ k;subst p;have r:=(F.out.2.2 q k).1;cases f:j q
  case true=>
   have h:=ah (QS i.out f);rw[f]at r;generalize l[q]=x at*;go_wp2;go_roundg (l.length-(q+1));exact⟨q+1,a,by omega,by go_num,rfl,rfl,h⟩;omega
  rw[f]at r;rcases i.out with⟨rfl,_⟩|⟨m,B,rfl,K,_⟩
  .have h:=ah (QK i.out k f);generalize l[q]=x at*;go_wp2;go_roundg (l.length-(q+1));exact⟨q+1,q,by omega,by go_num,rfl,rfl,h⟩;omega
  .obtain⟨S,T,p,L⟩:=C.out.at_ B;injection p with p;injection p with M N;subst M N;by_cases d:l[q]<l[m]
   .have h:=ah (QO i.out k B f d);have O:decide (l[q]<l[m])=true:=(by rw[au];exact d);generalize l[q]=x at*;generalize l[m]=y at*;clear d;go_wp2;go_roundg (l.length-(q+1));exact⟨q+1,q,by omega,by go_num,rfl,rfl,h⟩;omega
   .have h:=ah (QN i.out k B d);have O:decide (l[q]<l[m])=false:=(by rw[aA];exact d);generalize l[q]=x at*;generalize l[m]=y at*;clear d;go_wp2;go_roundg (l.length-(q+1));exact⟨q+1,m,by omega,by go_num,rfl,rfl,h⟩;omega
 .have h:Hid (sN l j l.length a):=ah (by rw[show l.length=q by omega];exact i.out);clear i;go_wp2;go_ret;exact⟨a,rfl,rfl,h.out⟩
theorem infoBool:(prog.info? 4).map (λi=>(i.zero,i.size,i.bytes))=some (some (.bool false),1,1):=by kernel_rfl
theorem PlS.ext{w w':World}{a g n:Nat}{f:Nat->Bool}(h:PlS w a g n f)(c:Ext w w'):PlS w' a g n f:=
 ⟨h.1,lt' h.2.1 c.b.size,λk d=>⟨aY (bg c) (h.2.2 k d).1,by rw[<- (h.2.2 k d).2];exact c.b.frozen (p:=⟨g,k,none⟩) h.2.1⟩⟩
theorem PlS.congr{w:World}{a g n:Nat}{p q:Nat->Bool}(h:PlS w a g n p)(e:∀k,k<n->p k=q k):PlS w a g n q:=
 ⟨h.1,h.2.1,λk b=>by rw[<- e k b];exact h.2.2 k b⟩
theorem PlS.set{w:World}{b g n a:Nat}{d:Nat->Bool}(h:PlS w b g n d)(f:a<n):PlS (w.setCell ⟨g,a,none⟩ (.bool true)) b g n (λk=>d k||k==a):=
 ⟨h.1,by simpa using h.2.1,λk c=>⟨by
  by_cases e:k=a
  .subst e;rw[World.cell?_setCell_same w _ (.bool true) (h.2.2 k c).1];simp
  .rw[World.cell?_setCell_other w _ _ (.bool true) (by simp;try omega),(h.2.2 k c).1]
   simp[e],by simpa using(h.2.2 k c).2⟩⟩
def FwR(l:List Int)(pl:Nat->Bool)(n i b:Int)(f:Bool)(acc:List Int):Prop:=∀ds,nV l pl n i b f ds->nV l (plc l 128 0) 128 0 72 true (acc++ds)
def Eh(l:List Int)(pl:Nat->Bool)(n i:Int):Prop:=∀k(hk:k<l.length),pl k=false->n<=l[k]/\(l[k]=n->i<=bP pl k)
theorem inv_start:Eh l (plc l 128 0) 128 0:=λk a h=>by
 rw[qg a]at h;simp only[oF',aA]at h;exact⟨by omega,λ_=>by omega⟩
theorem RD{l:List Int}{b:Nat->Bool}{n i:Int}{a:Nat}(h:Eh l b n i)(w:AB l b a)(g:a<l.length)(A:0<=n)(B:0<=i/\i<=bP b l.length)(C:l[a]<=1114111)(o:l.length<=256):
 (0<=(l[a]-n)*((bP b l.length:Int)+1)+bP b a-i/\(l[a]-n)*((bP b l.length:Int)+1)+bP b a-i<2147483648)/\n<=l[a]/\Eh l (λk=>b k||k==a) l[a] (bP b a+1)/\bP (λk=>b k||k==a) l.length=bP b l.length+1:=by
 obtain⟨_,c,f⟩:=w;have j:=h a g c;have p:=uU b l.length;have q:=AO b (Nat.le_of_lt g);have x:=Ef (a:=l[a]-n) (h:=bP b l.length) (by omega) (by omega) (by omega) (by omega);refine⟨⟨?_,by omega⟩,j.1,?_,by rw[AL c,pP' g]⟩
 .by_cases r:l[a]-n=0
  .have:=j.2 (by omega);rw[r];omega
  .have:1*((bP b l.length:Int)+1)<=(l[a]-n)*((bP b l.length:Int)+1):=Int.mul_le_mul_of_nonneg_right (by omega) (by omega);omega
 .intro k s d;simp only[oF',aH]at d;have m:=f k s d.1;refine⟨m.1,λe=>?_⟩;have y:=m.2 e;have t:a<k:=by have:=d.2;omega
  rw[AL c,pP' t];have z:=AO b (show a<=k by omega);omega
def aH6(w:World)(l:List Int)(G:Nat)(g:Nat)(s4 s26:Value)(wx:World):Prop:=
 ∃k:Nat,g+k=l.length/\s26=.int .i64 k/\s4=.string (sB (iR (l.take k)))/\Hid (PlS wx G G l.length (λj=>decide (j<k)&&plc l 128 0 j))/\Ext w wx/\Hid ((l.take k).any (λc=> !bn c)=false)
def Ko(w:World)(l:List Int)(G:Nat)(g:Nat)(s4 s8 s9 s10 s11:Value)(wx:World):Prop:=
 ∃(pl:Nat->Bool)(n i b:Int)(f:Bool)(S acc:List Int),Hid (g+bP pl l.length=l.length)/\s4=.string (sB S)/\s8=.int .i64 n/\s9=.int .i64 i/\s10=.int .i64 b/\s11=.bool f/\Hid (S=lQ l++acc.map eH)/\
  Hid (PlS wx G G l.length pl)/\Ext w wx/\Hid (FwR l pl n i b f acc)/\Hid (Eh l pl n i)/\0<=n/\n<=1114111/\0<=i/\Hid (i<=bP pl l.length)/\0<=b/\b<=2400/\Hid (S.length<=257+64*bP pl l.length)
def aRO(l:List Int)(pl:Nat->Bool)(a:Nat)(w1:World)(g:Nat)(s13 s14 s58:Value)(wx:World):Prop:=
 ∃q:Nat,g+q=l.length/\s58=.int .i64 q/\s13=.int .i64 (bP pl q)/\s14=.int .i64 (bP pl (min q a))/\wx=w1
theorem aGu(hi:aC w ⟨A,n,c⟩ l):Calls prog 198 #[.slice A n c] w (xB w (jE l)):=by
 have HD:Hid (jE l=if 256<l.length then([],7)else if l.any (λc=> !bn c)then([],3)else(jZ l,0)):=rfl;generalize jE l=D at*;have hn:=hi.len.1;subst hn;have HI:=ah hi;clear hi;by_cases h1:256<l.length
 .rw[pP' h1]at HD;go_enter func198,ntmps198;go_wp2;go_ret2;exact⟨by rw[HD.out];rfl,eR'⟩
 rw[nN' h1]at HD;obtain⟨i0,O,ax,az,aD⟩:=info_parts infoBool;go_enter func198,ntmps198;go_wp2_with(at_make;refine wpList_make_full _ rfl _ _ 236 rfl w.heap.size 4 i0 (.bool false) 1 underlying236 O ax az .i64 .i64 _ _ l.length rfl rfl rfl rfl (by rw[aD];omega) (by unfold maxLen;omega) (lr' _) ?_);intro w1 g aE
 have a0:Hid (PlS w1 w.heap.size w.heap.size l.length (λj=>decide (j<0)&&plc l 128 0 j)):=ah (by
  rw[toList_madeCells_one]at g;refine⟨lr' _,(World.ownsRow.lt g w.heap.size rfl).2,λk C=>⟨?_,World.ownsRow.frozenAt g k⟩⟩;rw[World.ownsRow.cellAt g k (by omega),List.getElem?_replicate,pP' (by omega)]
  rfl)
 have aL:Hid (Ext w w1):=ah (dV eR' aE (λk C=>by cases C));clear g aE O ax az aD;obtain⟨G,hG⟩:=eY' w.heap.size;rw[hG]at a0 |-;have HG:Hid (w.heap.size<=G):=ah (by omega);clear hG;go_wp2;go_loopg[4,26] l.length (λgh s4 bj wx=>aH6 w l G gh s4 bj wx);exact⟨0,by omega,rfl,rfl,a0,aL.out,rfl⟩;clear a0 aL;obtain⟨k,hg,rfl,rfl,t,P,HN⟩:=hrel;have B:=ah P;have a3:=Gl (l.take k);rw[List.length_take]at a3;clear P;by_cases C:k<l.length
 .obtain⟨b,o,hA,aR⟩:=(HI.out.ext B.out).at_ C;subst hA;have aW:=ah (xC (f:=λc=> !bn c) C);have b0:=ah (anyM (f:=λc=> !bn c) C);have HT:=ah (JO C);have Q:=ah (qg C 128 0);generalize l[k]=x at*;go_wp2_with fail;refine(yQ _ _).mono ?_;rintro e w'⟨rfl,rfl⟩;cases hs:bn x
  .have HF:Hid (D=([],3)):=ah (by rw[HD.out,pP' (b0.out (by simp[hs]))]);have P:=B.out;go_wp2;go_ret2;exact⟨by rw[HF.out];rfl,P⟩
  .have b4:Hid ((l.take (k+1)).any (λc=> !bn c)=false):=ah (by rw[aW.out,HN.out];simp[hs]);have hx:=uT hs;clear HN aW b0;by_cases b5:x<128
   .rw[pP' b5]at HT;have F:plc l 128 0 k=true:=(by rw[Q.out];simp;omega);have bH:=yI wr #[.int .u8 x] [x] 1 rfl rfl (by omega);have b6:Ext wr (wr.alloc (.cells #[.int .u8 x] 5)):=eR'.ay _;have R:=ah (t.out.ext b6);have bI:=(R.out.2.2 k C).1;have bL:=(R.out.2.2 k C).2
    have a4:Hid (PlS ((wr.alloc (.cells #[.int .u8 x] 5)).setCell ⟨G,k,none⟩ (.bool true)) G G l.length (λj=>decide (j<k+1)&&plc l 128 0 j)):=ah ((R.out.set C).congr (λj _=>by
     by_cases e:j=k
     .subst e;simp[F]
     .have e1:decide (j<k+1)=decide (j<k):=(by rw[decide_eq_decide];omega);have e2:(j==k)=false:=by rw[aH];exact e
      simp only[e1,e2,Bool.or_false]))
    have bk:Hid (Ext w ((wr.alloc (.cells #[.int .u8 x] 5)).setCell ⟨G,k,none⟩ (.bool true))):=ah ((B.out.trans' b6).jP HG.out _);have bN:[x].length<=1:=lr' _;have bl:Hid (iR (l.take k)++[x]=iR (l.take (k+1))):=ah HT.out.symm;generalize[x]=E at*;generalize iR (l.take k)=S at*;clear t R HT Q F;go_wp2;go_roundg (l.length-(k+1));exact⟨k+1,by omega,by go_num,by rw[bl.out],a4,bk.out,b4⟩;omega
   .rw[nN' b5,List.append_nil]at HT;have F:plc l 128 0 k=false:=by rw[Q.out];simp;omega
    have a4:Hid (PlS wr G G l.length (λj=>decide (j<k+1)&&plc l 128 0 j)):=ah (t.out.congr (λj _=>by
     by_cases e:j=k
     .subst e;simp[F]
     .have e1:decide (j<k+1)=decide (j<k):=by rw[decide_eq_decide];omega
      simp only[e1]))
    clear t Q F;go_wp2;go_roundg (l.length-(k+1));exact⟨k+1,by omega,by go_num,by rw[HT.out],a4,B.out,b4⟩;omega
 .have he:l.take k=l:=tL' (by omega);rw[he]at HN a3;have HF:Hid (D=(jZ l,0)):=ah (by rw[HD.out,nN' (by rw[HN.out];simp)])
  have lZ:Hid (∀x∈l,0<=x/\x<=1114111):=ah (λx hx=>uT (by
   cases hs:bn x
   .have h:l.any (λc=> !bn c)=true:=List.any_eq_true.2 ⟨x,hx,by simp[hs]⟩;rw[HN.out]at h;cases h
   .rfl))
  have a5:Hid (PlS wr G G l.length (plc l 128 0)):=ah (t.out.congr (λj hj=>by
   have:decide (j<k)=true:=dT'
   simp only[this,Bool.true_and]))
  have hl:l.length<=256:=by omega
  rw[he];have gK:Hid (lQ l=iR l++if(iR l).length=0 then[]else[45]):=rfl;have a6:=ah (uU (plc l 128 0) l.length);have z:=ah (JW (l:=l) l.length (lr' _));rw[tL' (lr' _)]at z;clear a3 h1 hg HD HN t he;generalize wr=w2 at*;generalize iR l=S at*;have bm:=a6.out;rw[z.out]at bm
  have T:Hid (∀M,M=lQ l->Ko w l G (l.length-S.length) (.string (sB M)) (.int .i64 128) (.int .i64 0) (.int .i64 72) (.bool true) w2):=ah (λM e=>by
   refine⟨plc l 128 0,128,0,72,true,M,[],ah (by rw[z.out];omega),rfl,rfl,rfl,rfl,rfl,ah (by simpa using e),a5,B.out,ah (λN h=>h),ah (inv_start l),by omega,by omega,by omega,ah (by omega),by omega,by omega,ah ?_⟩;rw[e,gK.out,lA',z.out]
   split<;>simp<;>omega)
  have a7:=sO S;cases hS:S.isEmpty
  case' true=>
   rw[hS]at a7;have U:=ah (T.out S (by rw[gK.out,List.isEmpty_iff.1 hS];rfl));clear T gK a6 z a5 B hS;go_wp2;go_loopg[4,8,9,10,11] (l.length-S.length) (λgh s4 s8 s9 a9 aa wx=>Ko w l G gh s4 s8 s9 a9 aa wx)
   case atStart=>exact U.out
  case' false=>
   rw[hS]at a7;have U:=ah (T.out (S++[45]) (by rw[gK.out,nN' (by intro h;rw[List.eq_nil_of_length_eq_zero h]at hS;cases hS)]));have bo:(⟨#[45]⟩:ByteArray)=sB [45]:=rfl;clear T gK a6 z a5 B hS;go_wp2_with fail;clear bo;go_loopg[4,8,9,10,11] (l.length-S.length) (λgh s4 s8 s9 a9 aa wx=>Ko w l G gh s4 s8 s9 a9 aa wx)
   case atStart=>exact U.out
  all_goals
   clear a7 U;obtain⟨d,n,i,b,f,M,ab,ac,rfl,rfl,rfl,rfl,rfl,HS,t,P,ad,b9,bp,bO,O,ae,bQ,bR,ba⟩:=hrel;have B:=ah P;have fZ:=ah (uU d l.length);obtain⟨g2,bq⟩:=eX' gk;rw[<- bq]at ac;clear P;go_wp2_with fail;refine(aGr l d A l.length c G G l.length wr (HI.out.ext B.out) t.out).mono ?_;rintro e w'⟨a,rfl,rfl,hq⟩;rcases QT hq with⟨rfl,Z⟩|⟨m,rfl,bb⟩
   .have hR:=ad.out [] (.done Z);rw[List.append_nil]at hR;have br:Hid (D=(M,0)):=ah (by rw[HF.out];unfold jZ;rw[JZ hR,HS.out]);have P:=B.out;clear Z hq hR;go_wp2;go_ret2;exact⟨by rw[br.out];rfl,P⟩
   .have af:=ah bb;obtain⟨W,_,_⟩:=bb;have bS:decide ((m:Int)<0)=false:=dF';clear hq;generalize wr=w3 at*;go_wp2;go_loopg[13,14,58] l.length (λgh bs bt bu wx=>aRO l d m w3 gh bs bt bu wx);exact⟨0,by omega,rfl,rfl,by simp[bP],rfl⟩;obtain⟨q,bv,rfl,rfl,rfl,rfl⟩:=hrel;have bw:=uU d q;have bx:=uU d (min q m);by_cases hq:q<l.length
    .have bc:=(t.out.2.2 q hq).1;have p:=ah (yJ d q);have r:Hid (q<m->min (q+1) m=q+1/\min q m=q):=ah (by omega);have s:Hid (¬q<m->min (q+1) m=m/\min q m=m):=ah (by omega);cases bd:d q
     .rw[bd]at bc p
      have I:Hid (bP d (min (q+1) m)=bP d (min q m)):=ah (by
       by_cases h:q<m
       .rw[(r.out h).1,(r.out h).2,p.out];rfl
       .rw[(s.out h).1,(s.out h).2])
      have K:Hid (bP d (q+1)=bP d q):=p;clear p r s;go_wp2;go_roundg (l.length-(q+1));exact⟨q+1,by omega,by go_num,by rw[K.out],by rw[I.out],rfl⟩;omega
     .rw[bd]at bc p;have K:Hid (bP d (q+1)=bP d q+1):=p;by_cases h:q<m
      .have I:Hid (bP d (min (q+1) m)=bP d (min q m)+1):=ah (by rw[(r.out h).1,(r.out h).2,K.out]);clear p r s;go_wp2;go_roundg (l.length-(q+1));exact⟨q+1,by omega,by go_num,by rw[K.out];go_num,by rw[I.out];go_num,rfl⟩;omega
      .have I:Hid (bP d (min (q+1) m)=bP d (min q m)):=ah (by rw[(s.out h).1,(s.out h).2]);clear p r s;go_wp2;go_roundg (l.length-(q+1));exact⟨q+1,by omega,by go_num,by rw[K.out];go_num,by rw[I.out],rfl⟩;omega
    .have X:=lZ.out _ (gM' W);obtain⟨hv,bz,RP,L⟩:=RD b9.out af.out W bp ⟨O,ae.out⟩ X.2 hl
     have Ce:Hid (FwR l (λk=>d k||k==m) l[m] (bP d m+1) (nJ ((l[m]-n)*((bP d l.length:Int)+1)+bP d m-i) ((bP d l.length:Int)+1) f) false (ab++iQ b 64 0 ((l[m]-n)*((bP d l.length:Int)+1)+bP d m-i))):=ah (λN hr=>by
      rw[List.append_assoc]
      exact ad.out _ (.step W af.out rfl hr))
     have Kw:=ah RP;have Gy:=ah L;have Y:=ah (AO d (Nat.le_of_lt W));have bA:=fZ.out;have RN:=uU (λk=>d k||k==m) l.length;rw[L]at RN;have Kv:=ah ba.out;have RV:=ah ac.out;have RX:=ah ae.out;have bB:Hid (PlS (wr.setCell ⟨G,m,none⟩ (.bool true)) G G l.length (λk=>d k||k==m)):=ah (t.out.set W);have be:Hid (Ext w (wr.setCell ⟨G,m,none⟩ (.bool true))):=ah (B.out.jP HG.out _);have bT:=(t.out.2.2 m W).1;have bU:=(t.out.2.2 m W).2;obtain⟨b',o',hA,aR⟩:=(HI.out.ext B.out).at_ W;subst hA;obtain⟨bX,c0,ai,bC⟩:=(HI.out.ext be.out).at_ W;injection ai with ai;injection ai with e1 e2;subst e1 e2;rw[show q=l.length by omega,show min l.length m=m by omega];clear ad b9 t af fZ RP L bw bx hq bv ba ac ae;have al:=Ef (a:=l[m]-n) (h:=bP d l.length) (by omega) (by omega) (by omega) (by omega);obtain⟨H,hH⟩:=eY' (bP d l.length);obtain⟨J,hJ⟩:=eY' (bP d m);rw[hH]at hv Ce Gy Kv RV RX bA al Y RN |-;rw[hJ]at hv Ce Kw Y |-;have c1:=Y.out;clear hH hJ Y;obtain⟨y,hy⟩:=eY' (l[m]);rw[hy]at hv Ce Kw al aR bC bz X;clear hy;have bf:(1:Int)<=(H:Int)+1/\(H:Int)+1<=4096:=(by omega);have am:=ah (aGt ((y-n)*((H:Int)+1)+J-i) b hv (by omega) wr);have an:=ah (Ry ((y-n)*((H:Int)+1)+J-i) ((H:Int)+1) f hv bf wr);have ao:=Gm (f:=f) hv.1 bf.1;have ap:=Gj b 64 0 ((y-n)*((H:Int)+1)+J-i);obtain⟨N,bh⟩:=eY' (iQ b 64 0 ((y-n)*((H:Int)+1)+J-i));rw[bh]at am Ce ap;obtain⟨b2,bi⟩:=eY' (nJ ((y-n)*((H:Int)+1)+J-i) ((H:Int)+1) f);rw[bi]at an ao Ce;have c2:M.length<=17000:=(by have:=Kv.out;omega);have c3:(N.map eH).length<=64:=(by rw[List.length_map];exact ap);have bE:Hid (M++N.map eH=lQ l++(ab++N).map eH):=ah (by rw[HS.out];simp);have bG:Hid ((M++N.map eH).length<=257+64*(H+1)):=ah (by rw[lA'];have:=Kv.out;omega);generalize N.map eH=E at*;clear bh bi ap;obtain⟨V,hV⟩:=eY' ((y-n)*((H:Int)+1));rw[hV]at hv am an al;have c4:i<=H:=RX.out;go_wp2_with fail;refine am.out.mono ?_;rintro e w'⟨rfl,rfl⟩;go_wp2_with fail;refine an.out.mono ?_;rintro e w'⟨rfl,rfl⟩;go_wp2_with fail;have c5:=RV.out;go_roundg (g2-1);exact⟨_,y,(J:Int)+1,b2,false,M++E,ab++N,ah (by rw[Gy.out];omega),rfl,rfl,rfl,rfl,rfl,bE,bB,be.out,Ce,Kw,X.1,X.2,by omega,ah (by rw[Gy.out];omega),ao.1,ao.2,ah (by rw[Gy.out];exact bG.out)⟩;omega
end Go.Proofs.YtljilcbobhmkgaaGreatDoor
