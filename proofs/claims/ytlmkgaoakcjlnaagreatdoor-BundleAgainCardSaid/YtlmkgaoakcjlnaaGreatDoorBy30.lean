/- Part By30. -/
import Derived.Test.YtlmkgaoakcjlnaaGreatDoorBy29
open Go.Proofs.Tryz
namespace Go.Proofs.YtlmkgaoakcjlnaaGreatDoor
set_option maxHeartbeats 25600000
set_option maxRecDepth 100000
open Go.RowKit
variable (T:aj)(t:TV)(l:List Int)(A:Option Addr)(n c:Nat)(w:World)
theorem Wu(b:Int):∀(ds:List (Option Int))(j v w x:Int)(r:List (Option Int)),jS b ds j v w=some (x,r)->r.length<ds.length
 |[],_,_,_,_,_,h=>by cases h
 |none::_,_,_,_,_,_,h=>by cases h
 |some d::ds,j,v,w,x,r,h=>by
  unfold jS at h;split at h
  .injection h with h;injection h with _ h;subst h;simp
  .have:=Wu b ds _ _ _ _ _ h;simp only[List.length_cons];omega
theorem Ws:∀(g:Nat)(ds:List (Option Int))(o:List Int)(n i b:Int)(f:Bool)(l:List Int),0<=i->decP g ds o n i b f=.ok l->l.length<=o.length+ds.length
 |0,_,o,_,_,_,_,l,_,h=>by
  unfold decP at h;injection h with h;subst h;omega
 |g+1,ds,o,n,i,b,f,l,hi,h=>by
  by_cases a:ds=[]
  .subst a;unfold decP at h;injection h with h;subst h;simp
  .rw[NQ a]at h;split at h
   .cases h
   .rename_i v r c;have j:=Wu b ds 0 0 1 v r c;split at h
    .cases h
    .split at h
     .cases h
     .have k:=Int.emod_nonneg (v+i) (b:=(o.length:Int)+1) (by omega);have d:=Int.emod_lt_of_pos (v+i) (b:=(o.length:Int)+1) (by omega);have:=Ws g r _ _ _ _ _ l (by omega) h;rw[AQ _ _ _ (by omega)]at this;omega
theorem OA(s:List Int):(pdU s).1.length<=s.length:=by
 unfold pdU;split
 .simp
 .split
  .simp
  .cases a:decP (ru s).length ((ru s).map fZ) (s.take (hyB s)) 128 0 72 true with
   |DX=>simp[resD]
   |over=>simp[resD]
   |ok l=>
    have h:=Ws _ _ _ _ _ _ _ l (by omega) a;simp only[resD];unfold ru at h;split at h
    .rename_i b;rw[b]at h;simpa using h
    .simp at h;omega
theorem Wy:IsB (alE l).1:=by
 unfold alE;split
 .exact tK
 .split
  .rename_i b;split
   .exact tK
   .intro x a;have:=FV b x a;omega
  .split
   .exact tK
   .rename_i c;split
    .exact tK
    .exact EU (by intro x a;simp at a;omega) (Wh l (by omega))
def aMe(w1:World)(s:List Int)(g:Nat)(so si:Value)(wx:World):Prop:=
 ∃(A:Option Addr)(c k:Nat),g+k=s.length/\si=.int .i64 k/\so=.slice A k c/\aK wx w1.heap.size A k c (s.take k)/\Ext w1 wx/\Hid ((s.take k).any (λb=>decide (127<b))=false)
theorem aMi(s:List Int)(hs:IsB s)(hm:s.length<=1000000)(w:World):Calls prog 159 #[.string (sB s)] w (DZ w (alD s)):=by
 have d:Hid (alD s=if s.length=0 then([],10)else if s.any (λb=>decide (127<b))then([],12)else if 63<s.length then([],11)else if isX s=false then(s,0)
  else if(pdU (fQ (s.drop 4))).2≠0 then([],(pdU (fQ (s.drop 4))).2)else if jI (pdU (fQ (s.drop 4))).1=true then([],12)
  else if(alE (pdU (fQ (s.drop 4))).1).2≠0\/(alE (pdU (fQ (s.drop 4))).1).1≠fQ s then([],12)else((pdU (fQ (s.drop 4))).1,0)):=rfl
 have p:=ah hs;generalize alD s=D at*;clear hs;have r:=xU s;by_cases I:s.length=0
 .rw[pP' I]at d;rw[List.eq_nil_of_length_eq_zero I,show([]:List Int).isEmpty=true from rfl]at r;rw[List.eq_nil_of_length_eq_zero I];clear I;go_enter func159,ntmps159;go_wp2;go_ret2;exact⟨none,0,0,by rw[d.out];rfl,by rw[d.out];exact aF.nil_ w,eR'⟩
 rw[nN' I]at d;rw[show s.isEmpty=false from by cases s with|nil=>exact absurd rfl I|cons a b=>rfl]at r;obtain⟨cc,w1,ac,K,L,_⟩:=Ik (w:=w) p.out (by omega);have ad:=ah K;have M:=ah L;go_enter func159,ntmps159;go_wp2_with fail;clear r ac K L;go_loopg[4,15] s.length (λgh so si wx=>aMe w1 s gh so si wx);exact⟨none,0,0,by omega,rfl,rfl,Own.nil_ _ _ _ _,eR',rfl⟩;obtain⟨A,c,k,hg,rfl,rfl,o,N,O⟩:=hrel;have HO:=ah o;have Q:=ah N;clear o N;by_cases J:k<s.length
 .have hr:=xQ p.out k;obtain⟨b',o',hA,ag⟩:=(ad.out.ext Q.out).at_ J;injection hA with hA;injection hA with e1 e2;subst e1 e2;rw[Nat.zero_add,<- getD_lt s k 0 J]at ag;have t:=ah (yM (f:=λb=>decide (127<b)) J);have x:=ah (anyM (f:=λb=>decide (127<b)) J);have HT:Hid (s.take (k+1)=s.take k++[s[k]]):=ah (tS' J);rw[<- getD_lt s k 0 J]at t x HT;generalize s.getD k 0=y at*;by_cases R:127<y
  .have HF:Hid (D=([],12)):=ah (by rw[d.out,pP' (x.out (by simp[R]))]);have g:=M.out.trans' Q.out;go_wp2;go_ret2;exact⟨none,0,0,by rw[HF.out];rfl,by rw[HF.out];exact aF.nil_ _,g⟩
  .have al:Hid ((s.take (k+1)).any (λb=>decide (127<b))=false):=ah (by rw[t.out,O.out];simp;omega);obtain⟨A5,c5,w5,S,i,j,_⟩:=yJ HO.out Q.out y (by omega);have bP:Hid (aK w5 w1.heap.size A5 (k+1) c5 (s.take (k+1))):=ah (by rw[HT.out];exact i);have T:=ah j;clear i j O t x HT;go_wp2_with(at_builtin;refine dI rfl _ _ _ rfl _ _ rfl rfl _ _ S ?_);go_roundg (s.length-(k+1));exact⟨A5,c5,k+1,by omega,by go_num,rfl,bP.out,T.out,al⟩;omega
 .have he:s.take k=s:=tL' (by omega);rw[he]at HO O;rw[nN' (by rw[O.out];simp)]at d;have z:=ah (M.out.trans' Q.out);have U:=ah (aK.ints HO.out);have bf:k<=s.length/\s.length<=k:=by omega
  clear O HO he Q;generalize wr=w3 at*;by_cases V:63<s.length
  .rw[pP' V]at d;have g:=z.out;go_wp2;go_ret2;exact⟨none,0,0,by rw[d.out];rfl,by rw[d.out];exact aF.nil_ _,g⟩
  rw[nN' V]at d;have B:=ah (Wj s p.out w3);obtain⟨X,hX⟩:=eY' (isX s)
  have mX:Hid (X=true->4<=s.length):=ah (by
   intro h;rw[<- hX]at h;unfold isX at h;rw[aT]at h
   exact of_decide_eq_true h.1)
  rw[hX]at d B;clear hX;go_wp2_with fail;refine B.out.mono ?_;rintro e w4⟨rfl,C⟩;have T:=ah (z.out.trans' C);have lS:=ah (U.out.ext C);clear B C z U;cases X
  .rw[pP' rfl]at d;have g:=T.out;have hi:=lS.out;go_wp2;go_ret2;exact⟨A,_,c,by rw[d.out];rfl,by rw[d.out];exact hi,g⟩
  rw[nN' (by simp)]at d;have h4:=mX.out rfl;have Y:∀W,(Instr.slice 9 (.string (sB s)) (some (.int .i64 4)) none none).run prog W=.ok (.string (sB (s.drop 4))) W:=λW=>DC W (l:=s) (k:=4) h4
  have Z:(s.drop 4).length<=63:=by rw[List.length_drop];omega
  have a0:=ah (Ou (s.drop 4) (Ap p.out 4) (by omega) w4);have FW:=ah (λW=>Ou s p.out (by omega) W);have ap:=ah (E8 (Ap p.out 4));have a1:=ah (OA (fQ (s.drop 4)));have bj:(fQ (s.drop 4)).length<=63:=by rw[E5];exact Z
  have a2:=ah (λW=>aJw (fQ (s.drop 4)) ap.out W);have aq:=ah (E8 p.out);clear mX Z;generalize s.drop 4=s4 at*;generalize fQ s4=u at*;generalize fQ s=sl at*;go_wp2_with fail;refine a0.out.mono ?_;rintro e w5⟨rfl,j⟩;have eP:=ah (T.out.trans' j);clear a0 j T lS Y;go_wp2_with fail;refine(a2.out w5).mono ?_;rintro e w6⟨A6,n6,c6,rfl,vK,a3⟩;have lQ:=ah (eP.out.trans' a3);have ay:=a1.out;generalize pdU u=P at*;obtain⟨q,pe⟩:=P;simp only at d vK ay;have az:=vK.len.1;subst az;have qC:=ah vK;clear eP a3 vK a2 a1;by_cases F:pe=0
  case neg=>
   rw[pP' F]at d;have g:=lQ.out;go_wp2;go_ret2;exact⟨none,0,0,by rw[d.out];rfl,by rw[d.out];exact aF.nil_ _,g⟩
  rw[nN' (by rw[F];simp)]at d;subst F;have a4:=ah (λW(h:Ext w6 W)=>Oy q A6 q.length c6 W (qC.out.ext h));have a5:=ah (Wn q A6 q.length c6 w6 qC.out (by omega));have a6:=ah (Wy q);generalize jI q=av at*;generalize alE q=E at*;obtain⟨ae,ee⟩:=E;simp only at d a6;have a7:=vO a6.out aq.out;go_wp2_with fail;refine(a4.out w6 eR').mono ?_;rintro e w'⟨rfl,rfl⟩;cases av
  case true=>
   rw[pP' rfl]at d;have g:=lQ.out;go_wp2;go_ret2;exact⟨none,0,0,by rw[d.out];rfl,by rw[d.out];exact aF.nil_ _,g⟩
  rw[nN' (by simp)]at d;go_wp2_with fail;refine a5.out.mono ?_;rintro e w7⟨rfl,G⟩;have jX:=ah (lQ.out.trans' G);have aE:=ah (qC.out.ext G);clear lQ G qC a5 a4;by_cases H:ee=0
  case neg=>
   rw[pP' (.inl H)]at d;have bm:(ee != 0)=true:=bN' H;have g:=jX.out;go_wp2;go_ret2;exact⟨none,0,0,by rw[d.out];rfl,by rw[d.out];exact aF.nil_ _,g⟩
  subst H;by_cases m:ae=sl
  .rw[nN' (by simp[m])]at d;rw[dt' m]at a7;go_wp2_with fail;refine(FW.out _).mono ?_;rintro e w8⟨rfl,n⟩;have g:=jX.out.trans' n;have hi:=aE.out.ext n;go_wp2;go_ret2;exact⟨A6,_,c6,by rw[d.out];rfl,by rw[d.out];exact hi,g⟩
  .rw[pP' (.inr m)]at d;rw[df' m]at a7;go_wp2_with fail;refine(FW.out _).mono ?_;rintro e w8⟨rfl,n⟩;have g:=jX.out.trans' n;go_wp2;go_ret2;exact⟨none,0,0,by rw[d.out];rfl,by rw[d.out];exact aF.nil_ _,g⟩
def aMd(w1:World)(s:List Int)(g:Nat)(so si:Value)(wx:World):Prop:=
 ∃(A:Option Addr)(c k:Nat),g+k=s.length/\si=.int .i64 k/\so=.slice A k c/\aK wx w1.heap.size A k c (s.take k)/\Ext w1 wx/\Hid ((s.take k).any (λb=>decide (127<b))=false)
theorem aMh(s:List Int)(hs:IsB s)(hm:s.length<=1000000)(w:World):Calls prog 62 #[.string (sB s)] w (DZ w (alD s)):=by
 have d:Hid (alD s=if s.length=0 then([],10)else if s.any (λb=>decide (127<b))then([],12)else if 63<s.length then([],11)else if isX s=false then(s,0)
  else if(pdU (fQ (s.drop 4))).2≠0 then([],(pdU (fQ (s.drop 4))).2)else if jI (pdU (fQ (s.drop 4))).1=true then([],12)
  else if(alE (pdU (fQ (s.drop 4))).1).2≠0\/(alE (pdU (fQ (s.drop 4))).1).1≠fQ s then([],12)else((pdU (fQ (s.drop 4))).1,0)):=rfl
 have r:=ah hs;generalize alD s=D at*;clear hs;have t:=xU s;by_cases I:s.length=0
 .rw[pP' I]at d;rw[List.eq_nil_of_length_eq_zero I,show([]:List Int).isEmpty=true from rfl]at t;rw[List.eq_nil_of_length_eq_zero I];clear I;go_enter func62,ntmps62;go_wp2;go_ret2;exact⟨none,0,0,by rw[d.out];rfl,by rw[d.out];exact aF.nil_ w,eR'⟩
 rw[nN' I]at d;rw[show s.isEmpty=false from by cases s with|nil=>exact absurd rfl I|cons a b=>rfl]at t;have J:Hid (Ext w w):=ah eR';go_enter func62,ntmps62;go_wp2_with fail;clear t;go_loopg[4,5] s.length (λgh so si wx=>aMd w s gh so si wx);exact⟨none,0,0,by omega,rfl,rfl,Own.nil_ _ _ _ _,eR',rfl⟩;obtain⟨A,c,k,hg,rfl,rfl,p,K,L⟩:=hrel;have HO:=ah p;have HX:=ah K;clear p K;by_cases M:k<s.length
 .have hr:=xQ r.out k;have b6:∀W,(Instr.index 9 (.string (sB s)) (.int .i64 (k:Int))).run prog W=.ok (.int .u8 (s.getD k 0)) W:=ixc r.out M;have x:=ah (yM (f:=λb=>decide (127<b)) M);have z:=ah (anyM (f:=λb=>decide (127<b)) M);have HT:Hid (s.take (k+1)=s.take k++[s[k]]):=ah (tS' M);rw[<- getD_lt s k 0 M]at x z HT;generalize s.getD k 0=y at*;by_cases N:127<y
  .have HF:Hid (D=([],12)):=ah (by rw[d.out,pP' (z.out (by simp[N]))]);have g:=J.out.trans' HX.out;go_wp2;go_ret2;exact⟨none,0,0,by rw[HF.out];rfl,by rw[HF.out];exact aF.nil_ _,g⟩
  .have ab:Hid ((s.take (k+1)).any (λb=>decide (127<b))=false):=ah (by rw[x.out,L.out];simp;omega);obtain⟨A5,c5,w5,O,i,j,_⟩:=yJ HO.out HX.out y (by omega);have bP:Hid (aK w5 w.heap.size A5 (k+1) c5 (s.take (k+1))):=ah (by rw[HT.out];exact i);have Q:=ah j;clear i j L x z HT;go_wp2_with(at_builtin;refine dI rfl _ _ _ rfl _ _ rfl rfl _ _ O ?_);go_roundg (s.length-(k+1));exact⟨A5,c5,k+1,by omega,by go_num,rfl,bP.out,Q.out,ab⟩;omega
 .have he:s.take k=s:=tL' (by omega);rw[he]at HO L;rw[nN' (by rw[L.out];simp)]at d;have B:=ah (J.out.trans' HX.out);have R:=ah (aK.ints HO.out);have b8:k<=s.length/\s.length<=k:=by omega
  clear L HO he HX;generalize wr=w3 at*;by_cases S:63<s.length
  .rw[pP' S]at d;have g:=B.out;go_wp2;go_ret2;exact⟨none,0,0,by rw[d.out];rfl,by rw[d.out];exact aF.nil_ _,g⟩
  rw[nN' S]at d;have C:=ah (Wi s r.out w3);obtain⟨X,hX⟩:=eY' (isX s)
  have mX:Hid (X=true->4<=s.length):=ah (by
   intro h;rw[<- hX]at h;unfold isX at h;rw[aT]at h
   exact of_decide_eq_true h.1)
  rw[hX]at d C;clear hX;go_wp2_with fail;refine C.out.mono ?_;rintro e w4⟨rfl,F⟩;have Q:=ah (B.out.trans' F);have lS:=ah (R.out.ext F);clear C F B R;cases X
  .rw[pP' rfl]at d;have g:=Q.out;have hi:=lS.out;go_wp2;go_ret2;exact⟨A,_,c,by rw[d.out];rfl,by rw[d.out];exact hi,g⟩
  rw[nN' (by simp)]at d;have h4:=mX.out rfl;have T:∀W,(Instr.slice 9 (.string (sB s)) (some (.int .i64 4)) none none).run prog W=.ok (.string (sB (s.drop 4))) W:=λW=>DC W (l:=s) (k:=4) h4
  have U:(s.drop 4).length<=63:=by rw[List.length_drop];omega
  have V:=ah (Oq (s.drop 4) (Ap r.out 4) (by omega) w4);have FW:=ah (λW=>Oq s r.out (by omega) W);have ag:=ah (E8 (Ap r.out 4));have Y:=ah (OA (fQ (s.drop 4)));have bb:(fQ (s.drop 4)).length<=63:=by rw[E5];exact U
  have Z:=ah (λW=>aKV (fQ (s.drop 4)) ag.out W);have ai:=ah (E8 r.out);clear mX U;generalize s.drop 4=s4 at*;generalize fQ s4=u at*;generalize fQ s=sl at*;go_wp2_with fail;refine V.out.mono ?_;rintro e w5⟨rfl,j⟩;have eP:=ah (Q.out.trans' j);clear V j Q lS T;go_wp2_with fail;refine(Z.out w5).mono ?_;rintro e w6⟨A6,n6,c6,rfl,vK,a0⟩;have lQ:=ah (eP.out.trans' a0);have ao:=Y.out;generalize pdU u=P at*;obtain⟨q,pe⟩:=P;simp only at d vK ao;have ap:=vK.len.1;subst ap;have qC:=ah vK;clear eP a0 vK Z Y;by_cases G:pe=0
  case neg=>
   rw[pP' G]at d;have g:=lQ.out;go_wp2;go_ret2;exact⟨none,0,0,by rw[d.out];rfl,by rw[d.out];exact aF.nil_ _,g⟩
  rw[nN' (by rw[G];simp)]at d;subst G;have a1:=ah (λW(h:Ext w6 W)=>Ox q A6 q.length c6 W (qC.out.ext h));have a2:=ah (Wv q A6 q.length c6 w6 qC.out (by omega));have a3:=ah (Wy q);generalize jI q=av at*;generalize alE q=E at*;obtain⟨ae,ee⟩:=E;simp only at d a3;have a4:=vO a3.out ai.out;go_wp2_with fail;refine a2.out.mono ?_;rintro e w7⟨rfl,m⟩;have jX:=ah (lQ.out.trans' m);have aq:=ah (qC.out.ext m);have ar:=ah (a1.out w7 m);clear lQ m qC a2 a1;go_wp2_with fail;refine ar.out.mono ?_;rintro e w'⟨rfl,rfl⟩;cases av
  case true=>
   rw[pP' rfl]at d;have g:=jX.out;go_wp2;go_ret2;exact⟨none,0,0,by rw[d.out];rfl,by rw[d.out];exact aF.nil_ _,g⟩
  rw[nN' (by simp)]at d;by_cases H:ee=0
  case neg=>
   rw[pP' (.inl H)]at d;have bf:(ee != 0)=true:=bN' H;have g:=jX.out;go_wp2;go_ret2;exact⟨none,0,0,by rw[d.out];rfl,by rw[d.out];exact aF.nil_ _,g⟩
  subst H;by_cases n:ae=sl
  .rw[nN' (by simp[n])]at d;rw[dt' n]at a4;go_wp2_with fail;refine(FW.out _).mono ?_;rintro e w8⟨rfl,o⟩;have g:=jX.out.trans' o;have hi:=aq.out.ext o;go_wp2;go_ret2;exact⟨A6,_,c6,by rw[d.out];rfl,by rw[d.out];exact hi,g⟩
  .rw[pP' (.inr n)]at d;rw[df' n]at a4;go_wp2_with fail;refine(FW.out _).mono ?_;rintro e w8⟨rfl,o⟩;have g:=jX.out.trans' o;go_wp2;go_ret2;exact⟨none,0,0,by rw[d.out];rfl,by rw[d.out];exact aF.nil_ _,g⟩
def lN(T:aj)(c:Int):Bool:=c==46||(eH T c != 1&&eH T c != 4)
def iE(T:aj)(l:List Int):Int:=
 if aX T l≠0 then aX T l else if l.length=0 then 10 else if qw T l=false then 13 else if pY l=false then 14 else if jy T (l.getD 0 0)=2 then 15
 else if l.any (lN T)=true then 16 else if(fU T l).2≠0 then(fU T l).2 else(l7 T l).2
def V7(w1:World)(T:aj)(l:List Int)(gh:Nat)(s:Value)(wx:World):Prop:=
 ∃k:Nat,k+gh=l.length/\s=.int .i64 k/\Hid (Ext w1 wx)/\Hid ((l.take k).any (lN T)=false)
theorem SA{f:Int->Bool}{l:List Int}{k:Nat}(h:k<l.length):(l.take (k+1)).any f=((l.take k).any f||f l[k]):=by
 rw[tS' h,List.any_append];simp
theorem TM{f:Int->Bool}{l:List Int}{k:Nat}(h:k<l.length)(a:f l[k]=true):l.any f=true:=List.any_eq_true.2 ⟨_,gM' h,a⟩
theorem Zq(ht:aW w t T)(hi:aF w ⟨A,n,c⟩ l):
 cE' 160 #[t.v,.slice A n c] w (.int .i64 (iE T l)):=by
 have z:=dG w t;have J:=ah (ht.aC z);have B:=ah (hi.ext z);have hn:=hi.len.1;subst hn;obtain⟨V,hV⟩:=eX' (iE T l);have HV:=ah hV;rw[<- hV];go_enter func160,ntmps160;go_wp2_with fail;refine(yS t T l A _ c _ J.out B.out).mono ?_;rintro e w1⟨v,rfl,L,_⟩;have a:=ah L;have K:Hid (∀w',Ext w1 w'->∀k:Nat,w'.cell? ⟨w.heap.size,k,none⟩=t.v.cells[k]?):=ah (λw' h=>aQ (a.out.trans' h));have d:=ah (z.trans' L);by_cases C:aX T l=0
 case neg=>
  have i:Hid (V=aX T l):=ah (by rw[HV.out,iE,pP' C]);have e1:(aX T l != 0)=true:=bN' C;generalize aX T l=oe at*;have g:=d.out;go_wp2;go_ret;exact⟨aV i.out.symm,g⟩
 have HZ:=ah C;have M:=ah (sU C).1;have aL:=(sU C).2
 have N:Hid (V=if l.length=0 then 10 else if qw T l=false then 13 else if pY l=false then 14 else if jy T (l.getD 0 0)=2 then 15
 else if l.any (lN T)=true then 16 else if(fU T l).2≠0 then(fU T l).2 else(l7 T l).2):=ah (by rw[HV.out,iE,nN' (by rw[C];simp)])
 rw[C];have mO:=K.out w1 eR';by_cases hl:l.length=0
 .have i:Hid (V=10):=ah (by rw[N.out,pP' hl]);have e1:(l.length==0)=true:=by rw[bq'];exact hl
  have e2:((l.length:Int)==0)=true:=by rw[bq'];omega
  have g:=d.out;go_wp2;go_ret;exact⟨aV i.out.symm,g⟩
 have e1:(l.length==0)=false:=by rw[aO];exact hl
 have e2:((l.length:Int)==0)=false:=bF'
 have nJ:Hid (V=if qw T l=false then 13 else if pY l=false then 14 else if jy T (l.getD 0 0)=2 then 15
 else if l.any (lN T)=true then 16 else if(fU T l).2≠0 then(fU T l).2 else(l7 T l).2):=ah (by rw[N.out,nN' hl])
 have O:0<l.length:=by omega
 go_wp2_with fail;refine(zA' T t l A _ c _ (J.out.aC a.out) (B.out.ext a.out)).mono ?_;rintro e w2⟨rfl,aa⟩;have y:=ah aa;have gy:=K.out w2 y.out;cases P:qw T l
 .have i:Hid (V=13):=ah (by rw[nJ.out,pP' P]);have g:=d.out.trans' y.out;go_wp2;go_ret;exact⟨aV i.out.symm,g⟩
 have Q:Hid (V=if pY l=false then 14 else if jy T (l.getD 0 0)=2 then 15
 else if l.any (lN T)=true then 16 else if(fU T l).2≠0 then(fU T l).2 else(l7 T l).2):=ah (by rw[nJ.out,nN' (by rw[P];simp)])
 go_wp2_with fail;refine(ZH l A _ c _ (B.out.ext (a.out.trans' y.out))).mono ?_;rintro e w3⟨rfl,ab⟩;have j:=ah (y.out.trans' ab);have iH:=K.out w3 j.out;cases R:pY l
 .have i:Hid (V=14):=ah (by rw[Q.out,pP' R]);have g:=d.out.trans' j.out;go_wp2;go_ret;exact⟨aV i.out.symm,g⟩
 have m:Hid (V=if jy T (l.getD 0 0)=2 then 15 else if l.any (lN T)=true then 16 else if(fU T l).2≠0 then(fU T l).2 else(l7 T l).2):=ah (by rw[Q.out,nN' (by rw[R];simp)]);obtain⟨b,o,hA,S⟩:=B.out.at_ O;subst hA;rw[Nat.add_zero]at S;have ac:Hid (l.getD 0 0=l[0]):=ah (getD_lt l 0 0 O);have ad:=bI (bK (a.out.trans' j.out)) S;rw[ac.out]at m;generalize l[0]=x0 at*;have b1:(0:Int)<(l.length:Int):=by omega
 have U:Hid (∀w',Ext w3 w'->cE' 232 #[t.v,.int .i64 x0] w' (.int .i64 (jy T x0))):=ah (λw' h=>a2u t T x0 w' (J.out.aC (a.out.trans' (j.out.trans' h))) (ou M.out));obtain⟨q,hq⟩:=eY' (jy T x0);rw[hq]at U m;have rT:∀W:ak w3,∀k:Nat,W.w.cell? ⟨w.heap.size,k,none⟩=t.v.cells[k]? :=λW=>K.out _ (j.out.trans' W.h)
 have rX:∀W:ak w3,W.w.cell? ⟨b,o,none⟩=some (.int .i64 x0):=dA ad;go_wp2_with fail;refine rX' ?_
 repeat(go_big_quiet_step((go_at_call 232;with_reducible exact aS (U.out _ (ak.h _)))))
 refine wpQuiet_nil ?_;rintro _⟨yw,rfl⟩;obtain⟨w4,D⟩:=eX' yw.w;have X:Hid (Ext w1 w4):=ah (by rw[D];exact j.out.trans' yw.h);rw[<- D];clear D;by_cases p:q=2
 .have i:Hid (V=15):=ah (by rw[m.out,pP' p]);have e3:(q==2)=true:=by rw[bq'];exact p
  have g:=d.out.trans' X.out;clear m p;go_wp2;go_ret;exact⟨aV i.out.symm,g⟩
 have e3:(q==2)=false:=by rw[aO];exact p
 have E:Hid (V=if l.any (lN T)=true then 16 else if(fU T l).2≠0 then(fU T l).2 else(l7 T l).2):=ah (by rw[m.out,nN' p]);clear m p;rw[e3];go_wp2;go_loopg[41] l.length (λgh s wx=>V7 w1 T l gh s wx);exact⟨0,by omega,rfl,X,ah rfl⟩;obtain⟨k,b6,rfl,F,HN⟩:=hrel;have rT:=K.out wr F.out;by_cases G:k<l.length
 .obtain⟨Y,rfl⟩:=gS' gk;obtain⟨b',o',H,b8⟩:=(B.out.ext (a.out.trans' F.out)).at_ G;injection H with H;injection H with e5 e6;subst e5 e6;have Z:=ah (SA (f:=lN T) G);have a0:=ah (TM (f:=lN T) G);generalize l[k]=x at*;have bb:=z0' k;have bc:(k:Int)<(l.length:Int):=by omega
  have a1:=ah (He t T x wr (J.out.aC (a.out.trans' F.out)) (ou M.out));have r:Hid (lN T x=(x==46||(eH T x != 1&&eH T x != 4))):=rfl;obtain⟨s,hs⟩:=eY' (eH T x);rw[hs]at a1 r;go_wp2_with fail;refine a1.out.mono ?_;rintro e w5⟨rfl,ai⟩;have bD:=ah (F.out.trans' ai);cases d1:(x==46)
  case true=>
   have i:Hid (V=16):=ah (by rw[E.out,pP' (a0.out (by rw[r.out,d1];rfl))]);have g:=d.out.trans' bD.out;go_wp2;go_ret;exact⟨aV i.out.symm,g⟩
  cases d2:(s != 1)
  case false=>
   have I:Hid (lN T x=false):=ah (by rw[r.out,d1,d2];rfl);go_wp2;go_roundg Y;exact⟨k+1,by omega,by go_num,bD,ah (by rw[Z.out,HN.out,I.out];rfl)⟩;omega
  cases d3:(s != 4)
  case false=>
   have I:Hid (lN T x=false):=ah (by rw[r.out,d1,d2,d3];rfl);go_wp2;go_roundg Y;exact⟨k+1,by omega,by go_num,bD,ah (by rw[Z.out,HN.out,I.out];rfl)⟩;omega
  have i:Hid (V=16):=ah (by rw[E.out,pP' (a0.out (by rw[r.out,d1,d2,d3];rfl))]);have g:=d.out.trans' bD.out;go_wp2;go_ret;exact⟨aV i.out.symm,g⟩
 .have a2:Hid (V=if(fU T l).2≠0 then(fU T l).2 else(l7 T l).2):=ah (by
   have h1:=HN.out;rw[tL' (by omega)]at h1
   rw[E.out,nN' (by rw[h1];simp)])
  go_wp2_with fail;refine(ZF t T l _ _ c _ (J.out.aC (a.out.trans' F.out)) (B.out.ext (a.out.trans' F.out))).mono ?_;rintro e w6⟨rfl,am⟩;have iW:=ah (F.out.trans' am);have Hw:=K.out w6 iW.out;generalize(fU T l).1=j1 at*;by_cases hj:(fU T l).2=0
  .have an:Hid (V=(l7 T l).2):=ah (by rw[a2.out,nN' (by rw[hj];simp)]);rw[hj];go_wp2_with fail;refine(nJ' t T l _ _ c _ (J.out.aC (a.out.trans' iW.out)) (B.out.ext (a.out.trans' iW.out))).mono ?_;rintro e w7⟨rfl,ao⟩;have g:=d.out.trans' (iW.out.trans' ao);go_wp2;go_ret;exact⟨aV an.out.symm,g⟩
  .have i:Hid (V=(fU T l).2):=ah (by rw[a2.out,pP' hj]);have e4:((fU T l).2 != 0)=true:=bN' hj;generalize(fU T l).2=j2 at*;have g:=d.out.trans' iW.out;go_wp2;go_ret;exact⟨aV i.out.symm,g⟩
theorem Ql(ht:aW w t T)(hi:aF w ⟨A,n,c⟩ l):
 cE' 63 #[t.v,.slice A n c] w (.int .i64 (iE T l)):=by
 have z:=dG w t;have J:=ah (ht.aC z);have B:=ah (hi.ext z);have hn:=hi.len.1;subst hn;obtain⟨V,hV⟩:=eX' (iE T l);have HV:=ah hV;rw[<- hV];go_enter func63,ntmps63;go_wp2_with fail;refine(uJ t T l A _ c _ J.out B.out).mono ?_;rintro e w1⟨rfl,L⟩;have a:=ah L;have K:Hid (∀w',Ext w1 w'->∀k:Nat,w'.cell? ⟨w.heap.size,k,none⟩=t.v.cells[k]?):=ah (λw' h=>aQ (a.out.trans' h));have d:=ah (z.trans' L);by_cases C:aX T l=0
 case neg=>
  have i:Hid (V=aX T l):=ah (by rw[HV.out,iE,pP' C]);have e1:(aX T l != 0)=true:=bN' C;generalize aX T l=oe at*;have g:=d.out;go_wp2;go_ret;exact⟨aV i.out.symm,g⟩
 have HZ:=ah C;have M:=ah (sU C).1;have aL:=(sU C).2
 have N:Hid (V=if l.length=0 then 10 else if qw T l=false then 13 else if pY l=false then 14 else if jy T (l.getD 0 0)=2 then 15
 else if l.any (lN T)=true then 16 else if(fU T l).2≠0 then(fU T l).2 else(l7 T l).2):=ah (by rw[HV.out,iE,nN' (by rw[C];simp)])
 rw[C];have mO:=K.out w1 eR';by_cases hl:l.length=0
 .have i:Hid (V=10):=ah (by rw[N.out,pP' hl]);have e1:(l.length==0)=true:=by rw[bq'];exact hl
  have e2:((l.length:Int)==0)=true:=by rw[bq'];omega
  have g:=d.out;go_wp2;go_ret;exact⟨aV i.out.symm,g⟩
 have e1:(l.length==0)=false:=by rw[aO];exact hl
 have e2:((l.length:Int)==0)=false:=bF'
 have nJ:Hid (V=if qw T l=false then 13 else if pY l=false then 14 else if jy T (l.getD 0 0)=2 then 15
 else if l.any (lN T)=true then 16 else if(fU T l).2≠0 then(fU T l).2 else(l7 T l).2):=ah (by rw[N.out,nN' hl])
 have O:0<l.length:=by omega
 go_wp2_with fail;refine(ZX T t l A _ c _ (J.out.aC a.out) (B.out.ext a.out)).mono ?_;rintro e w2⟨rfl,aa⟩;have y:=ah aa;have gy:=K.out w2 y.out;cases P:qw T l
 .have i:Hid (V=13):=ah (by rw[nJ.out,pP' P]);have g:=d.out.trans' y.out;go_wp2;go_ret;exact⟨aV i.out.symm,g⟩
 have Q:Hid (V=if pY l=false then 14 else if jy T (l.getD 0 0)=2 then 15
 else if l.any (lN T)=true then 16 else if(fU T l).2≠0 then(fU T l).2 else(l7 T l).2):=ah (by rw[nJ.out,nN' (by rw[P];simp)])
 go_wp2_with fail;refine(ZL l A _ c _ (B.out.ext (a.out.trans' y.out))).mono ?_;rintro e w3⟨rfl,ab⟩;have j:=ah (y.out.trans' ab);have iH:=K.out w3 j.out;cases R:pY l
 .have i:Hid (V=14):=ah (by rw[Q.out,pP' R]);have g:=d.out.trans' j.out;go_wp2;go_ret;exact⟨aV i.out.symm,g⟩
 have m:Hid (V=if jy T (l.getD 0 0)=2 then 15 else if l.any (lN T)=true then 16 else if(fU T l).2≠0 then(fU T l).2 else(l7 T l).2):=ah (by rw[Q.out,nN' (by rw[R];simp)]);obtain⟨b,o,hA,S⟩:=B.out.at_ O;subst hA;rw[Nat.add_zero]at S;have ac:Hid (l.getD 0 0=l[0]):=ah (getD_lt l 0 0 O);have ad:=bI (bK (a.out.trans' j.out)) S;rw[ac.out]at m;generalize l[0]=x0 at*;have b1:(0:Int)<(l.length:Int):=by omega
 have U:Hid (∀w',Ext w3 w'->cE' 124 #[t.v,.int .i64 x0] w' (.int .i64 (jy T x0))):=ah (λw' h=>ZW t T x0 w' (J.out.aC (a.out.trans' (j.out.trans' h))) (a8y (GX M.out)));obtain⟨q,hq⟩:=eY' (jy T x0);rw[hq]at U m;have rT:∀W:ak w3,∀k:Nat,W.w.cell? ⟨w.heap.size,k,none⟩=t.v.cells[k]? :=λW=>K.out _ (j.out.trans' W.h)
 have rX:∀W:ak w3,W.w.cell? ⟨b,o,none⟩=some (.int .i64 x0):=dA ad;go_wp2_with fail;refine rX' ?_
 repeat(go_big_quiet_step((go_at_call 124;with_reducible exact aS (U.out _ (ak.h _)))))
 refine wpQuiet_nil ?_;rintro _⟨yw,rfl⟩;obtain⟨w4,D⟩:=eX' yw.w;have X:Hid (Ext w1 w4):=ah (by rw[D];exact j.out.trans' yw.h);rw[<- D];clear D;by_cases p:q=2
 .have i:Hid (V=15):=ah (by rw[m.out,pP' p]);have e3:(q==2)=true:=by rw[bq'];exact p
  have g:=d.out.trans' X.out;clear m p;go_wp2;go_ret;exact⟨aV i.out.symm,g⟩
 have e3:(q==2)=false:=by rw[aO];exact p
 have E:Hid (V=if l.any (lN T)=true then 16 else if(fU T l).2≠0 then(fU T l).2 else(l7 T l).2):=ah (by rw[m.out,nN' p]);clear m p;rw[e3];go_wp2;go_loopg[41] l.length (λgh s wx=>V7 w1 T l gh s wx);exact⟨0,by omega,rfl,X,ah rfl⟩;obtain⟨k,b6,rfl,F,HN⟩:=hrel;have rT:=K.out wr F.out;by_cases G:k<l.length
 .obtain⟨Y,rfl⟩:=gS' gk;obtain⟨b',o',H,b8⟩:=(B.out.ext (a.out.trans' F.out)).at_ G;injection H with H;injection H with e5 e6;subst e5 e6;have Z:=ah (SA (f:=lN T) G);have a0:=ah (TM (f:=lN T) G);generalize l[k]=x at*;have bb:=z0' k;have bc:(k:Int)<(l.length:Int):=by omega
  have a1:=ah (Gz t T x wr (J.out.aC (a.out.trans' F.out)) (MB (GX M.out)));have r:Hid (lN T x=(x==46||(eH T x != 1&&eH T x != 4))):=rfl;obtain⟨s,hs⟩:=eY' (eH T x);rw[hs]at a1 r;go_wp2_with fail;refine a1.out.mono ?_;rintro e w5⟨rfl,ai⟩;have bD:=ah (F.out.trans' ai);cases d1:(x==46)
  case true=>
   have i:Hid (V=16):=ah (by rw[E.out,pP' (a0.out (by rw[r.out,d1];rfl))]);have g:=d.out.trans' bD.out;go_wp2;go_ret;exact⟨aV i.out.symm,g⟩
  cases d2:(s != 1)
  case false=>
   have I:Hid (lN T x=false):=ah (by rw[r.out,d1,d2];rfl);go_wp2;go_roundg Y;exact⟨k+1,by omega,by go_num,bD,ah (by rw[Z.out,HN.out,I.out];rfl)⟩;omega
  cases d3:(s != 4)
  case false=>
   have I:Hid (lN T x=false):=ah (by rw[r.out,d1,d2,d3];rfl);go_wp2;go_roundg Y;exact⟨k+1,by omega,by go_num,bD,ah (by rw[Z.out,HN.out,I.out];rfl)⟩;omega
  have i:Hid (V=16):=ah (by rw[E.out,pP' (a0.out (by rw[r.out,d1,d2,d3];rfl))]);have g:=d.out.trans' bD.out;go_wp2;go_ret;exact⟨aV i.out.symm,g⟩
 .have a2:Hid (V=if(fU T l).2≠0 then(fU T l).2 else(l7 T l).2):=ah (by
   have h1:=HN.out;rw[tL' (by omega)]at h1
   rw[E.out,nN' (by rw[h1];simp)])
  go_wp2_with fail;refine(XB' t T l _ _ c _ (J.out.aC (a.out.trans' F.out)) (B.out.ext (a.out.trans' F.out))).mono ?_;rintro e w6⟨rfl,am⟩;have iW:=ah (F.out.trans' am);have Hw:=K.out w6 iW.out;generalize(fU T l).1=j1 at*;by_cases hj:(fU T l).2=0
  .have an:Hid (V=(l7 T l).2):=ah (by rw[a2.out,nN' (by rw[hj];simp)]);rw[hj];go_wp2_with fail;refine(XA' t T l _ _ c _ (J.out.aC (a.out.trans' iW.out)) (B.out.ext (a.out.trans' iW.out))).mono ?_;rintro e w7⟨rfl,ao⟩;have g:=d.out.trans' (iW.out.trans' ao);go_wp2;go_ret;exact⟨aV an.out.symm,g⟩
  .have i:Hid (V=(fU T l).2):=ah (by rw[a2.out,pP' hj]);have e4:((fU T l).2 != 0)=true:=bN' hj;generalize(fU T l).2=j2 at*;have g:=d.out.trans' iW.out;go_wp2;go_ret;exact⟨aV i.out.symm,g⟩
noncomputable def mV(l:List Int):List Int×Int:=if(jI l&&isX l)=true then alD l else(l,0)
noncomputable def fD(T:aj)(l:List Int):List Int×Int:=if(mV l).2≠0 then([],(mV l).2)else if iE T (mV l).1≠0 then([],iE T (mV l).1)else((mV l).1,0)
theorem XZ{l:List Int}(h:jI l=true):∀c∈l,0<=c/\c<=127:=by
 intro c a;unfold jI at h;rw[Bool.not_eq_true',List.any_eq_false]at h;have:=h c a;simp only[oT',au]at this;omega
theorem OX{l:List Int}(h:jI l=true):IsB l:=λc a=>by
 have:=XZ h c a;omega
theorem OW:∀{l:List Int},(∀c∈l,0<=c/\c<=127)->jm l=l
 |[],_=>rfl
 |x::r,h=>by
  have a:=OW λc b=>h c (List.mem_cons_of_mem _ b)
  have d:=h x (List.mem_cons_self ..);show enc1 x++jm r=x::r
  rw[a,enc1,pP' d.2];rfl
theorem aQw{l:List Int}(h:jI l=true)(i:l.length<=4096):mQ l=(l,0):=by
 have a:=XZ h;unfold mQ;rw[nN' (by omega),nN',OW a];intro b;rw[List.any_eq_true]at b;obtain⟨c,f,d⟩:=b;have:=a c f;have g:aY c=true:=by simp only[aY,aT,oT',au];omega
 rw[g]at d;cases d
theorem aR3(ht:aW w t T)(O:aF w ⟨A,n,c⟩ l)(Z:l.length<=4096):
 Calls prog 84 #[t.v,.slice A n c] w (DZ w (fD T l)):=by
 have s:=dG w t;have G:=ah s;have HT:=ah (ht.aC s);have R:=ah (O.ext s);have P:=ah (Oy l A n c _ R.out);have C:Hid (fD T l=if(mV l).2≠0 then([],(mV l).2)else if iE T (mV l).1≠0 then([],iE T (mV l).1)else((mV l).1,0)):=rfl;have i:Hid (mV l=if(jI l&&isX l)=true then alD l else(l,0)):=rfl;generalize fD T l=D at*;generalize mV l=E at*;have L:Hid (∀b,Ext (tW' w t) b->cE' 160 #[t.v,.slice A n c] b (.int .i64 (iE T l))):=ah (λb h=>Zq T t l A n c b (HT.out.aC h) (R.out.ext h));cases F:jI l
 .rw[F]at P;have K:=ah (i.out.trans (by rw[F];rfl:_=(l,(0:Int))));have q:=C;rw[K.out]at q;have j:Hid (D=if iE T l≠0 then([],iE T l)else(l,0)):=ah q.out;clear ht O s Z F q C i K;generalize iE T l=v at*;go_enter func84,ntmps84;go_wp2_with fail;refine P.out.mono ?_;rintro e w0⟨rfl,rfl⟩;go_wp2_with fail;refine(L.out _ eR').mono ?_;rintro e w4⟨rfl,a⟩;have y:=ah (R.out.ext a);have r:=G.out.trans' a;clear a;by_cases f:v=0
  .have g:=ah (j.out.trans (nN' (by rw[f];simp)));have Q:(v != 0)=false:=bZ' f;clear f;go_wp2;go_ret2;exact⟨A,n,c,by rw[g.out];rfl,by rw[g.out];exact y.out,r⟩
  .have g:=ah (j.out.trans (pP' f));have Q:(v != 0)=true:=bN' f;clear f;go_wp2;go_ret2;exact⟨none,0,0,by rw[g.out];rfl,by rw[g.out];exact aF.nil_ _,r⟩
 .rw[F]at P;have X:=ah (uenc_spec l A n c (tW' w t) R.out);rw[aQw F Z]at X;have S:Hid (∀b:World,cE' 158 #[.string (sB l)] b (.bool (isX l))):=ah λb=>Wj l (OX F) b
  have M:Hid (∀b:World,Calls prog 159 #[.string (sB l)] b (DZ b (alD l))):=ah λb=>aMi l (OX F) (by omega) b
  rw[F]at i;cases r:isX l
  .rw[r]at S i;have K:=ah (i.out.trans (by rfl:_=(l,(0:Int))));have q:=C;rw[K.out]at q;have j:Hid (D=if iE T l≠0 then([],iE T l)else(l,0)):=ah q.out;clear ht O s Z F q C i K r M;generalize iE T l=v at*;go_enter func84,ntmps84;go_wp2_with fail;refine P.out.mono ?_;rintro e w0⟨rfl,rfl⟩;go_wp2_with fail;refine(X.out).mono ?_;rintro e U⟨rfl,o⟩;go_wp2_with fail;refine(S.out U).mono ?_;rintro e V⟨rfl,p⟩;have H:=ah (o.trans' p);have rT:=bT' t H.out;clear o p;go_wp2_with fail;refine(L.out V H.out).mono ?_;rintro e w4⟨rfl,a⟩;have y:=ah (R.out.ext (H.out.trans' a));have r:=G.out.trans' (H.out.trans' a);clear a rT;by_cases f:v=0
   .have g:=ah (j.out.trans (nN' (by rw[f];simp)));have Q:(v != 0)=false:=bZ' f;clear f;go_wp2;go_ret2;exact⟨A,n,c,by rw[g.out];rfl,by rw[g.out];exact y.out,r⟩
   .have g:=ah (j.out.trans (pP' f));have Q:(v != 0)=true:=bN' f;clear f;go_wp2;go_ret2;exact⟨none,0,0,by rw[g.out];rfl,by rw[g.out];exact aF.nil_ _,r⟩
  .rw[r]at S i;have K:=ah (i.out.trans (by rfl:_=alD l));rw[K.out]at C;clear ht O s Z F i K r L;generalize alD l=Y at*;obtain⟨m,ev⟩:=Y;simp only[]at C;by_cases I:ev=0
   .subst I;have j:Hid (D=if iE T m≠0 then([],iE T m)else(m,0)):=ah C.out;have a2:Hid (∀B k d b,Ext (tW' w t) b->aF b ⟨B,k,d⟩ m->cE' 160 #[t.v,.slice B k d] b (.int .i64 (iE T m))):=ah (λB k d b h O=>Zq T t m B k d b (HT.out.aC h) O);generalize iE T m=v at*;clear C;go_enter func84,ntmps84;go_wp2_with fail;refine P.out.mono ?_;rintro e w0⟨rfl,rfl⟩;go_wp2_with fail;refine(X.out).mono ?_;rintro e U⟨rfl,o⟩;go_wp2_with fail;refine(S.out U).mono ?_;rintro e V⟨rfl,p⟩;go_wp2_with fail;refine(M.out V).mono ?_;rintro e w3⟨B,k,d,rfl,J,z⟩;have N:Hid (Ext (tW' w t) w3):=ah ((o.trans' p).trans' z);have W:=ah J;have rT:=bT' t N.out;clear o p z J;go_wp2_with fail;refine(a2.out B k d w3 N.out W.out).mono ?_;rintro e w4⟨rfl,a⟩;have y:=ah (W.out.ext a);have r:=(G.out.trans' N.out).trans' a;clear a rT;by_cases f:v=0
    .have g:=ah (j.out.trans (nN' (by rw[f];simp)));have Q:(v != 0)=false:=bZ' f;clear f;go_wp2;go_ret2;exact⟨B,k,d,by rw[g.out];rfl,by rw[g.out];exact y.out,r⟩
    .have g:=ah (j.out.trans (pP' f));have Q:(v != 0)=true:=bN' f;clear f;go_wp2;go_ret2;exact⟨none,0,0,by rw[g.out];rfl,by rw[g.out];exact aF.nil_ _,r⟩
   .have g:=ah (C.out.trans (pP' I));have Q:(ev != 0)=true:=bN' I;clear I C;go_enter func84,ntmps84;go_wp2_with fail;refine P.out.mono ?_;rintro e w0⟨rfl,rfl⟩;go_wp2_with fail;refine(X.out).mono ?_;rintro e U⟨rfl,o⟩;go_wp2_with fail;refine(S.out U).mono ?_;rintro e V⟨rfl,p⟩;go_wp2_with fail;refine(M.out V).mono ?_;rintro e w3⟨B,k,d,rfl,J,z⟩;have r:=((G.out.trans' o).trans' p).trans' z;clear o p z J;go_wp2;go_ret2;exact⟨none,0,0,by rw[g.out];rfl,by rw[g.out];exact aF.nil_ _,r⟩
noncomputable def lF(T:aj):Int->List (List Int)->Option (Int×Int)
 |_,[]=>none
 |i,l::r=>if(fD T l).2≠0 then some (i,(fD T l).2)else lF T (i+1) r
noncomputable def uG(T:aj)(L:List (List Int)):List (List Int)×Int×Int:=
 match lF T 0 L with
 |some p=>([],p)
 |none=>if sH T (L.map λl=>(fD T l).1)≠0 then([],wQ T (L.map λl=>(fD T l).1),sH T (L.map λl=>(fD T l).1))else(L.map λl=>(fD T l).1,0,0)
noncomputable def cO(T:aj)(s:List Int):List (List Int)×Int×Int:=
 if dw T=false then([],0,2)else if s.length=0 then([],0,10)else if(gG s).2.2≠0 then([],(gG s).2.1,(gG s).2.2)
 else if jV T (gG s).1≠0 then([],rC T (gG s).1,jV T (gG s).1)else if fC T (lW T (gG s).1)≠0 then([],0,fC T (lW T (gG s).1))
 else uG T (lV (l9 T (lW T (gG s).1)))
def Gj(w:World)(d:List (List Int)×Int×Int)(e:Ending)(w':World):Prop:=∃A n c,e=.returned (.tuple #[.slice A n c,.int .i64 d.2.1,.int .i64 d.2.2])/\qY w' ⟨A,n,c⟩ d.1/\Ext w w'
theorem sJ:qY w ⟨none,0,0⟩ []:=⟨⟨rfl,lr' _,by simp only[maxLen];omega⟩,λi x a=>by simp at a⟩
theorem Y5{T:aj}{L:List (List Int)}{k:Nat}(a:k<L.length):lF T k (L.drop k)=if(fD T L[k]).2≠0 then some ((k:Int),(fD T L[k]).2)else lF T ((k+1:Nat):Int) (L.drop (k+1)):=by
 rw[drop_at L k a];rfl
theorem P8{T:aj}{l:List Int}(h:(fD T l).2=0):iE T (fD T l).1=0:=by
 unfold fD at h |-;split at h
 .exact absurd h ‹_›
 .split at h
  .exact absurd h ‹_›
  .rename_i b a;rw[nN' b,nN' a];exact Decidable.not_not.1 a
theorem G8{T:aj}{l:List Int}(h:iE T l=0):aX T l=0:=by
 unfold iE at h;split at h
 .rename_i a;exact absurd h a
 .rename_i a;exact Decidable.not_not.1 a
theorem OZ:∀(r:List Int)(L:List (List Int))(cur:List Int),(lbG L cur r).length<=L.length+1+r.length
 |[],L,cur=>by simp[lbG]
 |c::r,L,cur=>by
  unfold lbG;split
  .have:=OZ r (L++[cur]) [];simp at this |-;omega
  .have:=OZ r L (cur++[c]);simp at this |-;omega
theorem P5:∀(r:List Int)(L:List (List Int))(cur:List Int)(x:List Int),x∈lbG L cur r->x∈L\/x.length<=cur.length+r.length
 |[],L,cur,x,h=>by
  unfold lbG at h;rw[List.mem_append,List.mem_singleton]at h;rcases h with h|rfl
  .exact .inl h
  .exact .inr (lr' _)
 |c::r,L,cur,x,h=>by
  unfold lbG at h;split at h
  .rcases P5 r _ _ x h with a|a
   .rw[List.mem_append,List.mem_singleton]at a;rcases a with a|rfl
    .exact .inl a
    .exact .inr (by simp)
   .exact .inr (by simp at a |-;omega)
  .rcases P5 r _ _ x h with a|a
   .exact .inl a
   .exact .inr (by simp at a |-;omega)
theorem P6:(lV l).length<=l.length+1:=by
 have:=OZ l [] [];unfold lV;simp at this;omega
theorem Y2{l x:List Int}(h:x∈lV l):x.length<=l.length:=by
 rcases P5 l [] [] x h with a|a
 .cases a
 .simpa using a
theorem zN{T:aj}{L:List (List Int)}{p:Int×Int}(h:lF T 0 L=some p):uG T L=([],p):=by
 unfold uG;rw[h]
theorem CW{T:aj}{L:List (List Int)}(h:lF T 0 L=none):uG T L=if sH T (L.map λl=>(fD T l).1)≠0 then([],wQ T (L.map λl=>(fD T l).1),sH T (L.map λl=>(fD T l).1))else(L.map λl=>(fD T l).1,0,0):=by
 unfold uG;rw[h]
theorem Jf{T:aj}:∀{L:List (List Int)}{i:Int},lF T i L=none->∀l∈L,(fD T l).2=0
 |[],_,_,l,a=>by cases a
 |x::r,i,h,l,a=>by
  unfold lF at h;split at h
  .cases h
  .rename_i b;rcases List.mem_cons.1 a with rfl|a
   .exact Decidable.not_not.1 b
   .exact Jf h l a
theorem Y4{α β:Type}(f:α->β)(L:List α)(M:List β)(e:M.length=L.length)(k:Nat)(a:k<L.length)(h:M.take k=(L.take k).map f):(M.set k (f L[k])).take (k+1)=(L.take (k+1)).map f:=by
 rw[tS' a,List.map_append,tS' (by simp[e,a]),List.take_set_of_le (lr' _),h];simp
def PrL(T:aj)(w0 wb:World)(g N C:Nat)(L:List (List Int))(gh:Nat)(s53:Value)(wx:World):Prop:=
 ∃(k:Nat)(S:List SV)(M:List (List Int)),k+gh=N/\s53=.int .i64 k/\Hid (LsP w0 wx g N C S M)/\Hid (M.take k=(L.take k).map λl=>(fD T l).1)/\Hid (M.drop k=L.drop k)/\Hid (lF T k (L.drop k)=lF T 0 L)/\Hid (Ext wb wx)
theorem Y3(s:List Int)(w:World)(ht:aW w t T)(hs:IsB s):Calls prog 46 #[t.v,.string (sB s)] w (Gj w (cO T s)):=by
 have a1:=dG w t;have p:=ah a1;have HT:=ah (ht.aC a1);have HC:=ah (ZA t T (tW' w t) HT.out)
 have HD:Hid (cO T s=if dw T=false then([],0,2)else if s.length=0 then([],0,10)else if(gG s).2.2≠0 then([],(gG s).2.1,(gG s).2.2)
  else if jV T (gG s).1≠0 then([],rC T (gG s).1,jV T (gG s).1)else if fC T (lW T (gG s).1)≠0 then([],0,fC T (lW T (gG s).1))
  else uG T (lV (l9 T (lW T (gG s).1)))):=rfl
 generalize cO T s=D at*;clear ht a1;by_cases hw:dw T=false
 .have i:=ah (HD.out.trans (pP' hw));have q:(nP T != 0)=true:=by rw[bne_iff_ne];exact λh=>by have:=(D6 T).1 h;rw[hw]at this;cases this
  clear hw HD hs;go_enter func46,ntmps46;go_wp2_with fail;refine HC.out.mono ?_;rintro e w1⟨rfl,j⟩;have G:=p.out.trans' j;clear j;go_wp2;go_ret3;exact⟨none,0,0,by rw[i.out];rfl,by rw[i.out];exact sJ _,G⟩
 have K:=ah (HD.out.trans (nN' hw));rw[(D6 T).2 (by cases h:dw T;exact absurd h hw;rfl)]at HC;have HW:Hid (dw T=true):=ah (by cases h:dw T;exact absurd h hw;rfl);clear HD hw;have a3:=xU s;by_cases h0:s.length=0
 .have i:=ah (K.out.trans (pP' h0));rw[List.eq_nil_of_length_eq_zero h0,show([]:List Int).isEmpty=true from rfl]at a3;rw[List.eq_nil_of_length_eq_zero h0];clear K h0 hs;go_enter func46,ntmps46;go_wp2_with fail;refine HC.out.mono ?_;rintro e w1⟨rfl,j⟩;have G:=p.out.trans' j;clear j;go_wp2;go_ret3;exact⟨none,0,0,by rw[i.out];rfl,by rw[i.out];exact sJ _,G⟩
 have H:=ah (K.out.trans (nN' h0));rw[show s.isEmpty=false from by cases s with|nil=>exact absurd rfl h0|cons a b=>rfl]at a3;clear K h0;have HU:Hid (∀w':World,Calls prog 80 #[.string (sB s)] w' (Je w' (gG s))):=ah λw'=>udec_spec s hs w'
 clear hs;generalize gG s=V at*;obtain⟨l,di,de⟩:=V;simp only[]at H;go_enter func46,ntmps46;go_wp2_with fail;refine HC.out.mono ?_;rintro e w1⟨rfl,j⟩;have ba:=ah j;clear j HC;go_wp2_with fail;refine(HU.out w1).mono ?_;rintro e w2⟨A,n,c,rfl,ag,ai⟩;have O:=ah (ba.out.trans' ai);have a5:=ah ag;have al:=p.out.trans' O.out;simp only[]at a5;clear ai ag HU a3;by_cases f:de=0
 case neg=>
  have i:=ah (H.out.trans (pP' f));have q:(de != 0)=true:=bN' f;clear f H;go_wp2;go_ret3;exact⟨none,0,0,by rw[i.out];rfl,by rw[i.out];exact sJ _,al⟩
 have P:=ah (H.out.trans (nN' (by rw[f];simp)));have q:(de != 0)=false:=bZ' f;have rT:=bT' t O.out;clear H al;go_wp2_with fail;refine(aPl T t l A n c w2 (HT.out.aC O.out) a5.out).mono ?_;rintro e w3⟨A3,n3,c3,rfl,am,an⟩;have Q:=ah (O.out.trans' am);have ao:=ah an;have ap:=p.out.trans' Q.out;clear am an rT q f;generalize jV T l=me at*;generalize rC T l=mi at*;generalize lW T l=ml at*;by_cases f:me=0
 case neg=>
  have i:=ah (P.out.trans (pP' f));have q:(me != 0)=true:=bN' f;clear f P;go_wp2;go_ret3;exact⟨none,0,0,by rw[i.out];rfl,by rw[i.out];exact sJ _,ap⟩
 have R:=ah (P.out.trans (nN' (by rw[f];simp)));have q:(me != 0)=false:=bZ' f;have rT:=bT' t Q.out;clear P ap;go_wp2_with fail;refine(Zt T t ml A3 n3 c3 w3 (HT.out.aC Q.out) ao.out).mono ?_;rintro e w4⟨A4,n4,c4,rfl,aq,ar⟩;have a7:=ah (Q.out.trans' aq);have av:=ah ar
 have aw:Hid (fC T ml=0->(l9 T ml).length<=4096):=ah (λh=>by
  have h2:=(Bz h).2;have h3:=JX (T:=T) ml;rw[l9,pP' h]
  omega)
 have ax:=p.out.trans' a7.out;clear aq ar rT q f;generalize fC T ml=ne at*;generalize l9 T ml=nl at*;by_cases f:ne=0
 case neg=>
  have i:=ah (R.out.trans (pP' f));have q:(ne != 0)=true:=bN' f;clear f R;go_wp2;go_ret3;exact⟨none,0,0,by rw[i.out];rfl,by rw[i.out];exact sJ _,ax⟩
 have ay:=ah (R.out.trans (nN' (by rw[f];simp)));have q:(ne != 0)=false:=bZ' f;have zM:=ah (aw.out f);clear R ax f aw;go_wp2_with fail;refine(aMw nl A4 n4 c4 w4 av.out (by have:=zM.out;omega)).mono ?_;rintro e w5⟨A5,N,C,rfl,az,a8⟩;obtain⟨g,S5,rfl,a9⟩:=az.lsp a8;have bD:=ah (a7.out.trans' a8);have aD:=ah a9;have bb:Hid ((lV nl).length<=5000):=ah (by have:=P6 nl;have:=zM.out;omega);have bc:Hid (∀x∈lV nl,x.length<=4096):=ah (λx G=>by have:=Y2 G;have:=zM.out;omega);have aE:(lV nl).length=N:=a9.len;clear a8 az a9 zM av ao a5 q;generalize lV nl=L at*;have br:N<=5000:=by have:=bb.out;omega
 have U:=ah aE;clear aE;go_wp2;go_loopg[53] N (λgh bd wx=>PrL T w4 (tW' w t) g N C L gh bd wx);exact⟨0,S5,L,by omega,rfl,aD,ah rfl,ah rfl,ah rfl,bD⟩;obtain⟨k,S,M,bs,rfl,W,X,Y,r,HB⟩:=hrel;clear aD;by_cases hk:k<N
 .obtain⟨be,rfl⟩:=gS' gk;have I:k<L.length:=by have:=U.out;omega
  have Z:k<M.length:=by have:=W.out.len;omega
  have aL:M[k]=L[k]:=by
   have f:=Y.out;rw[drop_at M k Z,drop_at L k I]at f;exact(List.cons.inj f).1
  have aM:M.drop (k+1)=L.drop (k+1):=by
   have f:=Y.out;rw[drop_at M k Z,drop_at L k I]at f;exact(List.cons.inj f).2
  have aR:M.length=L.length:=by have:=W.out.len;have:=U.out;omega
  obtain⟨b,o,za,zn,zc,hA,aa,hz⟩:=W.out.lists.at_ Z;injection hA with hA;injection hA with bi bj;subst bi bj;rw[aL]at hz;rw[Nat.zero_add]at aa;have a0:=ah (Y5 (T:=T) I);have bk:=ah (bc.out _ (gM' I));have HZ:=ah hz;have b0:Hid (∀y,y=(fD T L[k]).1->(M.set k y).take (k+1)=(L.take (k+1)).map λl=>(fD T l).1):=ah (λy hy=>by rw[hy];exact Y4 (λl=>(fD T l).1) L M aR k I X.out);have b1:Hid (∀y,(M.set k y).drop (k+1)=L.drop (k+1)):=ah (λy=>by rw[List.drop_set_of_lt (by omega)];exact aM);clear hz aL aM aR X Y Z;generalize L[k]=x at*;have bl:wr.frozen? ⟨g,k,none⟩=false:=World.ownsRow.frozenAt W.out.own k;have bt:=z0' k;have bu:(k:Int)<(N:Int):=by omega
  have rT:=bT' t HB.out;go_wp2_with fail;go_region_law((go_simp;go_at_call 84;refine(aR3 T t x za zn zc _ (HT.out.aC (HB.out.trans' eR'.dJ)) (HZ.out.ext eR'.dJ) bk.out).mono ?_;rintro e w6⟨B,m,d,rfl,vK,E⟩;have eP:Hid (Ext wr w6):=ah (eR'.dJ.trans' E);have qC:=ah vK;have F:=ah (W.out.aC eP.out);have bv:w6.frozen? ⟨g,k,none⟩=false:=World.ownsRow.frozenAt F.out.own k;have bw:=bI (bK eP.out) aa;clear E vK))
  all_goals
   have bm:=ah (F.out.set hk (z:=⟨B,m,d⟩) (x:=(fD T x).1) qC.out);have su:Hid (Ext (tW' w t) (w6.setCell ⟨g,k,none⟩ (.slice B m d))):=ah ((HB.out.trans' eP.out).lI (Nat.le_trans a7.out.b.size (Own.lt F.out.own g rfl).1) _);have bn:=ah (b0.out _ rfl);have bo:=ah (b1.out (fD T x).1);clear rT bl aa qC F b0 b1;generalize(fD T x).1=y at*;generalize(fD T x).2=ev at*;by_cases f:ev=0
   .have q:(ev != 0)=false:=bZ' f;have bp:=ah ((a0.out.trans (nN' (by rw[f];simp))).symm.trans r.out);clear f a0 r;go_wp2;go_roundg be;exact⟨k+1,S.set k ⟨B,m,d⟩,M.set k y,by omega,by go_num,bm,bn,bo,bp,su⟩;omega
   .have q:(ev != 0)=true:=bN' f;have i:=ah (ay.out.trans (zN (r.out.symm.trans (a0.out.trans (pP' f)))));have G:=p.out.trans' su.out;clear f a0 r;go_wp2;go_ret3;exact⟨none,0,0,by rw[i.out];rfl,by rw[i.out];exact sJ _,G⟩
 .have bq:k=N:=by omega
  subst bq
  have ab:Hid (M=L.map λl=>(fD T l).1):=ah (by
   have f:=X.out;have h2:=U.out;have h3:=W.out.len
   rwa[tL' (by omega),tL' (by omega)]at f)
  have ac:Hid (lF T 0 L=none):=ah (by
   have h2:=U.out;rw[<- r.out,List.drop_of_length_le (by omega)]
   rfl)
  have Fj:Hid (∀l∈M,aX T l=0):=ah (λl hl=>by
   rw[ab.out,List.mem_map]at hl;obtain⟨x,G,rfl⟩:=hl
   exact G8 (P8 (Jf ac.out x G)))
  have J:=ah (ay.out.trans (CW ac.out));rw[<- ab.out]at J;have b2:=ah (aQT T t M _ _ _ wr (HT.out.aC HB.out) W.out.lists HW.out Fj.out (by have:=W.out.len;omega));have rT:=bT' t HB.out;clear X Y r ac Fj ab;go_wp2_with fail;refine b2.out.mono ?_;rintro e w6⟨rfl,E⟩;have F:=ah (W.out.aC E);have G:=p.out.trans' (HB.out.trans' E);clear rT E b2;generalize wQ T M=dmi at*;generalize sH T M=dme at*;by_cases f:dme=0
  .have q:(dme != 0)=false:=bZ' f;have i:=ah (J.out.trans (nN' (by rw[f];simp)));clear f J;go_wp2;go_ret3;exact⟨_,_,_,by rw[i.out];rfl,by rw[i.out];exact F.out.lists,G⟩
  .have q:(dme != 0)=true:=bN' f;have i:=ah (J.out.trans (pP' f));clear f J;go_wp2;go_ret3;exact⟨none,0,0,by rw[i.out];rfl,by rw[i.out];exact sJ _,G⟩
end Go.Proofs.YtlmkgaoakcjlnaaGreatDoor
