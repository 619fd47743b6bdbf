/- Part Bz24. -/
import Derived.Test.YtpmgophlhmcogaaGreatDoorBz20
import Derived.Test.YtpmgophlhmcogaaGreatDoorBz23
open Go.Proofs.Tryz
namespace Go.Proofs.YtpmgophlhmcogaaGreatDoor
set_option maxHeartbeats 25600000
set_option maxRecDepth 100000
open Go.RowKit
variable (T:aj)(t:TV)(l:List Int)(A:Option Addr)(n c:Nat)(w:World)
def jF(T:aj)(c:Int):Bool:=c==46||(dM T c != 1&&dM T c != 4)
def gu(T:aj)(l:List Int):Int:=
 if aS T l≠0 then aS T l else if l.length=0 then 10 else if ql T l=false then 13 else if mX l=false then 14 else if tq T (l.getD 0 0)=2 then 15
 else if l.any (jF T)=true then 16 else if(fV T l).2≠0 then(fV T l).2 else(kQ T l).2
def O5(w1:World)(T:aj)(l:List Int)(gh:Nat)(s:Value)(wx:World):Prop:=
 ∃k:Nat,k+gh=l.length/\s=.int .i64 k/\Hid (Ext w1 wx)/\Hid ((l.take k).any (jF T)=false)
theorem L6{f:Int->Bool}{l:List Int}{k:Nat}(h:k<l.length):(l.take (k+1)).any f=((l.take k).any f||f l[k]):=by
 rw[tS' h,List.any_append];simp
theorem LV{f:Int->Bool}{l:List Int}{k:Nat}(h:k<l.length)(a:f l[k]=true):l.any f=true:=List.any_eq_true.2 ⟨_,gM' h,a⟩
theorem Ja(ht:aN w t T)(hi:au w ⟨A,n,c⟩ l):
 cE' 183 #[t.v,.slice A n c] w (.int .i64 (gu T l)):=by
 have z:=dI w t;have J:=ah (ht.ay z);have B:=ah (hi.ext z);have hn:=hi.len.1;subst hn;obtain⟨V,hV⟩:=eX' (gu T l);have HV:=ah hV;rw[<- hV];go_enter func183,ntmps183;go_wp2_with fail;refine(qo t T l A _ c _ J.out B.out).mono ?_;rintro e w1⟨v,rfl,L,_⟩;have a:=ah L;have K:Hid (∀w',Ext w1 w'->∀k:Nat,w'.cell? ⟨w.heap.size,k,none⟩=t.v.cells[k]?):=ah (λw' h=>aO (a.out.trans' h));have d:=ah (z.trans' L);by_cases C:aS T l=0
 case neg=>
  have i:Hid (V=aS T l):=ah (by rw[HV.out,gu,pP' C]);have e1:(aS T l != 0)=true:=bN' C;generalize aS T l=oe at*;have g:=d.out;go_wp2;go_ret;exact⟨bG i.out.symm,g⟩
 have HZ:=ah C;have M:=ah (qy C).1;have aM:=(qy C).2
 have N:Hid (V=if l.length=0 then 10 else if ql T l=false then 13 else if mX l=false then 14 else if tq T (l.getD 0 0)=2 then 15
 else if l.any (jF T)=true then 16 else if(fV T l).2≠0 then(fV T l).2 else(kQ T l).2):=ah (by rw[HV.out,gu,nN' (by rw[C];simp)])
 rw[C];have uj:=K.out w1 eR';by_cases hl:l.length=0
 .have i:Hid (V=10):=ah (by rw[N.out,pP' hl]);have e1:(l.length==0)=true:=by rw[bq'];exact hl
  have e2:((l.length:Int)==0)=true:=by rw[bq'];omega
  have g:=d.out;go_wp2;go_ret;exact⟨bG i.out.symm,g⟩
 have e1:(l.length==0)=false:=by rw[aP];exact hl
 have e2:((l.length:Int)==0)=false:=bF'
 have yI:Hid (V=if ql T l=false then 13 else if mX l=false then 14 else if tq T (l.getD 0 0)=2 then 15
 else if l.any (jF T)=true then 16 else if(fV T l).2≠0 then(fV T l).2 else(kQ T l).2):=ah (by rw[N.out,nN' hl])
 have O:0<l.length:=by omega
 go_wp2_with fail;refine(U0 T t l A _ c _ (J.out.ay a.out) (B.out.ext a.out)).mono ?_;rintro e w2⟨rfl,aa⟩;have y:=ah aa;have kW:=K.out w2 y.out;cases P:ql T l
 .have i:Hid (V=13):=ah (by rw[yI.out,pP' P]);have g:=d.out.trans' y.out;go_wp2;go_ret;exact⟨bG i.out.symm,g⟩
 have Q:Hid (V=if mX l=false then 14 else if tq T (l.getD 0 0)=2 then 15
 else if l.any (jF T)=true then 16 else if(fV T l).2≠0 then(fV T l).2 else(kQ T l).2):=ah (by rw[yI.out,nN' (by rw[P];simp)])
 go_wp2_with fail;refine(Jk l A _ c _ (B.out.ext (a.out.trans' y.out))).mono ?_;rintro e w3⟨rfl,ab⟩;have j:=ah (y.out.trans' ab);have lK:=K.out w3 j.out;cases R:mX l
 .have i:Hid (V=14):=ah (by rw[Q.out,pP' R]);have g:=d.out.trans' j.out;go_wp2;go_ret;exact⟨bG i.out.symm,g⟩
 have m:Hid (V=if tq T (l.getD 0 0)=2 then 15 else if l.any (jF T)=true then 16 else if(fV T l).2≠0 then(fV T l).2 else(kQ T l).2):=ah (by rw[Q.out,nN' (by rw[R];simp)]);obtain⟨b,o,hA,S⟩:=B.out.at_ O;subst hA;rw[Nat.add_zero]at S;have ac:Hid (l.getD 0 0=l[0]):=ah (getD_lt l 0 0 O);have ad:=dh (dG (a.out.trans' j.out)) S;rw[ac.out]at m;generalize l[0]=x0 at*;have aZ:(0:Int)<(l.length:Int):=by omega
 have U:Hid (∀w',Ext w3 w'->cE' 236 #[t.v,.int .i64 x0] w' (.int .i64 (tq T x0))):=ah (λw' h=>KL t T x0 w' (J.out.ay (a.out.trans' (j.out.trans' h))) (iR M.out));obtain⟨q,hq⟩:=eY' (tq T x0);rw[hq]at U m;have rT:∀W:ak w3,∀k:Nat,W.w.cell? ⟨w.heap.size,k,none⟩=t.v.cells[k]? :=λW=>K.out _ (j.out.trans' W.h)
 have rX:∀W:ak w3,W.w.cell? ⟨b,o,none⟩=some (.int .i64 x0):=dJ ad;go_wp2_with fail;refine rX' ?_
 repeat(go_big_quiet_step((go_at_call 236;with_reducible exact aI (U.out _ (ak.h _)))))
 refine wpQuiet_nil ?_;rintro _⟨yw,rfl⟩;obtain⟨w4,D⟩:=eX' yw.w;have X:Hid (Ext w1 w4):=ah (by rw[D];exact j.out.trans' yw.h);rw[<- D];clear D;by_cases p:q=2
 .have i:Hid (V=15):=ah (by rw[m.out,pP' p]);have e3:(q==2)=true:=by rw[bq'];exact p
  have g:=d.out.trans' X.out;clear m p;go_wp2;go_ret;exact⟨bG i.out.symm,g⟩
 have e3:(q==2)=false:=by rw[aP];exact p
 have E:Hid (V=if l.any (jF T)=true then 16 else if(fV T l).2≠0 then(fV T l).2 else(kQ T l).2):=ah (by rw[m.out,nN' p]);clear m p;rw[e3];go_wp2;go_loopg[41] l.length (λgh s wx=>O5 w1 T l gh s wx);exact⟨0,by omega,rfl,X,ah rfl⟩;obtain⟨k,b4,rfl,F,HN⟩:=hrel;have rT:=K.out wr F.out;by_cases G:k<l.length
 .obtain⟨Y,rfl⟩:=gS' gk;obtain⟨b',o',H,b6⟩:=(B.out.ext (a.out.trans' F.out)).at_ G;injection H with H;injection H with e5 e6;subst e5 e6;have Z:=ah (L6 (f:=jF T) G);have a0:=ah (LV (f:=jF T) G);generalize l[k]=x at*;have b9:=z0' k;have ba:(k:Int)<(l.length:Int):=by omega
  have a1:=ah (yA t T x wr (J.out.ay (a.out.trans' F.out)) (iR M.out));have r:Hid (jF T x=(x==46||(dM T x != 1&&dM T x != 4))):=rfl;obtain⟨s,hs⟩:=eY' (dM T x);rw[hs]at a1 r;go_wp2_with fail;refine a1.out.mono ?_;rintro e w5⟨rfl,ai⟩;have bg:=ah (F.out.trans' ai);cases d1:(x==46)
  case true=>
   have i:Hid (V=16):=ah (by rw[E.out,pP' (a0.out (by rw[r.out,d1];rfl))]);have g:=d.out.trans' bg.out;go_wp2;go_ret;exact⟨bG i.out.symm,g⟩
  cases d2:(s != 1)
  case false=>
   have I:Hid (jF T x=false):=ah (by rw[r.out,d1,d2];rfl);go_wp2;go_roundg Y;exact⟨k+1,by omega,by go_num,bg,ah (by rw[Z.out,HN.out,I.out];rfl)⟩;omega
  cases d3:(s != 4)
  case false=>
   have I:Hid (jF T x=false):=ah (by rw[r.out,d1,d2,d3];rfl);go_wp2;go_roundg Y;exact⟨k+1,by omega,by go_num,bg,ah (by rw[Z.out,HN.out,I.out];rfl)⟩;omega
  have i:Hid (V=16):=ah (by rw[E.out,pP' (a0.out (by rw[r.out,d1,d2,d3];rfl))]);have g:=d.out.trans' bg.out;go_wp2;go_ret;exact⟨bG i.out.symm,g⟩
 .have a2:Hid (V=if(fV T l).2≠0 then(fV T l).2 else(kQ T l).2):=ah (by
   have h1:=HN.out;rw[tL' (by omega)]at h1
   rw[E.out,nN' (by rw[h1];simp)])
  go_wp2_with fail;refine(Ji t T l _ _ c _ (J.out.ay (a.out.trans' F.out)) (B.out.ext (a.out.trans' F.out))).mono ?_;rintro e w6⟨rfl,am⟩;have tH:=ah (F.out.trans' am);have JE:=K.out w6 tH.out;generalize(fV T l).1=j1 at*;by_cases hj:(fV T l).2=0
  .have an:Hid (V=(kQ T l).2):=ah (by rw[a2.out,nN' (by rw[hj];simp)]);rw[hj];go_wp2_with fail;refine(TS t T l _ _ c _ (J.out.ay (a.out.trans' tH.out)) (B.out.ext (a.out.trans' tH.out))).mono ?_;rintro e w7⟨rfl,ao⟩;have g:=d.out.trans' (tH.out.trans' ao);go_wp2;go_ret;exact⟨bG an.out.symm,g⟩
  .have i:Hid (V=(fV T l).2):=ah (by rw[a2.out,pP' hj]);have e4:((fV T l).2 != 0)=true:=bN' hj;generalize(fV T l).2=j2 at*;have g:=d.out.trans' tH.out;go_wp2;go_ret;exact⟨bG i.out.symm,g⟩
noncomputable def nD(l:List Int):List Int×Int:=if(iF l&&isX l)=true then alD l else(l,0)
noncomputable def fB(T:aj)(l:List Int):List Int×Int:=if(nD l).2≠0 then([],(nD l).2)else if gu T (nD l).1≠0 then([],gu T (nD l).1)else((nD l).1,0)
theorem Hl{l:List Int}(h:iF l=true):∀c∈l,0<=c/\c<=127:=by
 intro c a;unfold iF at h;rw[Bool.not_eq_true',List.any_eq_false]at h;have:=h c a;simp only[oT',aW]at this;omega
theorem Ho{l:List Int}(h:iF l=true):IsB l:=λc a=>by
 have:=Hl h c a;omega
theorem Hg:∀{l:List Int},(∀c∈l,0<=c/\c<=127)->kY l=l
 |[],_=>rfl
 |x::r,h=>by
  have a:=Hg λc b=>h c (List.mem_cons_of_mem _ b)
  have d:=h x (List.mem_cons_self ..);show enc1 x++kY r=x::r
  rw[a,enc1,pP' d.2];rfl
theorem Qz{l:List Int}(h:iF l=true)(i:l.length<=4096):jU l=(l,0):=by
 have a:=Hl h;unfold jU;rw[nN' (by omega),nN',Hg a];intro b;rw[List.any_eq_true]at b;obtain⟨c,f,d⟩:=b;have:=a c f;have g:aX c=true:=by simp only[aX,aQ,oT',aW];omega
 rw[g]at d;cases d
theorem QA(ht:aN w t T)(O:au w ⟨A,n,c⟩ l)(Z:l.length<=4096):
 Calls prog 116 #[t.v,.slice A n c] w (zh w (fB T l)):=by
 have s:=dI w t;have G:=ah s;have HT:=ah (ht.ay s);have R:=ah (O.ext s);have P:=ah (BK l A n c _ R.out);have C:Hid (fB T l=if(nD l).2≠0 then([],(nD l).2)else if gu T (nD l).1≠0 then([],gu T (nD l).1)else((nD l).1,0)):=rfl;have i:Hid (nD l=if(iF l&&isX l)=true then alD l else(l,0)):=rfl;generalize fB T l=D at*;generalize nD l=E at*;have L:Hid (∀b,Ext (tW' w t) b->cE' 183 #[t.v,.slice A n c] b (.int .i64 (gu T l))):=ah (λb h=>Ja T t l A n c b (HT.out.ay h) (R.out.ext h));cases F:iF l
 .rw[F]at P;have K:=ah (i.out.trans (by rw[F];rfl:_=(l,(0:Int))));have q:=C;rw[K.out]at q;have j:Hid (D=if gu T l≠0 then([],gu T l)else(l,0)):=ah q.out;clear ht O s Z F q C i K;generalize gu T l=v at*;go_enter func116,ntmps116;go_wp2_with fail;refine P.out.mono ?_;rintro e w0⟨rfl,rfl⟩;go_wp2_with fail;refine(L.out _ eR').mono ?_;rintro e w4⟨rfl,a⟩;have y:=ah (R.out.ext a);have r:=G.out.trans' a;clear a;by_cases f:v=0
  .have g:=ah (j.out.trans (nN' (by rw[f];simp)));have Q:(v != 0)=false:=bZ' f;clear f;go_wp2;go_ret2;exact⟨A,n,c,by rw[g.out];rfl,by rw[g.out];exact y.out,r⟩
  .have g:=ah (j.out.trans (pP' f));have Q:(v != 0)=true:=bN' f;clear f;go_wp2;go_ret2;exact⟨none,0,0,by rw[g.out];rfl,by rw[g.out];exact au.nil_ _,r⟩
 .rw[F]at P;have X:=ah (uenc_spec l A n c (tW' w t) R.out);rw[Qz F Z]at X;have S:Hid (∀b:World,cE' 181 #[.string (sB l)] b (.bool (isX l))):=ah λb=>Gf l (Ho F) b
  have M:Hid (∀b:World,Calls prog 182 #[.string (sB l)] b (zh b (alD l))):=ah λb=>PS l (Ho F) (by omega) b
  rw[F]at i;cases r:isX l
  .rw[r]at S i;have K:=ah (i.out.trans (by rfl:_=(l,(0:Int))));have q:=C;rw[K.out]at q;have j:Hid (D=if gu T l≠0 then([],gu T l)else(l,0)):=ah q.out;clear ht O s Z F q C i K r M;generalize gu T l=v at*;go_enter func116,ntmps116;go_wp2_with fail;refine P.out.mono ?_;rintro e w0⟨rfl,rfl⟩;go_wp2_with fail;refine(X.out).mono ?_;rintro e U⟨rfl,o⟩;go_wp2_with fail;refine(S.out U).mono ?_;rintro e V⟨rfl,p⟩;have H:=ah (o.trans' p);have rT:=bT' t H.out;clear o p;go_wp2_with fail;refine(L.out V H.out).mono ?_;rintro e w4⟨rfl,a⟩;have y:=ah (R.out.ext (H.out.trans' a));have r:=G.out.trans' (H.out.trans' a);clear a rT;by_cases f:v=0
   .have g:=ah (j.out.trans (nN' (by rw[f];simp)));have Q:(v != 0)=false:=bZ' f;clear f;go_wp2;go_ret2;exact⟨A,n,c,by rw[g.out];rfl,by rw[g.out];exact y.out,r⟩
   .have g:=ah (j.out.trans (pP' f));have Q:(v != 0)=true:=bN' f;clear f;go_wp2;go_ret2;exact⟨none,0,0,by rw[g.out];rfl,by rw[g.out];exact au.nil_ _,r⟩
  .rw[r]at S i;have K:=ah (i.out.trans (by rfl:_=alD l));rw[K.out]at C;clear ht O s Z F i K r L;generalize alD l=Y at*;obtain⟨m,ev⟩:=Y;simp only[]at C;by_cases I:ev=0
   .subst I;have j:Hid (D=if gu T m≠0 then([],gu T m)else(m,0)):=ah C.out;have a2:Hid (∀B k d b,Ext (tW' w t) b->au b ⟨B,k,d⟩ m->cE' 183 #[t.v,.slice B k d] b (.int .i64 (gu T m))):=ah (λB k d b h O=>Ja T t m B k d b (HT.out.ay h) O);generalize gu T m=v at*;clear C;go_enter func116,ntmps116;go_wp2_with fail;refine P.out.mono ?_;rintro e w0⟨rfl,rfl⟩;go_wp2_with fail;refine(X.out).mono ?_;rintro e U⟨rfl,o⟩;go_wp2_with fail;refine(S.out U).mono ?_;rintro e V⟨rfl,p⟩;go_wp2_with fail;refine(M.out V).mono ?_;rintro e w3⟨B,k,d,rfl,J,z⟩;have N:Hid (Ext (tW' w t) w3):=ah ((o.trans' p).trans' z);have W:=ah J;have rT:=bT' t N.out;clear o p z J;go_wp2_with fail;refine(a2.out B k d w3 N.out W.out).mono ?_;rintro e w4⟨rfl,a⟩;have y:=ah (W.out.ext a);have r:=(G.out.trans' N.out).trans' a;clear a rT;by_cases f:v=0
    .have g:=ah (j.out.trans (nN' (by rw[f];simp)));have Q:(v != 0)=false:=bZ' f;clear f;go_wp2;go_ret2;exact⟨B,k,d,by rw[g.out];rfl,by rw[g.out];exact y.out,r⟩
    .have g:=ah (j.out.trans (pP' f));have Q:(v != 0)=true:=bN' f;clear f;go_wp2;go_ret2;exact⟨none,0,0,by rw[g.out];rfl,by rw[g.out];exact au.nil_ _,r⟩
   .have g:=ah (C.out.trans (pP' I));have Q:(ev != 0)=true:=bN' I;clear I C;go_enter func116,ntmps116;go_wp2_with fail;refine P.out.mono ?_;rintro e w0⟨rfl,rfl⟩;go_wp2_with fail;refine(X.out).mono ?_;rintro e U⟨rfl,o⟩;go_wp2_with fail;refine(S.out U).mono ?_;rintro e V⟨rfl,p⟩;go_wp2_with fail;refine(M.out V).mono ?_;rintro e w3⟨B,k,d,rfl,J,z⟩;have r:=((G.out.trans' o).trans' p).trans' z;clear o p z J;go_wp2;go_ret2;exact⟨none,0,0,by rw[g.out];rfl,by rw[g.out];exact au.nil_ _,r⟩
end Go.Proofs.YtpmgophlhmcogaaGreatDoor
