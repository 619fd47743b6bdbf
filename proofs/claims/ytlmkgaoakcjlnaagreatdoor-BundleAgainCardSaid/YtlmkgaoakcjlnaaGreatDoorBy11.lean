/- Part By11. -/
import Derived.Deep.LoopGhost
import Derived.Deep.RegionLaw
import Derived.Laws.Tables
import Derived.Laws.Rows
import Derived.Test.YtlmkgaoakcjlnaaGreatDoorBy10
open Go.Proofs.Tryz
namespace Go.Proofs.YtlmkgaoakcjlnaaGreatDoor
set_option maxHeartbeats 25600000
set_option maxRecDepth 100000
open Go.RowKit
variable (T:aj)(t:TV)(l:List Int)(A:Option Addr)(n c:Nat)(w:World)
def aE1(wb:World)(D:List Mp)(v:List Int×Bool)(gh:Nat)(s6 s7:Value)(wx:World):Prop:=
 ∃(r:Nat)(L:List Int)(A:Option Addr)(c:Nat),r+gh=257/\s7=.int .i64 r/\s6=.slice A L.length c/\aF wx ⟨A,L.length,c⟩ L/\Ext wb wx/\Hid (v=wB D gh L)/\L.length<=18
def aC5(wb:World)(D:List Mp)(L:List Int)(gh:Nat)(s8 s9 s21:Value)(wx:World):Prop:=
 ∃(k:Nat)(A:Option Addr)(c:Nat)(acc:List Int)(more:Bool),k+gh=L.length/\s21=.int .i64 k/\s8=.slice A acc.length c/\s9=.bool more/\aK wx wb.heap.size A acc.length c acc/\Ext wb wx/\Hid (acc=nH D (L.take k))/\Hid (more= !nR D (L.take k))/\acc.length<=18*k
def TL(w:World)(v:List Int×Bool)(e:Ending)(w':World):Prop:=∃A n c,e=.returned (.tuple #[.slice A n c,.bool v.2])/\aF w' ⟨A,n,c⟩ v.1/\Ext w w'
theorem aCl{D:List Mp}{L:List Int}{k:Nat}(h:k<L.length):nH D (L.take (k+1))=nH D (L.take k)++wC D L[k]:=by
 rw[tS' h,nH,List.flatMap_append];simp[nH]
theorem aD4{D:List Mp}{L:List Int}{k:Nat}(h:k<L.length):nR D (L.take (k+1))=(nR D (L.take k)&&(aI D L[k]).isEmpty):=by
 rw[tS' h,nR,List.all_append];simp[nR]
theorem Le(T:aj)(H:Int)(w:World)(ht:aW w t T)(a2:∀x,(aI T.dec x).length<=18):
 Calls prog 184 #[t.v,.int .i64 H] w (TL w (pX T.dec H)):=by
 have aa:=ah a2;have HD:Hid (dO w ⟨t.s9.a,t.s9.n,t.s9.c⟩ T.dec):=ah ht.dec;have W:=dG w t;have ji:Ext w (((tW' w t)).alloc (.cells #[.int .i64 H] 3)):=W.aB _;have HB:Hid (pX T.dec H=wB T.dec 257 [H]):=rfl;generalize pX T.dec H=V at*;generalize T.dec=D at*;have b5:=ah ji;clear ht a2;go_enter func184,ntmps184;go_wp2;go_loopg[6,7] 257 (λgh s6 s7 wx=>aE1 (tW' w t) D V gh s6 s7 wx);exact⟨0,[H],some ⟨w.heap.size+1,0,none⟩,1,rfl,rfl,rfl,by have h:=iQ ((tW' w t)) H;simpa using h,eR'.aB _,HB,by simp⟩;obtain⟨r,L,A,cL,b9,rfl,rfl,hi,q,HR,hL⟩:=hrel;have HI:=ah hi;have bn:=ah q;have X:=W.trans' q;have s:=ah X;have hz:w.heap.size<wr.heap.size:=by have h':=q.b.size;simp at h';omega
 clear hi q X HB;rcases Nat.eq_zero_or_pos gk with h0|aM
 .subst h0;have m:Hid (V=([],false)):=ah (by rw[HR.out];rfl);have hd:decide ((r:Int)<=256)=false:=dF';have ad:decide (r<=256)=false:=dF';clear HR;go_wp2;go_ret2;exact⟨none,0,0,by rw[m.out];rfl,by rw[m.out];exact aF.nil_ _,s.out⟩
 .obtain⟨z,rfl⟩:=gS' gk;have hd:decide ((r:Int)<=256)=true:=dT';have ad:decide (r<=256)=true:=dT';have HS:=aJ HR (show _=if nR D L=true then(L,true)else if 18<(nH D L).length then([],false)else wB D z (nH D L)from rfl);clear HR;obtain⟨U,rfl⟩:=eX' wr;go_wp2;go_loopg[8,9,21] L.length (λgh s8 s9 af wx=>aC5 U D L gh s8 s9 af wx);exact⟨0,none,0,[],false,by omega,rfl,rfl,rfl,Own.nil_ _ _ _ _,eR',ah rfl,ah rfl,by simp⟩;obtain⟨k,A8,c8,d,more,be,rfl,rfl,rfl,G,I,HA,HM,bf⟩:=hrel;have HO:=ah G;have J:=ah I;have rT:=bT' t (bn.out.trans' I);clear G I;by_cases i:k<L.length
  .obtain⟨Y,rfl⟩:=gS' gk;obtain⟨b,o,ha,hc⟩:=(HI.out.ext J.out).at_ i;subst ha;have B:Hid (nH D (L.take (k+1))=d++wC D (L[k]'i)):=ah (by rw[aCl i,<- HA.out]);have C:Hid ((!nR D (L.take (k+1)))=(more|| !(aI D (L[k]'i)).isEmpty)):=ah (by rw[aD4 i,HM.out,Bool.not_and]);generalize L[k]=x at*;have bj:=z0' k;have bk:(k:Int)<(L.length:Int):=(by omega);have bl:=aa.out x;clear HA HM;obtain⟨wi,rfl⟩:=eX' wr;go_wp2_with fail;refine(iZ D t.s9.a t.s9.n t.s9.c x _ (HD.out.ext (s.out.trans' J.out))).mono ?_;rintro e w3⟨za,zn,zc,rfl,K,M⟩;have j:=K.len.1;have dM:Hid (aK w3 U.heap.size A8 d.length c8 d):=ah (Own.ext HO.out M);have E:=ah (J.out.trans' M);have ag:=ah K;clear K M rT;by_cases p:(aI D x).isEmpty=true
   .have N:(aI D x).length=0:=(by rw[List.isEmpty_iff.1 p];rfl);have Ot:zn=0:=(by rw[j,N]);subst Ot;clear j;have O:Hid (d++[x]=nH D (L.take (k+1))):=ah (by rw[B.out,wC,pP' p]);have P:Hid (more= !nR D (L.take (k+1))):=ah (by rw[C.out,p];simp);have Q:Ext w3 (w3.alloc (.cells #[.int .i64 x] 3)):=eR'.aB _;obtain⟨A5,c5,w5,l,f,g,kK⟩:=gJ (Own.ext dM.out Q) (iQ w3 x) (by omega) (by have h':=E.out.b.size;simp;omega);have bP:=ah f;have bD:Hid (Ext U w5):=ah (dZ (E.out.trans' Q) g (λk hk=>(Own.lt dM.out k hk).1));clear f g kK Q B C p N;go_wp2_with(at_builtin;refine dI rfl _ _ _ rfl _ _ rfl rfl _ _ l ?_);go_roundg Y;exact⟨k+1,A5,c5,d++[x],more,by omega,by go_num,by simp,rfl,by simpa using bP.out,bD.out,O,P,by simp;omega⟩;omega
   .have N:0<(aI D x).length:=by
     cases hm:aI D x with
     |nil=>rw[hm]at p;simp at p
     |cons y r=>simp
    have O:Hid (d++aI D x=nH D (L.take (k+1))):=ah (by rw[B.out,wC,nN' p]);have P:Hid (true= !nR D (L.take (k+1))):=ah (by rw[C.out];simp only[Bool.not_eq_true]at p;rw[p];simp);obtain⟨A5,c5,w5,l,f,g,kK⟩:=gJ dM.out ag.out (by omega) E.out.b.size;have bP:=ah f;have bD:Hid (Ext U w5):=ah (dZ E.out g (λk hk=>(Own.lt dM.out k hk).1));have bp:decide (0<zn)=true:=dT';have bq:decide ((0:Int)<(zn:Int))=true:=dT';have ar:=ah j;have Z:(d++aI D x).length=d.length+zn:=(by rw[lA',j]);have R:=ah Z;clear f g kK B C p j Z;go_wp2_with(at_builtin;refine dI rfl _ _ _ rfl _ _ rfl rfl _ _ l ?_);go_roundg Y;exact⟨k+1,A5,c5,d++aI D x,true,by omega,by go_num,by rw[R.out],rfl,by rw[R.out];exact bP.out,bD.out,O,P,by rw[R.out,ar.out];omega⟩;omega
  .have av:Hid (d=nH D L):=ah (by rw[HA.out,tL' (by omega)]);have S:Hid (more= !nR D L):=ah (by rw[HM.out,tL' (by omega)]);have a0:gk=0:=(by omega);clear HA HM;cases more
   .have m:Hid (V=(L,true)):=ah (by
     have h1:nR D L=true:=by have:=S.out;cases h:nR D L<;>rw[h]at this<;>simp at this |-
     rw[HS.out,pP' h1])
    clear HS a0;go_wp2;go_ret2;exact⟨A,_,cL,by rw[m.out];rfl,by rw[m.out];exact HI.out.ext J.out,s.out.trans' J.out⟩
   .have F:Hid (V=if 18<d.length then([],false)else wB D z d):=ah (by
     have h1:¬(nR D L=true):=by have:=S.out;cases h:nR D L<;>rw[h]at this<;>simp at this |-
     rw[HS.out,nN' h1,av.out])
    clear HS S a0;by_cases a1:18<d.length
    .have m:Hid (V=([],false)):=ah (by rw[F.out,pP' a1]);clear F;go_wp2;go_ret2;exact⟨none,0,0,by rw[m.out];rfl,by rw[m.out];exact aF.nil_ _,s.out.trans' J.out⟩
    .have m:Hid (V=wB D z d):=ah (by rw[F.out,nN' a1]);have ax:d.length<=18:=(by omega);clear F;go_wp2;go_roundg z;exact⟨r+1,d,A8,c8,by omega,by go_num,rfl,aK.ints HO.out,bn.out.trans' J.out,m,ax⟩;omega
theorem a5f(T:aj)(w:World)(ht:aW w t T)(p:T.dec.length<=256)(aa:∀x,(aI T.dec x).length<=18):
 cE' 110 #[t.v] w (.bool (mF T)):=by
 have s:Hid (mF T=(mM T.dec&&sW T.dec (T.dec.length+1) T.dec)):=rfl;obtain⟨s0,s1,s2,s3,s4,s5,s6,s7,s8,⟨A,n,U⟩,F,G⟩:=t;have O:dO w ⟨A,n,U⟩ T.dec:=ht.dec;obtain⟨Q,V⟩:∃q:List Mp->Bool,q=λL=>L.all λm=>(pX T.dec m.lo).2:=⟨_,rfl⟩
 have s:Hid (mF T=(mM T.dec&&Q T.dec)):=ah (by rw[s.out,RY p,V]);have W:=ah aa;have HQ:=ah V;have X:mF T=(mM T.dec&&Q T.dec):=s.out;clear V X;obtain⟨l,y⟩:=eX' T.dec;rw[<- y]at s O;have HL:=ah y;clear y;obtain⟨hl,_,_⟩:=O.len;subst hl;have Y:Ext w (tA' w s0 s1 s2 s3 s4 s5 s6 s7 s8 ⟨A,l.length,U⟩ F G):=eR'.aB _;go_enter func110,ntmps110;go_wp2
 go_loopw[14] (λi wr=>∃(k:Nat),k<=l.length/\i=.int .i64 k/\Hid (mF T=(mM (l.drop k)&&Q l))/\
  Ext (tA' w s0 s1 s2 s3 s4 s5 s6 s7 s8 ⟨A,l.length,U⟩ F G) wr) (λi _=>l.length-(intOf i).toNat)
 exact⟨0,zl' _,rfl,s,eR'⟩;obtain⟨k,hk,rfl,P,d⟩:=hrel;have E:=Y.trans' d;by_cases H:k<l.length
 .obtain⟨b,o,I,Z,J,K,h0,h1,B⟩:=(O.ext E).at_ H;subst K;have M:=ah (drop_at l k H);generalize l[k]=x at*;obtain⟨r,a⟩:=x;simp only at h0 h1 B;obtain⟨a2,_,_⟩:=B.len;subst a2;have ji:Ext wr (wr.alloc (.cells #[.int .i64 r,.slice I a.length J] 77)):=eR'.aB _;have a3:=B.ext ji;have f:=aJ P (show _=(!decide (2<(a.length:Int))&&(rO a&&(mM (l.drop (k+1))&&Q l)))from by rw[M.out];simp[mM,Bool.and_assoc]);clear P M s B;by_cases p:2<a.length
  .have c:=aJ f (show _=false from by simp;intros;omega);clear f;go_wp2;go_ret;exact⟨aP c.out.symm,E.aB _⟩
  .have C:=aJ f (show _=(rO a&&(mM (l.drop (k+1))&&Q l))from by simp;intros;omega);clear f;obtain⟨D,rfl⟩:=eX' wr;go_wp2;go_loopw[25] (λi wi=>∃(j:Nat),j<=a.length/\i=.int .i64 j/\Hid (mF T=(rO (a.drop j)&&(mM (l.drop (k+1))&&Q l)))/\D.alloc (.cells #[.int .i64 r,.slice I a.length J] 77)=wi) (λi _=>a.length-(intOf i).toNat);exact⟨0,zl' _,rfl,C,rfl⟩;obtain⟨j,hj,rfl,g,rfl⟩:=hrel;by_cases N:j<a.length
   .obtain⟨b5,o5,K,g5⟩:=a3.at_ N;subst K;have HJ:Hid (a.drop j=a[j]::a.drop (j+1)):=drop_at a j N;generalize a[j]=z at*;have R:=aJ g (show _=(!((z==46)||aZ z||dP z)&&(rO (a.drop (j+1))&&(mM (l.drop (k+1))&&Q l)))from by rw[HJ.out];simp only[rO,Bool.and_assoc];rfl);clear g HJ C;cases hz:(z==46)
    .go_wp2_with(first
      |(go_at_call 113;refine(lH _ _).mono ?_;rintro e w'⟨rfl,rfl⟩;cases ay:aZ z)
      |(go_at_call 183;refine(rH _ _).mono ?_;rintro e w'⟨rfl,rfl⟩;cases az:dP z))
     all_goals first
      |(go_ret;exact⟨aP (by rw[R.out];simp[*]),E.aB _⟩)
      |(go_roundw
        case rel=>exact⟨j+1,by omega,by go_num,aJ R (by simp[*]),by trivial⟩
        case measure=>simp[intOf];omega)
    .have c:=aJ R (show _=false from by rw[hz];rfl);clear R;go_wp2;go_ret;exact⟨aP c.out.symm,E.aB _⟩
   .have c:=aJ g (show _=(mM (l.drop (k+1))&&Q l)from by rw[bV a j (by omega)];rfl);clear g C;go_wp2;go_roundw;exact⟨k+1,by omega,by go_num,c,d.aB _⟩;simp[intOf];omega
 .have c:=aJ P (show _=Q l from by rw[bV l k (by omega)];rfl);clear P s;have a5:=aQ d;have aD:w.heap.size<wr.heap.size:=by have:=d.b.size;simp at this;omega
  obtain⟨D,rfl⟩:=eX' wr;go_wp2;go_loopw[44] (λi wi=>∃(j:Nat),j<=l.length/\i=.int .i64 j/\Hid (mF T=Q (l.drop j))/\Ext D wi) (λi _=>l.length-(intOf i).toNat);exact⟨0,zl' _,rfl,c,eR'⟩;obtain⟨j,hj,rfl,g,h⟩:=hrel;have oU:=E.trans' h;by_cases N:j<l.length
  .obtain⟨b,o,I,Z,J,K,h0,h1,B⟩:=(O.ext oU).at_ N;subst K;have M:Hid (l.drop j=l[j]::l.drop (j+1)):=drop_at l j N;generalize l[j]=x at*;obtain⟨r,a⟩:=x;simp only at h0 h1 B;have ap:=aQ (d.trans' h);have FK:w.heap.size<wr.heap.size:=(by have:=h.b.size;omega);have a7:=ah (ht.aC (oU.aB (.cells #[.int .i64 r,.slice I Z J] 77)));have f:=aJ g (show _=((pX T.dec r).2&&Q (l.drop (j+1)))from by rw[M.out,HQ.out];rfl);clear a5 g M c B;go_wp2_with fail;refine(Le _ T r _ a7.out W.out).mono ?_;rintro e w3⟨A3,n3,c3,rfl,_,a8⟩;have xM:=(h.aB (.cells #[.int .i64 r,.slice I Z J] 77)).trans' a8;cases S:(pX T.dec r).2
   .have c:=aJ f (show _=false from by rw[S];rfl);clear f S;go_wp2;go_ret;exact⟨aP c.out.symm,E.trans' xM⟩
   .have c:=aJ f (show _=Q (l.drop (j+1))from by rw[S];rfl);clear f S;go_wp2;go_roundw;exact⟨j+1,by omega,by go_num,c,xM⟩;simp[intOf];omega
  .have a9:=aJ g (show _=true from by rw[bV l j (by omega),HQ.out];rfl);clear g c;go_wp2;go_ret;exact⟨aP a9.out.symm,oU⟩
theorem Rj(T:aj)(c:Int)(w:World)(ht:aW w t T)(r:(aI T.dec c).length≠2):
 cE' 112 #[t.v,.int .i64 c] w (.bool false):=by
 have k:Hid (dO w ⟨t.s9.a,t.s9.n,t.s9.c⟩ T.dec):=ah ht.dec;have b:=dG w t;obtain⟨s,g,y,i,j⟩:=Bl T.dec t.s9.a t.s9.n t.s9.c c w k.out;have f:=i.len.1;have l:((g:Int) != 2)=true:=by rw[bne_iff_ne];omega
 have m:(g != 2)=true:=by rw[bne_iff_ne];omega
 have o:=ah j;clear i f j r ht;go_enter func112,ntmps112;go_wp2_with fail;refine(o.out _ b).mono ?_;rintro e p⟨rfl,d⟩;have q:=λyy:ak p=>bT' t (d.trans' yy.h)
 go_wp2_with fail;refine rX' ?_
 repeat(go_big_quiet_step(fail))
 refine wpQuiet_nil ?_;rintro _⟨x,rfl⟩;clear q;go_wp2;go_ret;exact⟨rfl,(b.trans' d).trans' x.h⟩
theorem aDM(T:aj)(c a b:Int)(r:Bool)(w:World)(ht:aW w t T)(a4:T.dec.length<=256)(hF:nG T.dec)(bb:∀x,(aI T.dec x).length<=18)(hm:aI T.dec c=[a,b])
 (ih:(aI T.dec a).isEmpty=false->∀w',Ext w w'->cE' 112 #[t.v,.int .i64 a] w' (.bool r)):
 Calls prog 112 #[t.v,.int .i64 c] w λe w'=>e=.returned (.bool (!(jw T.exc c||decide (aG T c≠0)||decide (aG T a≠0)|| !(aI T.dec b).isEmpty)&&
  !(!(aI T.dec a).isEmpty&& !r)&&(decide (aG T b=0)||decide (aG T (lastT T.dec a)<=aG T b))))/\Ext w w':=by
 have HT:=ah ht;have HD:Hid (dO w ⟨t.s9.a,t.s9.n,t.s9.c⟩ T.dec):=ah ht.dec;have aD:=dG w t;obtain⟨za,zn,zc,hz,aL⟩:=Bl T.dec t.s9.a t.s9.n t.s9.c c w HD.out;obtain⟨bh,C,bi,aM,aR⟩:=Bl T.dec t.s9.a t.s9.n t.s9.c a w HD.out;obtain⟨bj,D,bk,b0,b1⟩:=Bl T.dec t.s9.a t.s9.n t.s9.c b w HD.out;rw[hm]at hz;obtain rfl:zn=2:=hz.len.1;obtain⟨m,o,ha,ga⟩:=hz.at_ (i:=0) (by simp);obtain⟨b6,o6,a6,gb⟩:=hz.at_ (i:=1) (by simp);subst ha;injection a6 with a6;injection a6 with e1 e2;subst e1 e2;simp only[List.getElem_cons_zero,List.getElem_cons_succ,Nat.add_zero]at ga gb;have Vz:=ah (aCo a4 hF a);obtain⟨G,a7⟩:∃G,(!(jw T.exc c||decide (aG T c≠0)||decide (aG T a≠0)|| !(aI T.dec b).isEmpty)&& !(!(aI T.dec a).isEmpty&& !r)&&(decide (aG T b=0)||decide (aG T (lastT T.dec a)<=aG T b)))=G:=⟨_,rfl⟩;rw[a7];have Q:=aM.len.1;have R:=b0.len.1;have FC:=ah aL;go_enter func112,ntmps112;go_wp2_with fail;refine(FC.out _ aD).mono ?_;rintro e g⟨rfl,a8⟩;have B:Hid (Ext w g):=ah (aD.trans' a8);have bn:=ah a8;have J:Hid (∀w',Ext g w'->∀k:Nat,w'.cell? ⟨w.heap.size,k,none⟩=t.v.cells[k]?):=ah (λw' h=>aQ (bn.out.trans' h));have P:Hid (∀w',Ext g w'->w'.cell? ⟨m,o,none⟩=some (.int .i64 a)):=ah (λw' h=>bI (bK (B.out.trans' h)) ga);have KB:Hid (∀w',Ext g w'->w'.cell? ⟨m,o+1,none⟩=some (.int .i64 b)):=ah (λw' h=>bI (bK (B.out.trans' h)) gb);have FA:Hid (∀w',Ext g w'->cE' 111 #[.slice t.s9.a t.s9.n t.s9.c,.int .i64 a] w' (.slice bh C bi)):=ah (λw' h=>aR w' (B.out.trans' h));have FB:Hid (∀w',Ext g w'->cE' 111 #[.slice t.s9.a t.s9.n t.s9.c,.int .i64 b] w' (.slice bj D bk)):=ah (λw' h=>b1 w' (B.out.trans' h));have CE:Hid (∀w',Ext g w'->cE' 185 #[t.v,.int .i64 c] w' (.bool (jw T.exc c))):=ah (λw' h=>a1y t T c w' (HT.out.aC (B.out.trans' h)));have CC:Hid (∀w',Ext g w'->cE' 118 #[t.v,.int .i64 c] w' (.int .i64 (aG T c))):=ah (λw' h=>zW t T c w' (HT.out.aC (B.out.trans' h)));have CA:Hid (∀w',Ext g w'->cE' 118 #[t.v,.int .i64 a] w' (.int .i64 (aG T a))):=ah (λw' h=>zW t T a w' (HT.out.aC (B.out.trans' h)));have CB:Hid (∀w',Ext g w'->cE' 118 #[t.v,.int .i64 b] w' (.int .i64 (aG T b))):=ah (λw' h=>zW t T b w' (HT.out.aC (B.out.trans' h)));have CL:Hid (∀w',Ext g w'->cE' 118 #[t.v,.int .i64 (lastT T.dec a)] w' (.int .i64 (aG T (lastT T.dec a)))):=ah (λw' h=>zW t T _ w' (HT.out.aC (B.out.trans' h)));have CU:Hid (∀w',Ext g w'->Calls prog 184 #[t.v,.int .i64 a] w' (TL w' (pX T.dec a))):=ah (λw' h=>Le t T a w' (HT.out.aC (B.out.trans' h)) bb);have bq:Hid ((aI T.dec a).isEmpty=false->∀w',Ext g w'->cE' 112 #[t.v,.int .i64 a] w' (.bool r)):=ah (λhe w' h=>ih he w' (B.out.trans' h))
 have b3:Hid ((aI T.dec a).isEmpty=decide (C=0)):=ah (by
  cases hq:aI T.dec a with
  |nil=>rw[hq]at Q;rw[Q];rfl
  |cons y q=>rw[hq]at Q;rw[Q];simp)
 have br:Hid ((aI T.dec b).isEmpty=decide (D=0)):=ah (by
  cases hq:aI T.dec b with
  |nil=>rw[hq]at R;rw[R];rfl
  |cons y q=>rw[hq]at R;rw[R];simp)
 obtain⟨vE,hE⟩:=eY' (jw T.exc c);rw[hE]at CE;obtain⟨yc,ab⟩:=eY' (aG T c);obtain⟨ya,ac⟩:=eY' (aG T a);obtain⟨A,ad⟩:=eY' (aG T b);obtain⟨yl,af⟩:=eY' (aG T (lastT T.dec a));rw[ab]at CC;rw[ac]at CA;rw[ad]at CB;rw[af]at CL
 have HV:Hid (∀p,decide (C=0)=p->∀q,decide (D=0)=q->G=(!(vE||decide (yc≠0)||decide (ya≠0)|| !q)&& !(!p&& !r)&&(decide (A=0)||decide (yl<=A)))):=ah (λp hp q hq=>by
  rw[<- a7,hE,ab,ac,ad,af,b3.out,br.out,hp,hq])
 clear a7 hE ab ac ad af ih aR b1 aL aM b0 hz Q R ga gb a8 ht hm bb hF a4 HT HD FC;cases vE
 case true=>
  have F:Hid (G=false):=ah (by rw[HV.out _ rfl _ rfl];rfl);clear HV;have K:∀f:ak g,∀k:Nat,f.w.cell? ⟨w.heap.size,k,none⟩=t.v.cells[k]? :=λf=>J.out _ ((Ext.refl g).trans' f.h)
  have L:∀f:ak g,f.w.cell? ⟨m,o,none⟩=some (.int .i64 a):=λf=>P.out _ ((Ext.refl g).trans' f.h)
  have M:∀f:ak g,f.w.cell? ⟨m,o+1,none⟩=some (.int .i64 b):=λf=>KB.out _ ((Ext.refl g).trans' f.h)
  go_wp2_with fail;refine rX' ?_
  repeat(go_big_quiet_step(first|(go_at_call 185;with_reducible exact aS (CE.out _ ((Ext.refl g).trans' (ak.h _))))))
  refine wpQuiet_nil ?_;rintro _⟨x,rfl⟩;clear K L M;go_wp2;go_ret;exact⟨aP F.out.symm,B.out.trans' x.h⟩
 case false=>
  by_cases c1:yc=0
  case neg=>
   have F:Hid (G=false):=ah (by rw[HV.out _ rfl _ rfl];rw[dt' (p:=yc≠0) c1];rfl);have d1:(yc != 0)=true:=bN' c1;clear HV c1;have K:∀f:ak g,∀k:Nat,f.w.cell? ⟨w.heap.size,k,none⟩=t.v.cells[k]? :=λf=>J.out _ ((Ext.refl g).trans' f.h)
   have L:∀f:ak g,f.w.cell? ⟨m,o,none⟩=some (.int .i64 a):=λf=>P.out _ ((Ext.refl g).trans' f.h)
   have M:∀f:ak g,f.w.cell? ⟨m,o+1,none⟩=some (.int .i64 b):=λf=>KB.out _ ((Ext.refl g).trans' f.h)
   go_wp2_with fail;refine rX' ?_
   repeat(go_big_quiet_step(first|(go_at_call 185;with_reducible exact aS (CE.out _ ((Ext.refl g).trans' (ak.h _))))|(go_at_call 118;with_reducible exact aS (CC.out _ ((Ext.refl g).trans' (ak.h _))))))
   refine wpQuiet_nil ?_;rintro _⟨x,rfl⟩;clear K L M;go_wp2;go_ret;exact⟨aP F.out.symm,B.out.trans' x.h⟩
  have d1:(yc != 0)=false:=by rw[bne_eq_false_iff_eq];exact c1
  by_cases c2:ya=0
  case neg=>
   have F:Hid (G=false):=ah (by rw[HV.out _ rfl _ rfl];rw[dt' (p:=ya≠0) c2];simp);have d2:(ya != 0)=true:=bN' c2;clear HV c1 c2;have K:∀f:ak g,∀k:Nat,f.w.cell? ⟨w.heap.size,k,none⟩=t.v.cells[k]? :=λf=>J.out _ ((Ext.refl g).trans' f.h)
   have L:∀f:ak g,f.w.cell? ⟨m,o,none⟩=some (.int .i64 a):=λf=>P.out _ ((Ext.refl g).trans' f.h)
   have M:∀f:ak g,f.w.cell? ⟨m,o+1,none⟩=some (.int .i64 b):=λf=>KB.out _ ((Ext.refl g).trans' f.h)
   go_wp2_with fail;refine rX' ?_
   repeat(go_big_quiet_step(first|(go_at_call 185;with_reducible exact aS (CE.out _ ((Ext.refl g).trans' (ak.h _))))|(go_at_call 118;with_reducible exact aS (CC.out _ ((Ext.refl g).trans' (ak.h _))))|(go_at_call 118;with_reducible exact aS (CA.out _ ((Ext.refl g).trans' (ak.h _))))))
   refine wpQuiet_nil ?_;rintro _⟨x,rfl⟩;clear K L M;go_wp2;go_ret;exact⟨aP F.out.symm,B.out.trans' x.h⟩
  have d2:(ya != 0)=false:=by rw[bne_eq_false_iff_eq];exact c2
  by_cases c3:D=0
  case neg=>
   have F:Hid (G=false):=ah (by rw[HV.out _ rfl _ rfl];rw[df' (p:=D=0) c3];simp);have d3:decide (0<D)=true:=dT';have d4:decide ((0:Int)<(D:Int))=true:=dT';clear HV c1 c2 c3;have K:∀f:ak g,∀k:Nat,f.w.cell? ⟨w.heap.size,k,none⟩=t.v.cells[k]? :=λf=>J.out _ ((Ext.refl g).trans' f.h)
   have L:∀f:ak g,f.w.cell? ⟨m,o,none⟩=some (.int .i64 a):=λf=>P.out _ ((Ext.refl g).trans' f.h)
   have M:∀f:ak g,f.w.cell? ⟨m,o+1,none⟩=some (.int .i64 b):=λf=>KB.out _ ((Ext.refl g).trans' f.h)
   go_wp2_with fail;refine rX' ?_
   repeat(go_big_quiet_step(first|(go_at_call 185;with_reducible exact aS (CE.out _ ((Ext.refl g).trans' (ak.h _))))|(go_at_call 118;with_reducible exact aS (CC.out _ ((Ext.refl g).trans' (ak.h _))))|(go_at_call 118;with_reducible exact aS (CA.out _ ((Ext.refl g).trans' (ak.h _))))|(go_at_call 111;with_reducible exact aS (FB.out _ ((Ext.refl g).trans' (ak.h _))))))
   refine wpQuiet_nil ?_;rintro _⟨x,rfl⟩;clear K L M;go_wp2;go_ret;exact⟨aP F.out.symm,B.out.trans' x.h⟩
  have d3:decide (0<D)=false:=dF';have d4:decide ((0:Int)<(D:Int))=false:=dF'
  have nJ:Hid (∀p,decide (C=0)=p->G=(!(!p&& !r)&&(decide (A=0)||decide (yl<=A)))):=ah (λp hp=>by
   rw[HV.out p hp true (by rw[au];exact c3),df' (p:=yc≠0) (λh=>h c1),df' (p:=ya≠0) (λh=>h c2)];rfl)
  clear HV c1 c2 c3;by_cases c5:C=0
  case pos=>
   have d6:decide (0<C)=false:=dF';have d7:decide ((0:Int)<(C:Int))=false:=dF';have E:Hid (G=(decide (A=0)||decide (yl<=A))):=ah (by rw[nJ.out true (by rw[au];exact c5)];rfl);clear c5 nJ;have K:∀f:ak g,∀k:Nat,f.w.cell? ⟨w.heap.size,k,none⟩=t.v.cells[k]? :=λf=>J.out _ ((Ext.refl g).trans' f.h)
   have L:∀f:ak g,f.w.cell? ⟨m,o,none⟩=some (.int .i64 a):=λf=>P.out _ ((Ext.refl g).trans' f.h)
   have M:∀f:ak g,f.w.cell? ⟨m,o+1,none⟩=some (.int .i64 b):=λf=>KB.out _ ((Ext.refl g).trans' f.h)
   go_wp2_with fail;refine rX' ?_
   repeat(go_big_quiet_step(first|(go_at_call 185;with_reducible exact aS (CE.out _ ((Ext.refl g).trans' (ak.h _))))|(go_at_call 118;with_reducible exact aS (CC.out _ ((Ext.refl g).trans' (ak.h _))))|(go_at_call 118;with_reducible exact aS (CA.out _ ((Ext.refl g).trans' (ak.h _))))|(go_at_call 111;with_reducible exact aS (FB.out _ ((Ext.refl g).trans' (ak.h _))))))
   refine wpQuiet_nil ?_;rintro _⟨x,rfl⟩;have H:=ah x.h;clear K L M;have mO:∀f:ak x.w,∀k:Nat,f.w.cell? ⟨w.heap.size,k,none⟩=t.v.cells[k]? :=λf=>J.out _ (H.out.trans' f.h)
   have S:∀f:ak x.w,f.w.cell? ⟨m,o,none⟩=some (.int .i64 a):=λf=>P.out _ (H.out.trans' f.h)
   go_wp2_with fail;refine rX' ?_
   repeat(go_big_quiet_step(first|(go_at_call 111;with_reducible exact aS (FA.out _ (H.out.trans' (ak.h _))))))
   refine wpQuiet_nil ?_;rintro _⟨y,rfl⟩;have U:=ah (H.out.trans' y.h);clear mO S;have gy:∀k:Nat,y.w.drew.cell? ⟨w.heap.size,k,none⟩=t.v.cells[k]? :=J.out _ (U.out.dJ);have ai:y.w.drew.cell? ⟨m,o,none⟩=some (.int .i64 a):=P.out _ (U.out.dJ);go_wp2_with fail
   go_region_law((go_simp
                  go_at_call 184;refine(CU.out _ U.out.dJ).mono ?_;rintro e w3⟨A3,N,c3,rfl,V,am⟩;have I:=ah V;have l:=ah (U.out.dJ.trans' am)
                  clear V))
   all_goals
    clear gy ai;obtain⟨an,ao,ap,W⟩:=Vz.out;obtain⟨aq,_,_⟩:=I.out.len;obtain⟨j,hj⟩:∃j:Nat,N=j+1:=⟨N-1,by omega⟩;have X:j<(pX T.dec a).1.length:=(by omega);obtain⟨b9,o9,ar,g9⟩:=I.out.at_ X;have s:(pX T.dec a).1[j]=lastT T.dec a:=by
     rw[<- W,lq,getD_lt _ _ _ (by omega)];congr 1;omega
    rw[s]at g9;subst ar;have b8:(N:Int)-1=(j:Int):=(by omega);have bs:=z0' j;have bt:(j:Int)<(N:Int):=(by omega);have Gg:N<=18:=(by omega);have bu:0<N:=(by omega);have Y:∀f:ak w3,f.w.cell? ⟨b9,o9+j,none⟩=some (.int .i64 (lastT T.dec a)):=dA g9;clear hj s an ao ap W aq X g9 I;have iH:∀f:ak w3,∀k:Nat,f.w.cell? ⟨w.heap.size,k,none⟩=t.v.cells[k]? :=λf=>J.out _ (l.out.trans' f.h)
    have Z:∀f:ak w3,f.w.cell? ⟨m,o+1,none⟩=some (.int .i64 b):=λf=>KB.out _ (l.out.trans' f.h)
    by_cases O:A=0
    .have d5:(A==0)=true:=(by rw[bq'];exact O);have F:Hid (G=true):=ah (by rw[E.out,dt' (p:=A=0) O];rfl);clear O E;go_simp;go_wp2_with fail;refine rX' ?_
     repeat(go_big_quiet_step(first|(go_at_call 118;with_reducible exact aS (CB.out _ (l.out.trans' (ak.h _))))))
     refine wpQuiet_nil ?_;rintro _⟨z,rfl⟩;clear iH Z Y;go_wp2;go_ret;exact⟨aP F.out.symm,B.out.trans' (l.out.trans' z.h)⟩
    .have d5:(A==0)=false:=(by rw[aO];exact O);obtain⟨d,hd⟩:=eY' (decide (yl<=A));have F:Hid (G=d):=ah (by rw[E.out,df' (p:=A=0) O,hd];rfl);clear O E;go_simp;go_wp2_with fail;refine rX' ?_
     repeat(go_big_quiet_step(first|(go_at_call 118;with_reducible exact aS (CB.out _ (l.out.trans' (ak.h _))))|(go_at_call 118;with_reducible exact aS (CL.out _ (l.out.trans' (ak.h _))))))
     refine wpQuiet_nil ?_;rintro _⟨z,rfl⟩;clear iH Z Y;go_wp2;go_ret;exact⟨aP F.out.symm,B.out.trans' (l.out.trans' z.h)⟩
  have d6:decide (0<C)=true:=dT';have d7:decide ((0:Int)<(C:Int))=true:=dT';have IK:Hid (G=(!(!r)&&(decide (A=0)||decide (yl<=A)))):=ah (by rw[nJ.out false (by rw[aA];exact c5)];rfl);have IH:=ah (bq.out (by rw[b3.out,aA];exact c5));clear c5 nJ;cases r
  case false=>
   have F:Hid (G=false):=ah (by rw[IK.out];rfl);clear IK;have K:∀f:ak g,∀k:Nat,f.w.cell? ⟨w.heap.size,k,none⟩=t.v.cells[k]? :=λf=>J.out _ ((Ext.refl g).trans' f.h)
   have L:∀f:ak g,f.w.cell? ⟨m,o,none⟩=some (.int .i64 a):=λf=>P.out _ ((Ext.refl g).trans' f.h)
   have M:∀f:ak g,f.w.cell? ⟨m,o+1,none⟩=some (.int .i64 b):=λf=>KB.out _ ((Ext.refl g).trans' f.h)
   go_wp2_with fail;refine rX' ?_
   repeat(go_big_quiet_step(first|(go_at_call 185;with_reducible exact aS (CE.out _ ((Ext.refl g).trans' (ak.h _))))|(go_at_call 118;with_reducible exact aS (CC.out _ ((Ext.refl g).trans' (ak.h _))))|(go_at_call 118;with_reducible exact aS (CA.out _ ((Ext.refl g).trans' (ak.h _))))|(go_at_call 111;with_reducible exact aS (FB.out _ ((Ext.refl g).trans' (ak.h _))))))
   refine wpQuiet_nil ?_;rintro _⟨x,rfl⟩;have H:=ah x.h;clear K L M;have mO:∀f:ak x.w,∀k:Nat,f.w.cell? ⟨w.heap.size,k,none⟩=t.v.cells[k]? :=λf=>J.out _ (H.out.trans' f.h)
   have S:∀f:ak x.w,f.w.cell? ⟨m,o,none⟩=some (.int .i64 a):=λf=>P.out _ (H.out.trans' f.h)
   go_wp2_with fail;refine rX' ?_
   repeat(go_big_quiet_step(first|(go_at_call 111;with_reducible exact aS (FA.out _ (H.out.trans' (ak.h _))))|(go_at_call 112;with_reducible exact aS (IH.out _ (H.out.trans' (ak.h _))))))
   refine wpQuiet_nil ?_;rintro _⟨y,rfl⟩;have U:=ah (H.out.trans' y.h);clear mO S;go_wp2;go_ret;exact⟨aP F.out.symm,B.out.trans' U.out⟩
  have E:Hid (G=(decide (A=0)||decide (yl<=A))):=ah (by rw[IK.out];rfl);clear IK;have K:∀f:ak g,∀k:Nat,f.w.cell? ⟨w.heap.size,k,none⟩=t.v.cells[k]? :=λf=>J.out _ ((Ext.refl g).trans' f.h)
  have L:∀f:ak g,f.w.cell? ⟨m,o,none⟩=some (.int .i64 a):=λf=>P.out _ ((Ext.refl g).trans' f.h)
  have M:∀f:ak g,f.w.cell? ⟨m,o+1,none⟩=some (.int .i64 b):=λf=>KB.out _ ((Ext.refl g).trans' f.h)
  go_wp2_with fail;refine rX' ?_
  repeat(go_big_quiet_step(first|(go_at_call 185;with_reducible exact aS (CE.out _ ((Ext.refl g).trans' (ak.h _))))|(go_at_call 118;with_reducible exact aS (CC.out _ ((Ext.refl g).trans' (ak.h _))))|(go_at_call 118;with_reducible exact aS (CA.out _ ((Ext.refl g).trans' (ak.h _))))|(go_at_call 111;with_reducible exact aS (FB.out _ ((Ext.refl g).trans' (ak.h _))))))
  refine wpQuiet_nil ?_;rintro _⟨x,rfl⟩;have H:=ah x.h;clear K L M;have mO:∀f:ak x.w,∀k:Nat,f.w.cell? ⟨w.heap.size,k,none⟩=t.v.cells[k]? :=λf=>J.out _ (H.out.trans' f.h)
  have S:∀f:ak x.w,f.w.cell? ⟨m,o,none⟩=some (.int .i64 a):=λf=>P.out _ (H.out.trans' f.h)
  go_wp2_with fail;refine rX' ?_
  repeat(go_big_quiet_step(first|(go_at_call 111;with_reducible exact aS (FA.out _ (H.out.trans' (ak.h _))))|(go_at_call 112;with_reducible exact aS (IH.out _ (H.out.trans' (ak.h _))))))
  refine wpQuiet_nil ?_;rintro _⟨y,rfl⟩;have U:=ah (H.out.trans' y.h);clear mO S;have gy:∀k:Nat,y.w.drew.cell? ⟨w.heap.size,k,none⟩=t.v.cells[k]? :=J.out _ (U.out.dJ);have ai:y.w.drew.cell? ⟨m,o,none⟩=some (.int .i64 a):=P.out _ (U.out.dJ);go_wp2_with fail
  go_region_law((go_simp
                 go_at_call 184;refine(CU.out _ U.out.dJ).mono ?_;rintro e w3⟨A3,N,c3,rfl,V,am⟩;have I:=ah V;have l:=ah (U.out.dJ.trans' am)
                 clear V))
  all_goals
   clear gy ai;obtain⟨an,ao,ap,W⟩:=Vz.out;obtain⟨aq,_,_⟩:=I.out.len;obtain⟨j,hj⟩:∃j:Nat,N=j+1:=⟨N-1,by omega⟩;have X:j<(pX T.dec a).1.length:=(by omega);obtain⟨b9,o9,ar,g9⟩:=I.out.at_ X;have s:(pX T.dec a).1[j]=lastT T.dec a:=by
    rw[<- W,lq,getD_lt _ _ _ (by omega)];congr 1;omega
   rw[s]at g9;subst ar;have b8:(N:Int)-1=(j:Int):=(by omega);have bs:=z0' j;have bt:(j:Int)<(N:Int):=(by omega);have Gg:N<=18:=(by omega);have bu:0<N:=(by omega);have Y:∀f:ak w3,f.w.cell? ⟨b9,o9+j,none⟩=some (.int .i64 (lastT T.dec a)):=dA g9;clear hj s an ao ap W aq X g9 I;have iH:∀f:ak w3,∀k:Nat,f.w.cell? ⟨w.heap.size,k,none⟩=t.v.cells[k]? :=λf=>J.out _ (l.out.trans' f.h)
   have Z:∀f:ak w3,f.w.cell? ⟨m,o+1,none⟩=some (.int .i64 b):=λf=>KB.out _ (l.out.trans' f.h)
   by_cases O:A=0
   .have d5:(A==0)=true:=(by rw[bq'];exact O);have F:Hid (G=true):=ah (by rw[E.out,dt' (p:=A=0) O];rfl);clear O E;go_simp;go_wp2_with fail;refine rX' ?_
    repeat(go_big_quiet_step(first|(go_at_call 118;with_reducible exact aS (CB.out _ (l.out.trans' (ak.h _))))))
    refine wpQuiet_nil ?_;rintro _⟨z,rfl⟩;clear iH Z Y;go_wp2;go_ret;exact⟨aP F.out.symm,B.out.trans' (l.out.trans' z.h)⟩
   .have d5:(A==0)=false:=(by rw[aO];exact O);obtain⟨d,hd⟩:=eY' (decide (yl<=A));have F:Hid (G=d):=ah (by rw[E.out,df' (p:=A=0) O,hd];rfl);clear O E;go_simp;go_wp2_with fail;refine rX' ?_
    repeat(go_big_quiet_step(first|(go_at_call 118;with_reducible exact aS (CB.out _ (l.out.trans' (ak.h _))))|(go_at_call 118;with_reducible exact aS (CL.out _ (l.out.trans' (ak.h _))))))
    refine wpQuiet_nil ?_;rintro _⟨z,rfl⟩;clear iH Z Y;go_wp2;go_ret;exact⟨aP F.out.symm,B.out.trans' (l.out.trans' z.h)⟩
theorem aAm(i:T.dec.length<=256)(o:nG T.dec)(n:∀x,(aI T.dec x).length<=18):∀(k:Nat)(t:TV)(c:Int)(w:World),aW w t T->
 (∀a b,aI T.dec c=[a,b]->rkD T.dec a<k)->cE' 112 #[t.v,.int .i64 c] w (.bool (nC T k ⟨c,aI T.dec c⟩)):=by
 intro k;have g:∀l:List Int,(∀a b,l≠[a,b])->l.length≠2:=by
  intro l f
  match l,f with
  |[],_=>simp
  |[_],_=>simp
  |[a,b],f=>exact absurd rfl (f a b)
  |_::_::_::_,_=>simp
 induction k with
 |zero=>
  intro t c w ht j;have f:∀a b,aI T.dec c≠[a,b]:=λa b h=>by have:=j a b h;omega
  exact Calls.vY (Rj t T c w ht (g _ f)) (Et T 0 c _ f).symm
 |succ k ih=>
  intro t c w ht j;by_cases f:∀a b,aI T.dec c≠[a,b]
  .exact Calls.vY (Rj t T c w ht (g _ f)) (Et T (k+1) c _ f).symm
  .obtain⟨a,b,m⟩:∃a b,aI T.dec c=[a,b]:=Classical.byContradiction λh=>f λa b e=>h ⟨a,b,e⟩
   have p:=j a b m
   have h:=aDM t T c a b (nC T k ⟨a,aI T.dec a⟩) w ht i o n m (λ_ w' q=>ih t a w' (ht.aC q) λr y s=>by
    have:=EK o (c:=a) (d:=r) (by rw[s];simp)
    omega)
   rw[m,SI];exact h
theorem Qw(b:T.dec.length<=256)(f:nG T.dec)(d:∀x,(aI T.dec x).length<=18)(t:TV)(c:Int)(w:World)(ht:aW w t T):
 cE' 112 #[t.v,.int .i64 c] w (.bool (fK T ⟨c,aI T.dec c⟩)):=
 aAm T b f d (T.dec.length+2) t c w ht λa _ _=>by have:=Vh f a;omega
theorem a1M(l m:List Int)(A:Option Addr)(n c:Nat)(I:Option Addr)(J K:Nat)(w:World)(h:aF w ⟨A,n,c⟩ l)(L:aF w ⟨I,J,K⟩ m):
 cE' 276 #[.slice A n c,.slice I J K] w (.bool (jW l m)):=by
 obtain⟨M,_,_⟩:=h.len;obtain⟨t,_,_⟩:=L.len;subst M t;have N:=ah h;have O:=ah L;by_cases a:l.length=m.length
 .have P:((l.length:Int) != (m.length:Int))=false:=by rw[a];simp
  have D:=ah a;have Q:Hid ((m.length:Int)=(l.length:Int)):=ah (by rw[a]);clear a;go_enter func276,ntmps276;go_wp2;go_loopw[13] (λi wr=>∃(k:Nat),k<=l.length/\i=.int .i64 k/\Hid (jW l m=jW (l.drop k) (m.drop k))/\Ext w wr) (λi _=>l.length-(intOf i).toNat);exact⟨0,zl' _,rfl,rfl,eR'⟩;obtain⟨k,hk,rfl,r,f⟩:=hrel;by_cases j:k<l.length
  .have g:k<m.length:=by rw[<- D.out];exact j
   obtain⟨b,o,R,E⟩:=(N.out.ext f).at_ j;obtain⟨S,T,z,F⟩:=(O.out.ext f).at_ g;subst R z;have G:=ah (drop_at l k j);have H:=ah (drop_at m k g);generalize l[k]=x at*;generalize m[k]=y at*;have s:=aJ r (show _=(x==y&&jW (l.drop (k+1)) (m.drop (k+1)))from by rw[G.out,H.out];rfl);clear r G H;have U:∀B:ak wr,B.w.cell? ⟨b,o+k,none⟩=some (.int .i64 x):=dA E;have V:∀B:ak wr,B.w.cell? ⟨S,T+k,none⟩=some (.int .i64 y):=dA F;have W:=z0' k;have X:(k:Int)<(l.length:Int):=(by omega);have Y:(k:Int)<(m.length:Int):=(by omega);go_wp2_with fail;refine rX' ?_
   repeat(go_big_quiet_step(fail))
   refine wpQuiet_nil ?_;rintro _⟨Z,rfl⟩;have q:=f.trans' Z.h;clear U V E F;by_cases d:x=y
   .have C:(x != y)=false:=(by rw[d];simp);have p:=aJ s (show _=jW (l.drop (k+1)) (m.drop (k+1))from by rw[d];simp);clear s d;go_wp2;go_roundw;exact⟨k+1,by omega,by go_num,p,q⟩;simp[intOf];omega
   .have C:(x != y)=true:=bN' d;have p:=aJ s (show _=false from by rw[beq_eq_false_iff_ne.2 d];rfl);clear s d;go_wp2;go_ret;exact⟨aP p.out.symm,q⟩
  .have p:=aJ r (show _=true from by rw[bV l k (by omega),bV m k (by rw[<- D.out];omega)];rfl);clear r;go_wp2;go_ret;exact⟨aP p.out.symm,f⟩
 .have P:((l.length:Int) != (m.length:Int))=true:=by rw[bne_iff_ne];omega
  have p:=ah (Hu l m a);clear a;go_enter func276,ntmps276;go_wp2;go_ret;exact⟨aP p.out.symm,eR'⟩
def l9(T:aj)(l:List Int):List Int:=if fC T l=0 then uH T l else[]
theorem Bz{T:aj}{l:List Int}(a:fC T l=0):dw T=true/\(jC T l).length<=4096:=by
 unfold fC at a;by_cases b:aX T l=0
 .rw[nN' (by rw[b];simp)]at a;refine⟨(sU b).1,?_⟩;by_cases c:4096<((jC T l).length:Int)
  .rw[pP' c]at a;omega
  .omega
 .rw[pP' b]at a;exact absurd a b
theorem aBo(ht:aW w t T)(G:aF w ⟨A,n,c⟩ l):
 Calls prog 82 #[t.v,.slice A n c] w λe w'=>∃B m d,e=.returned (.tuple #[.slice B m d,.int .i64 (fC T l)])/\Ext w w'/\aF w' ⟨B,m,d⟩ (l9 T l)/\∀b,aH B=some b->w.heap.size<=b:=by
 have a:=dG w t;have E:=ah (ht.aC a);have H:=ah (G.ext a);clear ht G;go_enter func82,ntmps82;go_wp2_with fail;refine(Nr T t l A n c _ E.out H.out).mono ?_;rintro e I⟨B,m,d,rfl,i,j⟩;have f:=ah i;have k:=ah j;have L:=bT' t i;clear i j;by_cases g:fC T l=0
 .have x:(fC T l==0)=true:=by rw[bq'];exact g
  have y:Hid (aF I ⟨B,m,d⟩ (jC T l)):=ah (by have:=k.out;rw[lK,pP' g]at this;exact this);have s:=ah g;have o:=ah (Bz g);clear g k;go_wp2_with fail;refine(a3k T o.out.1 t (jC T l) B m d _ (E.out.aC f.out) y.out (by have:=o.out.2;omega)).mono ?_;rintro e M⟨F,J,K,rfl,p,q,r⟩;have z:=ah p;have C:=(a.trans' f.out).trans' q;have D:Hid (∀b,aH F=some b->w.heap.size<=b):=ah (λb h=>Nat.le_trans (a.trans' f.out).b.size (r b h));clear p q r;go_wp2;go_ret2;exact⟨F,J,K,by rw[s.out];rfl,C,by rw[l9,s.out,pP' rfl];exact z.out,D.out⟩
 .have x:(fC T l==0)=false:=by rw[aO];exact g
  have s:=ah g;have C:=a.trans' f.out;clear g;go_wp2;go_ret2;exact⟨none,0,0,rfl,C,by rw[l9,nN' s.out];exact aF.nil_ _,λb h=>by cases h⟩
theorem Zt(ht:aW w t T)(a:aF w ⟨A,n,c⟩ l):
 Calls prog 82 #[t.v,.slice A n c] w λe w'=>∃B m d,e=.returned (.tuple #[.slice B m d,.int .i64 (fC T l)])/\Ext w w'/\aF w' ⟨B,m,d⟩ (l9 T l):=
 (aBo T t l A n c w ht a).mono λ_ _⟨B,m,d,h1,h2,h3,_⟩=>⟨B,m,d,h1,h2,h3⟩
def qw(T:aj)(l:List Int):Bool:=(fC T l==0)&&jW (l9 T l) l
theorem zA'(ht:aW w t T)(q:aF w ⟨A,n,c⟩ l):
 cE' 230 #[t.v,.slice A n c] w (.bool (qw T l)):=by
 have a:=dG w t;have r:=ah (ht.aC a);have o:=ah (q.ext a);clear ht q;go_enter func230,ntmps230;go_wp2_with fail;refine(Zt T t l A n c _ r.out o.out).mono ?_;rintro e s⟨B,m,d,rfl,f,g⟩;have b:=ah f;have h:=ah g;clear f g;cases p:(fC T l==0)
 .have i:Hid (qw T l=false):=ah (by rw[qw,p];rfl);have j:=a.trans' b.out;go_wp2;go_ret;exact⟨aP i.out.symm,j⟩
 .have i:Hid (qw T l=jW (l9 T l) l):=ah (by rw[qw,p];rfl);go_wp2_with(go_at_call 276;refine(a1M (l9 T l) l B m d A n c _ h.out (o.out.ext b.out)).mono ?_;rintro e x⟨rfl,k⟩);have j:=(a.trans' b.out).trans' k;go_ret;exact⟨aP i.out.symm,j⟩
def Qs(w:World)(l:List Int)(e:Ending)(w':World):Prop:=∃A n c,e=.returned (.slice A n c)/\aF w' ⟨A,n,c⟩ l/\Ext w w'
section
variable {T:aj}
structure Scl(T:aj):Prop where
 key:∀m∈T.dec,aY m.lo=true
 tgt:∀m∈T.dec,∀c∈m.to,aY c=true
end
section
variable {T:aj}
def Mks(T:aj)(l:List Int):Prop:=CS T l/\∀z∈l,aG T z≠0
theorem Mks.tail{x:Int}{r:List Int}(h:Mks T (x::r)):Mks T r:=⟨h.1.tail,λz a=>h.2 z (by simp[a])⟩
end
theorem Zv{T:aj}{l:List Int}(h:dw T=true)(d:∀c∈l,aY c=true)(f:l.length<=4096):aX T l=0:=by
 unfold aX;rw[nN' (by rw[h];simp),nN' (by omega),nN'];rw[List.any_eq_true];rintro⟨c,b,a⟩;rw[d c b]at a;simp at a
def woS:List Int:=[97,98,109,110,111,114,48,120,121]
def woJ:List Int:=[769,803,945,946,1072,1488,1576,1632,7680,7681,7682,19968,44032,8204,2381]
def woV(r:List Int):Int:=if aU 2 r=0 then woS.getD (aU 9 r.tail).toNat 0 else woJ.getD (aU 15 r.tail).toNat 0
theorem aIr(r:List Int):woV r∈woS++woJ:=by
 unfold woV;split
 .have:=iw r.tail (n:=9) (by decide);rw[getD_lt _ _ _ (by simp[woS];omega)];exact List.mem_append_left _ (gM' _)
 .have:=iw r.tail (n:=15) (by decide);rw[getD_lt _ _ _ (by simp[woJ];omega)];exact List.mem_append_right _ (gM' _)
def V8(w0 w:World)(g:Nat)(r:List Int)(e:Ending)(w':World):Prop:=e=.returned (.int .i64 (woV r))/\Src w0 w' g r.tail.tail/\Kp [g] w w'/\Ext w0 w'
theorem Uj(q w:World)(g:Nat)(r:List Int)(P:Src q w g r)(hb:Ext q w):
 Calls prog 42 #[.pointer (some ⟨g,0,none⟩)] w (V8 q w g r):=by
 have S:g<w.heap.size:=by
  obtain⟨_,_,_,_,_,_,_,T,_⟩:=P;exact World.block_lt_of_cell? w _ T
 have F:=iw r (n:=2) (by decide);obtain⟨k,G⟩:∃k:Nat,aU 2 r=k:=⟨(aU 2 r).toNat,by omega⟩;have H:k<2:=by omega
 obtain⟨V,I⟩:=eX' (woV r);have E:Hid (V=if(k:Int)=0 then woS.getD (aU 9 r.tail).toNat 0 else woJ.getD (aU 15 r.tail).toNat 0):=ah (by rw[I,woV,G]);unfold V8;rw[<- I];have U:=ah G;have Q:=ah P;clear I G F P;go_enter func42,ntmps42;go_wp2_with fail;refine(iP q w g r 2 (by decide) (by decide) Q.out hb).mono ?_;rintro e j⟨rfl,s,J,t⟩;rw[U.out];have x:=ah s;have z:=ah J;have A:=ah t;have W:=J.size;clear s J t Q
 match k,H with
 |0,_=>
  have B:Hid (V=woS.getD (aU 9 r.tail).toNat 0):=E;have K:=iw r.tail (n:=9) (by decide);obtain⟨v,a⟩:∃v:Nat,aU 9 r.tail=v:=⟨(aU 9 r.tail).toNat,by omega⟩;have l:v<9:=by omega
  have m:Hid (V=woS.getD v 0):=ah (by rw[B.out,a,Int.toNat_natCast]);have c:=ah a;clear E B K a;go_wp2_with fail;refine(iP q j g r.tail 9 (by decide) (by decide) x.out A.out).mono ?_;rintro e R⟨rfl,d,b,f⟩;rw[c.out];have L:=ah d;have o:=ah (z.out.trans b);have p:=ah f;clear d b f c
  match v,l with
  |0,_|1,_|2,_|3,_|4,_|5,_|6,_|7,_|8,_=>
   go_wp2;go_ret;exact⟨aV (by rw[m.out];decide+kernel),L.out,o.out,p.out⟩
  |n+9,h=>exact absurd h (by omega)
 |1,_=>
  have B:Hid (V=woJ.getD (aU 15 r.tail).toNat 0):=E;have K:=iw r.tail (n:=15) (by decide);obtain⟨v,a⟩:∃v:Nat,aU 15 r.tail=v:=⟨(aU 15 r.tail).toNat,by omega⟩;have l:v<15:=by omega
  obtain⟨y,N⟩:=eY' (woJ.getD v 0);have m:Hid (V=y):=ah (by rw[B.out,a,Int.toNat_natCast,N]);have c:=ah a;have C:Ext j (j.alloc (.cells #[.int .i64 769,.int .i64 803,.int .i64 945,.int .i64 946,.int .i64 1072,.int .i64 1488,.int .i64 1576,.int .i64 1632,.int .i64 7680,.int .i64 7681,.int .i64 7682,.int .i64 19968,.int .i64 44032,.int .i64 8204,.int .i64 2381] 3)):=eR'.aB _;have i:(j.alloc (.cells #[.int .i64 769,.int .i64 803,.int .i64 945,.int .i64 946,.int .i64 1072,.int .i64 1488,.int .i64 1576,.int .i64 1632,.int .i64 7680,.int .i64 7681,.int .i64 7682,.int .i64 19968,.int .i64 44032,.int .i64 8204,.int .i64 2381] 3)).cell? ⟨j.heap.size,v,none⟩=some (.int .i64 y):=by
   rw[World.cell?_alloc_new,<- N]
   match v,l with
   |0,_|1,_|2,_|3,_|4,_|5,_|6,_|7,_|8,_|9,_|10,_|11,_|12,_|13,_|14,_=>rfl
   |n+15,h=>exact absurd h (by omega)
  have O:=ah C;have D:=ah i;have X:=z0' v;have Y:(v:Int)<15:=by omega
  clear E B K a N C i;go_wp2_with fail;refine(iP q _ g r.tail 15 (by decide) (by decide) (x.out.kp (M:=[]) (Kp.cZ O.out) (by simp)) (A.out.trans' O.out)).mono ?_;rintro e R⟨rfl,d,b,f⟩;rw[c.out];have Z:R.cell? ⟨j.heap.size,v,none⟩=some (.int .i64 y):=(b.cell ⟨j.heap.size,v,none⟩ (by simp) (by simp;omega)).trans D.out;have L:=ah d;have o:=ah ((z.out.trans (Kp.cZ O.out)).trans b);have p:=ah f;clear d b f c D;go_wp2;go_ret;exact⟨aV m.out.symm,L.out,o.out,p.out⟩
 |n+2,h=>exact absurd h (by omega)
end Go.Proofs.YtlmkgaoakcjlnaaGreatDoor
