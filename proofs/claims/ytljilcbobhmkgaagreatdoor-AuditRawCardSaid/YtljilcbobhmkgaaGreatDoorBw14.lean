/- Part Bw14. -/
import Derived.Deep.LoopGhost
import Derived.Test.YtljilcbobhmkgaaGreatDoorBw11
import Derived.Deep.RegionLaw
open Go.Proofs.Tryz
namespace Go.Proofs.YtljilcbobhmkgaaGreatDoor
set_option maxHeartbeats 25600000
set_option maxRecDepth 100000
open Go.RowKit
variable (t:TV)(T:ak)(l:List Int)(A:Option Addr)(n c:Nat)(w:World)
def aE1(wb:World)(D:List Mp)(v:List Int×Bool)(gh:Nat)(s6 s7:Value)(wx:World):Prop:=
 ∃(r:Nat)(L:List Int)(A:Option Addr)(c:Nat),r+gh=257/\s7=.int .i64 r/\s6=.slice A L.length c/\aC wx ⟨A,L.length,c⟩ L/\Ext wb wx/\Hid (v=uH D gh L)/\L.length<=18
def ZH(wb:World)(D:List Mp)(L:List Int)(gh:Nat)(s8 s9 s21:Value)(wx:World):Prop:=
 ∃(k:Nat)(A:Option Addr)(c:Nat)(acc:List Int)(more:Bool),k+gh=L.length/\s21=.int .i64 k/\s8=.slice A acc.length c/\s9=.bool more/\aK wx wb.heap.size A acc.length c acc/\Ext wb wx/\Hid (acc=lI D (L.take k))/\Hid (more= !lV D (L.take k))/\acc.length<=18*k
def PL(w:World)(v:List Int×Bool)(e:Ending)(w':World):Prop:=∃A n c,e=.returned (.tuple #[.slice A n c,.bool v.2])/\aC w' ⟨A,n,c⟩ v.1/\Ext w w'
theorem ZU{D:List Mp}{L:List Int}{k:Nat}(h:k<L.length):lI D (L.take (k+1))=lI D (L.take k)++uJ D L[k]:=by
 rw[tS' h,lI,List.flatMap_append];simp[lI]
theorem aD4{D:List Mp}{L:List Int}{k:Nat}(h:k<L.length):lV D (L.take (k+1))=(lV D (L.take k)&&(aJ D L[k]).isEmpty):=by
 rw[tS' h,lV,List.all_append];simp[lV]
theorem J4(H:Int)(w:World)(ht:aS w t T)(a2:∀x,(aJ T.dec x).length<=18):
 Calls prog 138 #[t.v,.int .i64 H] w (PL w (nU T.dec H)):=by
 have aa:=ah a2;have HD:Hid (dh w ⟨t.s9.a,t.s9.n,t.s9.c⟩ T.dec):=ah ht.dec;have W:=cO w t;have iM:Ext w (((tW' w t)).alloc (.cells #[.int .i64 H] 3)):=W.ay _;have HB:Hid (nU T.dec H=uH T.dec 257 [H]):=rfl;generalize nU T.dec H=V at*;generalize T.dec=D at*;have b5:=ah iM;clear ht a2;go_enter func138,ntmps138;go_wp2;go_loopg[6,7] 257 (λgh s6 s7 wx=>aE1 (tW' w t) D V gh s6 s7 wx);exact⟨0,[H],some ⟨w.heap.size+1,0,none⟩,1,rfl,rfl,rfl,by have h:=iJ ((tW' w t)) H;simpa using h,eR'.ay _,HB,by simp⟩;obtain⟨r,L,A,cL,b9,rfl,rfl,hi,q,HR,hL⟩:=hrel;have HI:=ah hi;have bf:=ah q;have X:=W.trans' q;have s:=ah X;have hz:w.heap.size<wr.heap.size:=by have h':=q.b.size;simp at h';omega
 clear hi q X HB;rcases Nat.eq_zero_or_pos gk with h0|aR
 .subst h0;have m:Hid (V=([],false)):=ah (by rw[HR.out];rfl);have hd:decide ((r:Int)<=256)=false:=dF';have ad:decide (r<=256)=false:=dF';clear HR;go_wp2;go_ret2;exact⟨none,0,0,by rw[m.out];rfl,by rw[m.out];exact aC.nil_ _,s.out⟩
 .obtain⟨z,rfl⟩:=gS' gk;have hd:decide ((r:Int)<=256)=true:=dT';have ad:decide (r<=256)=true:=dT';have HS:=aI HR (show _=if lV D L=true then(L,true)else if 18<(lI D L).length then([],false)else uH D z (lI D L)from rfl);clear HR;obtain⟨U,rfl⟩:=eX' wr;go_wp2;go_loopg[8,9,21] L.length (λgh s8 s9 af wx=>ZH U D L gh s8 s9 af wx);exact⟨0,none,0,[],false,by omega,rfl,rfl,rfl,Own.nil_ _ _ _ _,eR',ah rfl,ah rfl,by simp⟩;obtain⟨k,A8,c8,d,more,be,rfl,rfl,rfl,G,I,HA,HM,bh⟩:=hrel;have HO:=ah G;have J:=ah I;have rT:=bT' t (bf.out.trans' I);clear G I;by_cases i:k<L.length
  .obtain⟨Y,rfl⟩:=gS' gk;obtain⟨b,o,ha,hc⟩:=(HI.out.ext J.out).at_ i;subst ha;have B:Hid (lI D (L.take (k+1))=d++uJ D (L[k]'i)):=ah (by rw[ZU i,<- HA.out]);have C:Hid ((!lV D (L.take (k+1)))=(more|| !(aJ D (L[k]'i)).isEmpty)):=ah (by rw[aD4 i,HM.out,Bool.not_and]);generalize L[k]=x at*;have bk:=z0' k;have bl:(k:Int)<(L.length:Int):=(by omega);have bm:=aa.out x;clear HA HM;obtain⟨wi,rfl⟩:=eX' wr;go_wp2_with fail;refine(Dt D t.s9.a t.s9.n t.s9.c x _ (HD.out.ext (s.out.trans' J.out))).mono ?_;rintro e w3⟨za,zn,zc,rfl,K,M⟩;have j:=K.len.1;have dM:Hid (aK w3 U.heap.size A8 d.length c8 d):=ah (Own.ext HO.out M);have E:=ah (J.out.trans' M);have ag:=ah K;clear K M rT;by_cases p:(aJ D x).isEmpty=true
   .have N:(aJ D x).length=0:=(by rw[List.isEmpty_iff.1 p];rfl);have Lu:zn=0:=(by rw[j,N]);subst Lu;clear j;have O:Hid (d++[x]=lI D (L.take (k+1))):=ah (by rw[B.out,uJ,pP' p]);have P:Hid (more= !lV D (L.take (k+1))):=ah (by rw[C.out,p];simp);have Q:Ext w3 (w3.alloc (.cells #[.int .i64 x] 3)):=eR'.ay _;obtain⟨A5,c5,w5,l,f,g,jL⟩:=fQ (Own.ext dM.out Q) (iJ w3 x) (by omega) (by have h':=E.out.b.size;simp;omega);have bI:=ah f;have bH:Hid (Ext U w5):=ah (dV (E.out.trans' Q) g (λk hk=>(Own.lt dM.out k hk).1));clear f g jL Q B C p N;go_wp2_with(at_builtin;refine dA rfl _ _ _ rfl _ _ rfl rfl _ _ l ?_);go_roundg Y;exact⟨k+1,A5,c5,d++[x],more,by omega,by go_num,by simp,rfl,by simpa using bI.out,bH.out,O,P,by simp;omega⟩;omega
   .have N:0<(aJ D x).length:=by
     cases hm:aJ D x with
     |nil=>rw[hm]at p;simp at p
     |cons y r=>simp
    have O:Hid (d++aJ D x=lI D (L.take (k+1))):=ah (by rw[B.out,uJ,nN' p]);have P:Hid (true= !lV D (L.take (k+1))):=ah (by rw[C.out];simp only[Bool.not_eq_true]at p;rw[p];simp);obtain⟨A5,c5,w5,l,f,g,jL⟩:=fQ dM.out ag.out (by omega) E.out.b.size;have bI:=ah f;have bH:Hid (Ext U w5):=ah (dV E.out g (λk hk=>(Own.lt dM.out k hk).1));have bq:decide (0<zn)=true:=dT';have br:decide ((0:Int)<(zn:Int))=true:=dT';have ar:=ah j;have Z:(d++aJ D x).length=d.length+zn:=(by rw[lA',j]);have R:=ah Z;clear f g jL B C p j Z;go_wp2_with(at_builtin;refine dA rfl _ _ _ rfl _ _ rfl rfl _ _ l ?_);go_roundg Y;exact⟨k+1,A5,c5,d++aJ D x,true,by omega,by go_num,by rw[R.out],rfl,by rw[R.out];exact bI.out,bH.out,O,P,by rw[R.out,ar.out];omega⟩;omega
  .have av:Hid (d=lI D L):=ah (by rw[HA.out,tL' (by omega)]);have S:Hid (more= !lV D L):=ah (by rw[HM.out,tL' (by omega)]);have a0:gk=0:=(by omega);clear HA HM;cases more
   .have m:Hid (V=(L,true)):=ah (by
     have h1:lV D L=true:=by have:=S.out;cases h:lV D L<;>rw[h]at this<;>simp at this |-
     rw[HS.out,pP' h1])
    clear HS a0;go_wp2;go_ret2;exact⟨A,_,cL,by rw[m.out];rfl,by rw[m.out];exact HI.out.ext J.out,s.out.trans' J.out⟩
   .have F:Hid (V=if 18<d.length then([],false)else uH D z d):=ah (by
     have h1:¬(lV D L=true):=by have:=S.out;cases h:lV D L<;>rw[h]at this<;>simp at this |-
     rw[HS.out,nN' h1,av.out])
    clear HS S a0;by_cases a1:18<d.length
    .have m:Hid (V=([],false)):=ah (by rw[F.out,pP' a1]);clear F;go_wp2;go_ret2;exact⟨none,0,0,by rw[m.out];rfl,by rw[m.out];exact aC.nil_ _,s.out.trans' J.out⟩
    .have m:Hid (V=uH D z d):=ah (by rw[F.out,nN' a1]);have ax:d.length<=18:=(by omega);clear F;go_wp2;go_roundg z;exact⟨r+1,d,A8,c8,by omega,by go_num,rfl,aK.ints HO.out,bf.out.trans' J.out,m,ax⟩;omega
theorem Yd(ht:aS w t T)(p:T.dec.length<=256)(aa:∀x,(aJ T.dec x).length<=18):
 cE' 80 #[t.v] w (.bool (lC T)):=by
 have s:Hid (lC T=(mP T.dec&&uD T.dec (T.dec.length+1) T.dec)):=rfl;obtain⟨s0,s1,s2,s3,s4,s5,s6,s7,s8,⟨A,n,U⟩,F,G⟩:=t;have O:dh w ⟨A,n,U⟩ T.dec:=ht.dec;obtain⟨Q,V⟩:∃q:List Mp->Bool,q=λL=>L.all λm=>(nU T.dec m.lo).2:=⟨_,rfl⟩
 have s:Hid (lC T=(mP T.dec&&Q T.dec)):=ah (by rw[s.out,OM p,V]);have W:=ah aa;have HQ:=ah V;have X:lC T=(mP T.dec&&Q T.dec):=s.out;clear V X;obtain⟨l,y⟩:=eX' T.dec;rw[<- y]at s O;have HL:=ah y;clear y;obtain⟨hl,_,_⟩:=O.len;subst hl;have Y:Ext w (tA' w s0 s1 s2 s3 s4 s5 s6 s7 s8 ⟨A,l.length,U⟩ F G):=eR'.ay _;go_enter func80,ntmps80;go_wp2
 go_loopw[14] (λi wr=>∃(k:Nat),k<=l.length/\i=.int .i64 k/\Hid (lC T=(mP (l.drop k)&&Q l))/\
  Ext (tA' w s0 s1 s2 s3 s4 s5 s6 s7 s8 ⟨A,l.length,U⟩ F G) wr) (λi _=>l.length-(intOf i).toNat)
 exact⟨0,zl' _,rfl,s,eR'⟩;obtain⟨k,hk,rfl,P,d⟩:=hrel;have E:=Y.trans' d;by_cases H:k<l.length
 .obtain⟨b,o,I,Z,J,K,h0,h1,B⟩:=(O.ext E).at_ H;subst K;have M:=ah (drop_at l k H);generalize l[k]=x at*;obtain⟨r,a⟩:=x;simp only at h0 h1 B;obtain⟨a2,_,_⟩:=B.len;subst a2;have iM:Ext wr (wr.alloc (.cells #[.int .i64 r,.slice I a.length J] 80)):=eR'.ay _;have a3:=B.ext iM;have f:=aI P (show _=(!decide (2<(a.length:Int))&&(qX a&&(mP (l.drop (k+1))&&Q l)))from by rw[M.out];simp[mP,Bool.and_assoc]);clear P M s B;by_cases p:2<a.length
  .have c:=aI f (show _=false from by simp;intros;omega);clear f;go_wp2;go_ret;exact⟨aO c.out.symm,E.ay _⟩
  .have C:=aI f (show _=(qX a&&(mP (l.drop (k+1))&&Q l))from by simp;intros;omega);clear f;obtain⟨D,rfl⟩:=eX' wr;go_wp2;go_loopw[25] (λi wi=>∃(j:Nat),j<=a.length/\i=.int .i64 j/\Hid (lC T=(qX (a.drop j)&&(mP (l.drop (k+1))&&Q l)))/\D.alloc (.cells #[.int .i64 r,.slice I a.length J] 80)=wi) (λi _=>a.length-(intOf i).toNat);exact⟨0,zl' _,rfl,C,rfl⟩;obtain⟨j,hj,rfl,g,rfl⟩:=hrel;by_cases N:j<a.length
   .obtain⟨b5,o5,K,g5⟩:=a3.at_ N;subst K;have HJ:Hid (a.drop j=a[j]::a.drop (j+1)):=drop_at a j N;generalize a[j]=z at*;have R:=aI g (show _=(!((z==46)||aX z||dG z)&&(qX (a.drop (j+1))&&(mP (l.drop (k+1))&&Q l)))from by rw[HJ.out];simp only[qX,Bool.and_assoc];rfl);clear g HJ C;cases hz:(z==46)
    .go_wp2_with(first
      |(go_at_call 83;refine(ku _ _).mono ?_;rintro e w'⟨rfl,rfl⟩;cases az:aX z)
      |(go_at_call 137;refine(pO _ _).mono ?_;rintro e w'⟨rfl,rfl⟩;cases aD:dG z))
     all_goals first
      |(go_ret;exact⟨aO (by rw[R.out];simp[*]),E.ay _⟩)
      |(go_roundw
        case rel=>exact⟨j+1,by omega,by go_num,aI R (by simp[*]),by trivial⟩
        case measure=>simp[intOf];omega)
    .have c:=aI R (show _=false from by rw[hz];rfl);clear R;go_wp2;go_ret;exact⟨aO c.out.symm,E.ay _⟩
   .have c:=aI g (show _=(mP (l.drop (k+1))&&Q l)from by rw[bM a j (by omega)];rfl);clear g C;go_wp2;go_roundw;exact⟨k+1,by omega,by go_num,c,d.ay _⟩;simp[intOf];omega
 .have c:=aI P (show _=Q l from by rw[bM l k (by omega)];rfl);clear P s;have a5:=aP d;have aE:w.heap.size<wr.heap.size:=by have:=d.b.size;simp at this;omega
  obtain⟨D,rfl⟩:=eX' wr;go_wp2;go_loopw[44] (λi wi=>∃(j:Nat),j<=l.length/\i=.int .i64 j/\Hid (lC T=Q (l.drop j))/\Ext D wi) (λi _=>l.length-(intOf i).toNat);exact⟨0,zl' _,rfl,c,eR'⟩;obtain⟨j,hj,rfl,g,h⟩:=hrel;have nD:=E.trans' h;by_cases N:j<l.length
  .obtain⟨b,o,I,Z,J,K,h0,h1,B⟩:=(O.ext nD).at_ N;subst K;have M:Hid (l.drop j=l[j]::l.drop (j+1)):=drop_at l j N;generalize l[j]=x at*;obtain⟨r,a⟩:=x;simp only at h0 h1 B;have ap:=aP (d.trans' h);have Ec:w.heap.size<wr.heap.size:=(by have:=h.b.size;omega);have a7:=ah (ht.aB (nD.ay (.cells #[.int .i64 r,.slice I Z J] 80)));have f:=aI g (show _=((nU T.dec r).2&&Q (l.drop (j+1)))from by rw[M.out,HQ.out];rfl);clear a5 g M c B;go_wp2_with fail;refine(J4 _ T r _ a7.out W.out).mono ?_;rintro e w3⟨A3,n3,c3,rfl,_,a8⟩;have wC:=(h.ay (.cells #[.int .i64 r,.slice I Z J] 80)).trans' a8;cases S:(nU T.dec r).2
   .have c:=aI f (show _=false from by rw[S];rfl);clear f S;go_wp2;go_ret;exact⟨aO c.out.symm,E.trans' wC⟩
   .have c:=aI f (show _=Q (l.drop (j+1))from by rw[S];rfl);clear f S;go_wp2;go_roundw;exact⟨j+1,by omega,by go_num,c,wC⟩;simp[intOf];omega
  .have a9:=aI g (show _=true from by rw[bM l j (by omega),HQ.out];rfl);clear g c;go_wp2;go_ret;exact⟨aO a9.out.symm,nD⟩
theorem Oh(c:Int)(w:World)(ht:aS w t T)(r:(aJ T.dec c).length≠2):
 cE' 82 #[t.v,.int .i64 c] w (.bool false):=by
 have k:Hid (dh w ⟨t.s9.a,t.s9.n,t.s9.c⟩ T.dec):=ah ht.dec;have b:=cO w t;obtain⟨s,g,y,i,j⟩:=zV T.dec t.s9.a t.s9.n t.s9.c c w k.out;have f:=i.len.1;have l:((g:Int) != 2)=true:=by rw[bne_iff_ne];omega
 have m:(g != 2)=true:=by rw[bne_iff_ne];omega
 have o:=ah j;clear i f j r ht;go_enter func82,ntmps82;go_wp2_with fail;refine(o.out _ b).mono ?_;rintro e p⟨rfl,d⟩;have q:=λyy:aj p=>bT' t (d.trans' yy.h)
 go_wp2_with fail;refine rX' ?_
 repeat(go_big_quiet_step(fail))
 refine wpQuiet_nil ?_;rintro _⟨x,rfl⟩;clear q;go_wp2;go_ret;exact⟨rfl,(b.trans' d).trans' x.h⟩
theorem aDM(c a b:Int)(r:Bool)(w:World)(ht:aS w t T)(a4:T.dec.length<=256)(hF:lH T.dec)(bb:∀x,(aJ T.dec x).length<=18)(hm:aJ T.dec c=[a,b])
 (ih:(aJ T.dec a).isEmpty=false->∀w',Ext w w'->cE' 82 #[t.v,.int .i64 a] w' (.bool r)):
 Calls prog 82 #[t.v,.int .i64 c] w λe w'=>e=.returned (.bool (!(jw T.exc c||decide (aG T c≠0)||decide (aG T a≠0)|| !(aJ T.dec b).isEmpty)&&
  !(!(aJ T.dec a).isEmpty&& !r)&&(decide (aG T b=0)||decide (aG T (lastT T.dec a)<=aG T b))))/\Ext w w':=by
 have HT:=ah ht;have HD:Hid (dh w ⟨t.s9.a,t.s9.n,t.s9.c⟩ T.dec):=ah ht.dec;have aE:=cO w t;obtain⟨za,zn,zc,hz,aM⟩:=zV T.dec t.s9.a t.s9.n t.s9.c c w HD.out;obtain⟨bi,C,bj,aR,aW⟩:=zV T.dec t.s9.a t.s9.n t.s9.c a w HD.out;obtain⟨bk,D,bl,b0,b1⟩:=zV T.dec t.s9.a t.s9.n t.s9.c b w HD.out;rw[hm]at hz;obtain rfl:zn=2:=hz.len.1;obtain⟨m,o,ha,ga⟩:=hz.at_ (i:=0) (by simp);obtain⟨b6,o6,a6,gb⟩:=hz.at_ (i:=1) (by simp);subst ha;injection a6 with a6;injection a6 with e1 e2;subst e1 e2;simp only[List.getElem_cons_zero,List.getElem_cons_succ,Nat.add_zero]at ga gb;have RJ:=ah (ZX a4 hF a);obtain⟨G,a7⟩:∃G,(!(jw T.exc c||decide (aG T c≠0)||decide (aG T a≠0)|| !(aJ T.dec b).isEmpty)&& !(!(aJ T.dec a).isEmpty&& !r)&&(decide (aG T b=0)||decide (aG T (lastT T.dec a)<=aG T b)))=G:=⟨_,rfl⟩;rw[a7];have Q:=aR.len.1;have R:=b0.len.1;have FC:=ah aM;go_enter func82,ntmps82;go_wp2_with fail;refine(FC.out _ aE).mono ?_;rintro e g⟨rfl,a8⟩;have B:Hid (Ext w g):=ah (aE.trans' a8);have bf:=ah a8;have J:Hid (∀w',Ext g w'->∀k:Nat,w'.cell? ⟨w.heap.size,k,none⟩=t.v.cells[k]?):=ah (λw' h=>aP (bf.out.trans' h));have P:Hid (∀w',Ext g w'->w'.cell? ⟨m,o,none⟩=some (.int .i64 a)):=ah (λw' h=>aY (bg (B.out.trans' h)) ga);have KB:Hid (∀w',Ext g w'->w'.cell? ⟨m,o+1,none⟩=some (.int .i64 b)):=ah (λw' h=>aY (bg (B.out.trans' h)) gb);have FA:Hid (∀w',Ext g w'->cE' 81 #[.slice t.s9.a t.s9.n t.s9.c,.int .i64 a] w' (.slice bi C bj)):=ah (λw' h=>aW w' (B.out.trans' h));have FB:Hid (∀w',Ext g w'->cE' 81 #[.slice t.s9.a t.s9.n t.s9.c,.int .i64 b] w' (.slice bk D bl)):=ah (λw' h=>b1 w' (B.out.trans' h));have CE:Hid (∀w',Ext g w'->cE' 139 #[t.v,.int .i64 c] w' (.bool (jw T.exc c))):=ah (λw' h=>XC t T c w' (HT.out.aB (B.out.trans' h)));have CC:Hid (∀w',Ext g w'->cE' 140 #[t.v,.int .i64 c] w' (.int .i64 (aG T c))):=ah (λw' h=>yR t T c w' (HT.out.aB (B.out.trans' h)));have CA:Hid (∀w',Ext g w'->cE' 140 #[t.v,.int .i64 a] w' (.int .i64 (aG T a))):=ah (λw' h=>yR t T a w' (HT.out.aB (B.out.trans' h)));have CB:Hid (∀w',Ext g w'->cE' 140 #[t.v,.int .i64 b] w' (.int .i64 (aG T b))):=ah (λw' h=>yR t T b w' (HT.out.aB (B.out.trans' h)));have CL:Hid (∀w',Ext g w'->cE' 140 #[t.v,.int .i64 (lastT T.dec a)] w' (.int .i64 (aG T (lastT T.dec a)))):=ah (λw' h=>yR t T _ w' (HT.out.aB (B.out.trans' h)));have CU:Hid (∀w',Ext g w'->Calls prog 138 #[t.v,.int .i64 a] w' (PL w' (nU T.dec a))):=ah (λw' h=>J4 t T a w' (HT.out.aB (B.out.trans' h)) bb);have br:Hid ((aJ T.dec a).isEmpty=false->∀w',Ext g w'->cE' 82 #[t.v,.int .i64 a] w' (.bool r)):=ah (λhe w' h=>ih he w' (B.out.trans' h))
 have b3:Hid ((aJ T.dec a).isEmpty=decide (C=0)):=ah (by
  cases hq:aJ T.dec a with
  |nil=>rw[hq]at Q;rw[Q];rfl
  |cons y q=>rw[hq]at Q;rw[Q];simp)
 have bs:Hid ((aJ T.dec b).isEmpty=decide (D=0)):=ah (by
  cases hq:aJ T.dec b with
  |nil=>rw[hq]at R;rw[R];rfl
  |cons y q=>rw[hq]at R;rw[R];simp)
 obtain⟨vE,hE⟩:=eY' (jw T.exc c);rw[hE]at CE;obtain⟨yc,ab⟩:=eY' (aG T c);obtain⟨ya,ac⟩:=eY' (aG T a);obtain⟨A,ad⟩:=eY' (aG T b);obtain⟨yl,af⟩:=eY' (aG T (lastT T.dec a));rw[ab]at CC;rw[ac]at CA;rw[ad]at CB;rw[af]at CL
 have HV:Hid (∀p,decide (C=0)=p->∀q,decide (D=0)=q->G=(!(vE||decide (yc≠0)||decide (ya≠0)|| !q)&& !(!p&& !r)&&(decide (A=0)||decide (yl<=A)))):=ah (λp hp q hq=>by
  rw[<- a7,hE,ab,ac,ad,af,b3.out,bs.out,hp,hq])
 clear a7 hE ab ac ad af ih aW b1 aM aR b0 hz Q R ga gb a8 ht hm bb hF a4 HT HD FC;cases vE
 case true=>
  have F:Hid (G=false):=ah (by rw[HV.out _ rfl _ rfl];rfl);clear HV;have K:∀f:aj g,∀k:Nat,f.w.cell? ⟨w.heap.size,k,none⟩=t.v.cells[k]? :=λf=>J.out _ ((Ext.refl g).trans' f.h)
  have L:∀f:aj g,f.w.cell? ⟨m,o,none⟩=some (.int .i64 a):=λf=>P.out _ ((Ext.refl g).trans' f.h)
  have M:∀f:aj g,f.w.cell? ⟨m,o+1,none⟩=some (.int .i64 b):=λf=>KB.out _ ((Ext.refl g).trans' f.h)
  go_wp2_with fail;refine rX' ?_
  repeat(go_big_quiet_step(first|(go_at_call 139;with_reducible exact aQ (CE.out _ ((Ext.refl g).trans' (aj.h _))))))
  refine wpQuiet_nil ?_;rintro _⟨x,rfl⟩;clear K L M;go_wp2;go_ret;exact⟨aO F.out.symm,B.out.trans' x.h⟩
 case false=>
  by_cases c1:yc=0
  case neg=>
   have F:Hid (G=false):=ah (by rw[HV.out _ rfl _ rfl];rw[dt' (p:=yc≠0) c1];rfl);have d1:(yc != 0)=true:=bN' c1;clear HV c1;have K:∀f:aj g,∀k:Nat,f.w.cell? ⟨w.heap.size,k,none⟩=t.v.cells[k]? :=λf=>J.out _ ((Ext.refl g).trans' f.h)
   have L:∀f:aj g,f.w.cell? ⟨m,o,none⟩=some (.int .i64 a):=λf=>P.out _ ((Ext.refl g).trans' f.h)
   have M:∀f:aj g,f.w.cell? ⟨m,o+1,none⟩=some (.int .i64 b):=λf=>KB.out _ ((Ext.refl g).trans' f.h)
   go_wp2_with fail;refine rX' ?_
   repeat(go_big_quiet_step(first|(go_at_call 139;with_reducible exact aQ (CE.out _ ((Ext.refl g).trans' (aj.h _))))|(go_at_call 140;with_reducible exact aQ (CC.out _ ((Ext.refl g).trans' (aj.h _))))))
   refine wpQuiet_nil ?_;rintro _⟨x,rfl⟩;clear K L M;go_wp2;go_ret;exact⟨aO F.out.symm,B.out.trans' x.h⟩
  have d1:(yc != 0)=false:=by rw[bne_eq_false_iff_eq];exact c1
  by_cases c2:ya=0
  case neg=>
   have F:Hid (G=false):=ah (by rw[HV.out _ rfl _ rfl];rw[dt' (p:=ya≠0) c2];simp);have d2:(ya != 0)=true:=bN' c2;clear HV c1 c2;have K:∀f:aj g,∀k:Nat,f.w.cell? ⟨w.heap.size,k,none⟩=t.v.cells[k]? :=λf=>J.out _ ((Ext.refl g).trans' f.h)
   have L:∀f:aj g,f.w.cell? ⟨m,o,none⟩=some (.int .i64 a):=λf=>P.out _ ((Ext.refl g).trans' f.h)
   have M:∀f:aj g,f.w.cell? ⟨m,o+1,none⟩=some (.int .i64 b):=λf=>KB.out _ ((Ext.refl g).trans' f.h)
   go_wp2_with fail;refine rX' ?_
   repeat(go_big_quiet_step(first|(go_at_call 139;with_reducible exact aQ (CE.out _ ((Ext.refl g).trans' (aj.h _))))|(go_at_call 140;with_reducible exact aQ (CC.out _ ((Ext.refl g).trans' (aj.h _))))|(go_at_call 140;with_reducible exact aQ (CA.out _ ((Ext.refl g).trans' (aj.h _))))))
   refine wpQuiet_nil ?_;rintro _⟨x,rfl⟩;clear K L M;go_wp2;go_ret;exact⟨aO F.out.symm,B.out.trans' x.h⟩
  have d2:(ya != 0)=false:=by rw[bne_eq_false_iff_eq];exact c2
  by_cases c3:D=0
  case neg=>
   have F:Hid (G=false):=ah (by rw[HV.out _ rfl _ rfl];rw[df' (p:=D=0) c3];simp);have d3:decide (0<D)=true:=dT';have d4:decide ((0:Int)<(D:Int))=true:=dT';clear HV c1 c2 c3;have K:∀f:aj g,∀k:Nat,f.w.cell? ⟨w.heap.size,k,none⟩=t.v.cells[k]? :=λf=>J.out _ ((Ext.refl g).trans' f.h)
   have L:∀f:aj g,f.w.cell? ⟨m,o,none⟩=some (.int .i64 a):=λf=>P.out _ ((Ext.refl g).trans' f.h)
   have M:∀f:aj g,f.w.cell? ⟨m,o+1,none⟩=some (.int .i64 b):=λf=>KB.out _ ((Ext.refl g).trans' f.h)
   go_wp2_with fail;refine rX' ?_
   repeat(go_big_quiet_step(first|(go_at_call 139;with_reducible exact aQ (CE.out _ ((Ext.refl g).trans' (aj.h _))))|(go_at_call 140;with_reducible exact aQ (CC.out _ ((Ext.refl g).trans' (aj.h _))))|(go_at_call 140;with_reducible exact aQ (CA.out _ ((Ext.refl g).trans' (aj.h _))))|(go_at_call 81;with_reducible exact aQ (FB.out _ ((Ext.refl g).trans' (aj.h _))))))
   refine wpQuiet_nil ?_;rintro _⟨x,rfl⟩;clear K L M;go_wp2;go_ret;exact⟨aO F.out.symm,B.out.trans' x.h⟩
  have d3:decide (0<D)=false:=dF';have d4:decide ((0:Int)<(D:Int))=false:=dF'
  have lK:Hid (∀p,decide (C=0)=p->G=(!(!p&& !r)&&(decide (A=0)||decide (yl<=A)))):=ah (λp hp=>by
   rw[HV.out p hp true (by rw[au];exact c3),df' (p:=yc≠0) (λh=>h c1),df' (p:=ya≠0) (λh=>h c2)];rfl)
  clear HV c1 c2 c3;by_cases c5:C=0
  case pos=>
   have d6:decide (0<C)=false:=dF';have d7:decide ((0:Int)<(C:Int))=false:=dF';have E:Hid (G=(decide (A=0)||decide (yl<=A))):=ah (by rw[lK.out true (by rw[au];exact c5)];rfl);clear c5 lK;have K:∀f:aj g,∀k:Nat,f.w.cell? ⟨w.heap.size,k,none⟩=t.v.cells[k]? :=λf=>J.out _ ((Ext.refl g).trans' f.h)
   have L:∀f:aj g,f.w.cell? ⟨m,o,none⟩=some (.int .i64 a):=λf=>P.out _ ((Ext.refl g).trans' f.h)
   have M:∀f:aj g,f.w.cell? ⟨m,o+1,none⟩=some (.int .i64 b):=λf=>KB.out _ ((Ext.refl g).trans' f.h)
   go_wp2_with fail;refine rX' ?_
   repeat(go_big_quiet_step(first|(go_at_call 139;with_reducible exact aQ (CE.out _ ((Ext.refl g).trans' (aj.h _))))|(go_at_call 140;with_reducible exact aQ (CC.out _ ((Ext.refl g).trans' (aj.h _))))|(go_at_call 140;with_reducible exact aQ (CA.out _ ((Ext.refl g).trans' (aj.h _))))|(go_at_call 81;with_reducible exact aQ (FB.out _ ((Ext.refl g).trans' (aj.h _))))))
   refine wpQuiet_nil ?_;rintro _⟨x,rfl⟩;have H:=ah x.h;clear K L M;have jY:∀f:aj x.w,∀k:Nat,f.w.cell? ⟨w.heap.size,k,none⟩=t.v.cells[k]? :=λf=>J.out _ (H.out.trans' f.h)
   have S:∀f:aj x.w,f.w.cell? ⟨m,o,none⟩=some (.int .i64 a):=λf=>P.out _ (H.out.trans' f.h)
   go_wp2_with fail;refine rX' ?_
   repeat(go_big_quiet_step(first|(go_at_call 81;with_reducible exact aQ (FA.out _ (H.out.trans' (aj.h _))))))
   refine wpQuiet_nil ?_;rintro _⟨y,rfl⟩;have U:=ah (H.out.trans' y.h);clear jY S;have fJ:∀k:Nat,y.w.drew.cell? ⟨w.heap.size,k,none⟩=t.v.cells[k]? :=J.out _ (U.out.dQ);have ai:y.w.drew.cell? ⟨m,o,none⟩=some (.int .i64 a):=P.out _ (U.out.dQ);go_wp2_with fail
   go_region_law((go_simp
                  go_at_call 138;refine(CU.out _ U.out.dQ).mono ?_;rintro e w3⟨A3,N,c3,rfl,V,am⟩;have I:=ah V;have l:=ah (U.out.dQ.trans' am)
                  clear V))
   all_goals
    clear fJ ai;obtain⟨an,ao,ap,W⟩:=RJ.out;obtain⟨aq,_,_⟩:=I.out.len;obtain⟨j,hj⟩:∃j:Nat,N=j+1:=⟨N-1,by omega⟩;have X:j<(nU T.dec a).1.length:=(by omega);obtain⟨b9,o9,ar,g9⟩:=I.out.at_ X;have s:(nU T.dec a).1[j]=lastT T.dec a:=by
     rw[<- W,ng,getD_lt _ _ _ (by omega)];congr 1;omega
    rw[s]at g9;subst ar;have b8:(N:Int)-1=(j:Int):=(by omega);have bt:=z0' j;have bu:(j:Int)<(N:Int):=(by omega);have EC:N<=18:=(by omega);have bv:0<N:=(by omega);have Y:∀f:aj w3,f.w.cell? ⟨b9,o9+j,none⟩=some (.int .i64 (lastT T.dec a)):=bY g9;clear hj s an ao ap W aq X g9 I;have gV:∀f:aj w3,∀k:Nat,f.w.cell? ⟨w.heap.size,k,none⟩=t.v.cells[k]? :=λf=>J.out _ (l.out.trans' f.h)
    have Z:∀f:aj w3,f.w.cell? ⟨m,o+1,none⟩=some (.int .i64 b):=λf=>KB.out _ (l.out.trans' f.h)
    by_cases O:A=0
    .have d5:(A==0)=true:=(by rw[bq'];exact O);have F:Hid (G=true):=ah (by rw[E.out,dt' (p:=A=0) O];rfl);clear O E;go_simp;go_wp2_with fail;refine rX' ?_
     repeat(go_big_quiet_step(first|(go_at_call 140;with_reducible exact aQ (CB.out _ (l.out.trans' (aj.h _))))))
     refine wpQuiet_nil ?_;rintro _⟨z,rfl⟩;clear gV Z Y;go_wp2;go_ret;exact⟨aO F.out.symm,B.out.trans' (l.out.trans' z.h)⟩
    .have d5:(A==0)=false:=(by rw[aH];exact O);obtain⟨d,hd⟩:=eY' (decide (yl<=A));have F:Hid (G=d):=ah (by rw[E.out,df' (p:=A=0) O,hd];rfl);clear O E;go_simp;go_wp2_with fail;refine rX' ?_
     repeat(go_big_quiet_step(first|(go_at_call 140;with_reducible exact aQ (CB.out _ (l.out.trans' (aj.h _))))|(go_at_call 140;with_reducible exact aQ (CL.out _ (l.out.trans' (aj.h _))))))
     refine wpQuiet_nil ?_;rintro _⟨z,rfl⟩;clear gV Z Y;go_wp2;go_ret;exact⟨aO F.out.symm,B.out.trans' (l.out.trans' z.h)⟩
  have d6:decide (0<C)=true:=dT';have d7:decide ((0:Int)<(C:Int))=true:=dT';have Gt:Hid (G=(!(!r)&&(decide (A=0)||decide (yl<=A)))):=ah (by rw[lK.out false (by rw[aA];exact c5)];rfl);have IH:=ah (br.out (by rw[b3.out,aA];exact c5));clear c5 lK;cases r
  case false=>
   have F:Hid (G=false):=ah (by rw[Gt.out];rfl);clear Gt;have K:∀f:aj g,∀k:Nat,f.w.cell? ⟨w.heap.size,k,none⟩=t.v.cells[k]? :=λf=>J.out _ ((Ext.refl g).trans' f.h)
   have L:∀f:aj g,f.w.cell? ⟨m,o,none⟩=some (.int .i64 a):=λf=>P.out _ ((Ext.refl g).trans' f.h)
   have M:∀f:aj g,f.w.cell? ⟨m,o+1,none⟩=some (.int .i64 b):=λf=>KB.out _ ((Ext.refl g).trans' f.h)
   go_wp2_with fail;refine rX' ?_
   repeat(go_big_quiet_step(first|(go_at_call 139;with_reducible exact aQ (CE.out _ ((Ext.refl g).trans' (aj.h _))))|(go_at_call 140;with_reducible exact aQ (CC.out _ ((Ext.refl g).trans' (aj.h _))))|(go_at_call 140;with_reducible exact aQ (CA.out _ ((Ext.refl g).trans' (aj.h _))))|(go_at_call 81;with_reducible exact aQ (FB.out _ ((Ext.refl g).trans' (aj.h _))))))
   refine wpQuiet_nil ?_;rintro _⟨x,rfl⟩;have H:=ah x.h;clear K L M;have jY:∀f:aj x.w,∀k:Nat,f.w.cell? ⟨w.heap.size,k,none⟩=t.v.cells[k]? :=λf=>J.out _ (H.out.trans' f.h)
   have S:∀f:aj x.w,f.w.cell? ⟨m,o,none⟩=some (.int .i64 a):=λf=>P.out _ (H.out.trans' f.h)
   go_wp2_with fail;refine rX' ?_
   repeat(go_big_quiet_step(first|(go_at_call 81;with_reducible exact aQ (FA.out _ (H.out.trans' (aj.h _))))|(go_at_call 82;with_reducible exact aQ (IH.out _ (H.out.trans' (aj.h _))))))
   refine wpQuiet_nil ?_;rintro _⟨y,rfl⟩;have U:=ah (H.out.trans' y.h);clear jY S;go_wp2;go_ret;exact⟨aO F.out.symm,B.out.trans' U.out⟩
  have E:Hid (G=(decide (A=0)||decide (yl<=A))):=ah (by rw[Gt.out];rfl);clear Gt;have K:∀f:aj g,∀k:Nat,f.w.cell? ⟨w.heap.size,k,none⟩=t.v.cells[k]? :=λf=>J.out _ ((Ext.refl g).trans' f.h)
  have L:∀f:aj g,f.w.cell? ⟨m,o,none⟩=some (.int .i64 a):=λf=>P.out _ ((Ext.refl g).trans' f.h)
  have M:∀f:aj g,f.w.cell? ⟨m,o+1,none⟩=some (.int .i64 b):=λf=>KB.out _ ((Ext.refl g).trans' f.h)
  go_wp2_with fail;refine rX' ?_
  repeat(go_big_quiet_step(first|(go_at_call 139;with_reducible exact aQ (CE.out _ ((Ext.refl g).trans' (aj.h _))))|(go_at_call 140;with_reducible exact aQ (CC.out _ ((Ext.refl g).trans' (aj.h _))))|(go_at_call 140;with_reducible exact aQ (CA.out _ ((Ext.refl g).trans' (aj.h _))))|(go_at_call 81;with_reducible exact aQ (FB.out _ ((Ext.refl g).trans' (aj.h _))))))
  refine wpQuiet_nil ?_;rintro _⟨x,rfl⟩;have H:=ah x.h;clear K L M;have jY:∀f:aj x.w,∀k:Nat,f.w.cell? ⟨w.heap.size,k,none⟩=t.v.cells[k]? :=λf=>J.out _ (H.out.trans' f.h)
  have S:∀f:aj x.w,f.w.cell? ⟨m,o,none⟩=some (.int .i64 a):=λf=>P.out _ (H.out.trans' f.h)
  go_wp2_with fail;refine rX' ?_
  repeat(go_big_quiet_step(first|(go_at_call 81;with_reducible exact aQ (FA.out _ (H.out.trans' (aj.h _))))|(go_at_call 82;with_reducible exact aQ (IH.out _ (H.out.trans' (aj.h _))))))
  refine wpQuiet_nil ?_;rintro _⟨y,rfl⟩;have U:=ah (H.out.trans' y.h);clear jY S;have fJ:∀k:Nat,y.w.drew.cell? ⟨w.heap.size,k,none⟩=t.v.cells[k]? :=J.out _ (U.out.dQ);have ai:y.w.drew.cell? ⟨m,o,none⟩=some (.int .i64 a):=P.out _ (U.out.dQ);go_wp2_with fail
  go_region_law((go_simp
                 go_at_call 138;refine(CU.out _ U.out.dQ).mono ?_;rintro e w3⟨A3,N,c3,rfl,V,am⟩;have I:=ah V;have l:=ah (U.out.dQ.trans' am)
                 clear V))
  all_goals
   clear fJ ai;obtain⟨an,ao,ap,W⟩:=RJ.out;obtain⟨aq,_,_⟩:=I.out.len;obtain⟨j,hj⟩:∃j:Nat,N=j+1:=⟨N-1,by omega⟩;have X:j<(nU T.dec a).1.length:=(by omega);obtain⟨b9,o9,ar,g9⟩:=I.out.at_ X;have s:(nU T.dec a).1[j]=lastT T.dec a:=by
    rw[<- W,ng,getD_lt _ _ _ (by omega)];congr 1;omega
   rw[s]at g9;subst ar;have b8:(N:Int)-1=(j:Int):=(by omega);have bt:=z0' j;have bu:(j:Int)<(N:Int):=(by omega);have EC:N<=18:=(by omega);have bv:0<N:=(by omega);have Y:∀f:aj w3,f.w.cell? ⟨b9,o9+j,none⟩=some (.int .i64 (lastT T.dec a)):=bY g9;clear hj s an ao ap W aq X g9 I;have gV:∀f:aj w3,∀k:Nat,f.w.cell? ⟨w.heap.size,k,none⟩=t.v.cells[k]? :=λf=>J.out _ (l.out.trans' f.h)
   have Z:∀f:aj w3,f.w.cell? ⟨m,o+1,none⟩=some (.int .i64 b):=λf=>KB.out _ (l.out.trans' f.h)
   by_cases O:A=0
   .have d5:(A==0)=true:=(by rw[bq'];exact O);have F:Hid (G=true):=ah (by rw[E.out,dt' (p:=A=0) O];rfl);clear O E;go_simp;go_wp2_with fail;refine rX' ?_
    repeat(go_big_quiet_step(first|(go_at_call 140;with_reducible exact aQ (CB.out _ (l.out.trans' (aj.h _))))))
    refine wpQuiet_nil ?_;rintro _⟨z,rfl⟩;clear gV Z Y;go_wp2;go_ret;exact⟨aO F.out.symm,B.out.trans' (l.out.trans' z.h)⟩
   .have d5:(A==0)=false:=(by rw[aH];exact O);obtain⟨d,hd⟩:=eY' (decide (yl<=A));have F:Hid (G=d):=ah (by rw[E.out,df' (p:=A=0) O,hd];rfl);clear O E;go_simp;go_wp2_with fail;refine rX' ?_
    repeat(go_big_quiet_step(first|(go_at_call 140;with_reducible exact aQ (CB.out _ (l.out.trans' (aj.h _))))|(go_at_call 140;with_reducible exact aQ (CL.out _ (l.out.trans' (aj.h _))))))
    refine wpQuiet_nil ?_;rintro _⟨z,rfl⟩;clear gV Z Y;go_wp2;go_ret;exact⟨aO F.out.symm,B.out.trans' (l.out.trans' z.h)⟩
theorem Zu(i:T.dec.length<=256)(o:lH T.dec)(n:∀x,(aJ T.dec x).length<=18):∀(k:Nat)(t:TV)(c:Int)(w:World),aS w t T->
 (∀a b,aJ T.dec c=[a,b]->rkD T.dec a<k)->cE' 82 #[t.v,.int .i64 c] w (.bool (xM T k ⟨c,aJ T.dec c⟩)):=by
 intro k;have g:∀l:List Int,(∀a b,l≠[a,b])->l.length≠2:=by
  intro l f
  match l,f with
  |[],_=>simp
  |[_],_=>simp
  |[a,b],f=>exact absurd rfl (f a b)
  |_::_::_::_,_=>simp
 induction k with
 |zero=>
  intro t c w ht j;have f:∀a b,aJ T.dec c≠[a,b]:=λa b h=>by have:=j a b h;omega
  exact Calls.uz (Oh t T c w ht (g _ f)) (Dc T 0 c _ f).symm
 |succ k ih=>
  intro t c w ht j;by_cases f:∀a b,aJ T.dec c≠[a,b]
  .exact Calls.uz (Oh t T c w ht (g _ f)) (Dc T (k+1) c _ f).symm
  .obtain⟨a,b,m⟩:∃a b,aJ T.dec c=[a,b]:=Classical.byContradiction λh=>f λa b e=>h ⟨a,b,e⟩
   have p:=j a b m
   have h:=aDM t T c a b (xM T k ⟨a,aJ T.dec a⟩) w ht i o n m (λ_ w' q=>ih t a w' (ht.aB q) λr y s=>by
    have:=Dp o (c:=a) (d:=r) (by rw[s];simp)
    omega)
   rw[m,P9];exact h
theorem Nw(b:T.dec.length<=256)(f:lH T.dec)(d:∀x,(aJ T.dec x).length<=18)(t:TV)(c:Int)(w:World)(ht:aS w t T):
 cE' 82 #[t.v,.int .i64 c] w (.bool (iy T ⟨c,aJ T.dec c⟩)):=
 Zu T b f d (T.dec.length+2) t c w ht λa _ _=>by have:=Rl f a;omega
def sQ(x:Int):Int:=if 65<=x/\x<=90 then x+32 else x
def fK(l:List Int):List Int:=l.map sQ
theorem CG{l:List Int}(h:IsB l):IsB (fK l):=by
 intro x a;unfold fK at a;rw[List.mem_map]at a;obtain⟨y,b,rfl⟩:=a;have:=h y b;unfold sQ;split<;>omega
theorem Cm:(fK l).length=l.length:=List.length_map _
def isX(l:List Int):Bool:=decide (4<=l.length)&&decide (fK (l.take 4)=[120,110,45,45])
def jG(l:List Int):Bool:= !l.any (λc=>decide (c<0)||decide (127<c))
noncomputable def alE(l:List Int):List Int×Int:=
 if l.length=0 then([],10)else if jG l=true then(if 63<l.length then([],11)else(l,0))else if(jE l).2≠0 then([],(jE l).2)else if 63<(jE l).1.length+4 then([],11)else([120,110,45,45]++(jE l).1,0)
noncomputable def alD(s:List Int):List Int×Int:=
 if s.length=0 then([],10)else if s.any (λb=>decide (127<b))then([],12)else if 63<s.length then([],11)else if isX s=false then(s,0)
 else if(pdU (fK (s.drop 4))).2≠0 then([],(pdU (fK (s.drop 4))).2)else if jG (pdU (fK (s.drop 4))).1=true then([],12)
 else if(alE (pdU (fK (s.drop 4))).1).2≠0\/(alE (pdU (fK (s.drop 4))).1).1≠fK s then([],12)else((pdU (fK (s.drop 4))).1,0)
def RbS(w:World)(g n:Nat)(f:Nat->Int):Prop:=g<w.heap.size/\∀k,k<n->w.cell? ⟨g,k,none⟩=some (.int .u8 (f k))/\w.frozen? ⟨g,k,none⟩=false
theorem RbS.set{w:World}{g n a:Nat}{f:Nat->Int}{x:Int}(h:RbS w g n f)(c:a<n):RbS (w.setCell ⟨g,a,none⟩ (.int .u8 x)) g n (λk=>if k=a then x else f k):=
 ⟨by simpa using h.1,λk b=>⟨by
  by_cases e:k=a
  .subst e;rw[World.cell?_setCell_same w _ (.int .u8 x) (h.2 k b).1];simp
  .rw[World.cell?_setCell_other w _ _ (.int .u8 x) (by simp;try omega),(h.2 k b).1]
   simp[e],by simpa using(h.2 k b).2⟩⟩
theorem RbS.congr{w:World}{g n:Nat}{p q:Nat->Int}(h:RbS w g n p)(e:∀k,k<n->p k=q k):RbS w g n q:=
 ⟨h.1,λk a=>by rw[<- e k a];exact h.2 k a⟩
def aM3(w:World)(l:List Int)(G:Nat)(g:Nat)(s10:Value)(wx:World):Prop:=
 ∃k:Nat,g+k=l.length/\s10=.int .i64 k/\Hid (RbS wx G l.length (λj=>if j<k then sQ (l.getD j 0)else l.getD j 0))/\Hid (Ext w wx)
theorem LC(F:IsB l)(X:l.length<=4096)(w:World):cE' 240 #[.string (sB l)] w (.string (sB (fK l))):=by
 obtain⟨K,L,p,a,q,H,r⟩:=FT (w:=w) F (by omega);have M:=ah F
 have h:Hid (RbS L w.heap.size l.length (λj=>if j<0 then sQ (l.getD j 0)else l.getD j 0)):=ah ⟨H,λk m=>⟨by
  obtain⟨b,o,B,I⟩:=a.at_ m;injection B with B;injection B with s N;subst s N;rw[Nat.zero_add]at I;rw[I];show _=some (Value.int .u8 (if k<0 then sQ (l.getD k 0)else l.getD k 0))
  rw[nN' (by omega),getD_lt l k 0 m],r k m⟩⟩
 have f:=a.len;have t:=f.2;have y:=ah q;go_enter func240,ntmps240;go_wp2_with fail;clear F p a q H r f;obtain⟨G,J⟩:=eY' w.heap.size;rw[J]at h |-;have O:Hid (w.heap.size<=G):=ah (by omega);clear J;go_loopg[10] l.length (λP C Q=>aM3 w l G P C Q);exact⟨0,by omega,rfl,h,y⟩;obtain⟨k,V,rfl,g,z⟩:=hrel;clear h y;by_cases m:k<l.length
 .have D:=(g.out.2 k m).1;simp only[Nat.lt_irrefl,if_false]at D;have R:=(g.out.2 k m).2;have W:=wH M.out k;have c:Hid (sQ (l.getD k 0)=if 65<=l.getD k 0/\l.getD k 0<=90 then l.getD k 0+32 else l.getD k 0):=rfl;by_cases n:65<=l.getD k 0/\l.getD k 0<=90
  .have d:Hid (RbS (wr.setCell ⟨G,k,none⟩ (.int .u8 (l.getD k 0+32))) G l.length (λj=>if j<k+1 then sQ (l.getD j 0)else l.getD j 0)):=ah ((g.out.set m).congr (λj _=>by
    by_cases e:j=k
    .subst e;show(if j=j then l.getD j 0+32 else _)=if j<j+1 then sQ (l.getD j 0)else l.getD j 0
     rw[pP' rfl,pP' (Nat.lt_succ_self j),c.out,pP' n]
    .have s:(j<k+1)=(j<k):=by rw[eq_iff_iff];omega
     simp only[e,if_false,s]))
   have E:Hid (Ext w (wr.setCell ⟨G,k,none⟩ (.int .u8 (l.getD k 0+32)))):=ah (z.out.jP O.out _);generalize l.getD k 0=x at*;clear g z c;go_wp2_with fail;rw[show x+97-65=x+32 by omega];go_roundg (l.length-(k+1));exact⟨k+1,by omega,by go_num,d,E⟩;omega
  .have d:Hid (RbS wr G l.length (λj=>if j<k+1 then sQ (l.getD j 0)else l.getD j 0)):=ah (g.out.congr (λj _=>by
    by_cases e:j=k
    .subst e;show(if j<j then sQ (l.getD j 0)else l.getD j 0)=if j<j+1 then sQ (l.getD j 0)else l.getD j 0
     rw[nN' (Nat.lt_irrefl j),pP' (Nat.lt_succ_self j),c.out,nN' n]
    .have s:(j<k+1)=(j<k):=by rw[eq_iff_iff];omega
     simp only[s]))
   generalize l.getD k 0=x at*;clear g c;by_cases S:65<=x
   .have T:90<x:=(by omega);go_wp2;go_roundg (l.length-(k+1));exact⟨k+1,by omega,by go_num,d,z⟩;omega
   .go_wp2;go_roundg (l.length-(k+1));exact⟨k+1,by omega,by go_num,d,z⟩;omega
 .have a:nI wr ⟨some ⟨G,0,none⟩,l.length,K⟩ (fK l):=⟨⟨(Cm l).symm,by rw[Cm];exact t.1,t.2⟩,λi x n=>⟨G,0,rfl,by
   have A:=(List.getElem?_eq_some_iff.1 n).1;rw[Cm]at A;rw[Nat.zero_add,(g.out.2 i A).1];show some (Value.int .u8 (if i<k then sQ (l.getD i 0)else l.getD i 0))=_
   rw[pP' (by omega)];unfold fK at n;rw[List.getElem?_map,List.getElem?_eq_getElem A]at n;rw[getD_lt l i 0 A]
   simpa using n⟩⟩
  have p:=BO a;have U:=z.out;clear a g;go_wp2;go_ret;exact⟨rfl,U⟩
def aMF(w:World)(l:List Int)(g:Nat)(s3 s4:Value)(wx:World):Prop:=
 ∃k:Nat,g+k=l.length/\s4=.int .i64 k/\s3=.string (sB (fK (l.take k)))/\Ext w wx
theorem Ls(o:IsB l)(D:l.length<=4096)(w:World):cE' 203 #[.string (sB l)] w (.string (sB (fK l))):=by
 have m:=ah o;clear o;go_enter func203,ntmps203;go_wp2;go_loopg[3,4] l.length (λp q r s=>aMF w l p q r s);exact⟨0,by omega,rfl,rfl,eR'⟩;obtain⟨k,B,rfl,rfl,d⟩:=hrel;have f:=ah d;clear d;by_cases g:k<l.length
 .have h:=ixc m.out g wr;have C:=wH m.out k;have c:Hid (fK (l.take k)++[sQ (l.getD k 0)]=fK (l.take (k+1))):=ah (by unfold fK;rw[tS' g,getD_lt l k 0 g,List.map_append];rfl);have a:Hid (sQ (l.getD k 0)=if 65<=l.getD k 0/\l.getD k 0<=90 then l.getD k 0+32 else l.getD k 0):=rfl;have t:(fK (l.take k)).length<=4096:=by rw[Cm,List.length_take];omega
  generalize l.getD k 0=x at*;have b:∀n,Ext w (wr.alloc (.cells n 5)):=λn=>f.out.ay _
  by_cases h:65<=x/\x<=90
  .rw[a.out,pP' h]at c;have i:=yI wr #[.int .u8 (x+32)] [x+32] 1 rfl rfl (by omega);have j:[x+32].length<=1:=lr' _;generalize[x+32]=E at*;generalize fK (l.take k)=S at*;clear a f;go_wp2;go_roundg (l.length-(k+1));exact⟨k+1,by omega,by go_num,by rw[c.out],b _⟩;omega
  .rw[a.out,nN' h]at c;have i:=yI wr #[.int .u8 x] [x] 1 rfl rfl (by omega);have j:[x].length<=1:=lr' _;generalize[x]=E at*;generalize fK (l.take k)=S at*;clear a f;by_cases y:65<=x
   .have z:90<x:=(by omega);go_wp2;go_roundg (l.length-(k+1));exact⟨k+1,by omega,by go_num,by rw[c.out],b _⟩;omega
   .go_wp2;go_roundg (l.length-(k+1));exact⟨k+1,by omega,by go_num,by rw[c.out],b _⟩;omega
 .have A:l.take k=l:=tL' (by omega);rw[A];have d:=f.out;go_wp2;go_ret;exact⟨rfl,d⟩
def SE(w:World)(l:List Int)(g:Nat)(s7:Value)(wx:World):Prop:=
 ∃k:Nat,g+k=l.length/\s7=.int .i64 k/\wx=w/\Hid ((l.take k).any (λc=>decide (c<0)||decide (127<c))=false)
theorem SN(g:IsB l)(w:World):cE' 187 #[.string (sB l)] w (.bool (isX l)):=by
 have c:Hid (isX l=(decide (4<=l.length)&&decide (fK (l.take 4)=[120,110,45,45]))):=rfl;generalize isX l=V at*;by_cases d:4<=l.length
 .have h:=ah (LC (l.take 4) (wX g 4) (by rw[List.length_take];omega) w);have b:=Aq w (l:=l) (k:=4) d;have f:(Instr.slice 9 (.string (sB l)) none (some (.int .i64 4)) none).run prog w=.ok (.string (sB (l.take 4))) w:=b;have i:=rJ (CG (wX g 4)) (show IsB [120,110,45,45]from by intro x j;simp at j;omega);have o:(⟨#[120,110,45,45]⟩:ByteArray)=sB [120,110,45,45]:=rfl;have m:decide (4<=(l.length:Int))=true:=dT';have a:decide (4<=l.length)=true:=by rw[au];exact d
  rw[a,Bool.true_and]at c;rw[<- c.out]at i;clear b a;generalize l.take 4=t at*;go_enter func187,ntmps187;go_wp2_with(refine h.out.mono ?_;rintro e p⟨rfl,n⟩);go_ret;exact⟨rfl,n⟩
 .have a:decide (4<=l.length)=false:=by rw[aA];exact d
  rw[a,Bool.false_and]at c;rw[c.out];have m:decide (4<=(l.length:Int))=false:=dF';go_enter func187,ntmps187;go_wp2;go_ret;exact⟨rfl,eR'⟩
theorem LG(g:aC w ⟨A,n,c⟩ l):cW' 186 #[.slice A n c] w (.bool (jG l)):=by
 have h:Hid (jG l= !l.any (λc=>decide (c<0)||decide (127<c))):=rfl;generalize jG l=V at*;have r:=g.len.2;have s:=g.len.1;subst s;have t:=ah g;clear g;go_enter func186,ntmps186;go_wp2;go_loopg[7] l.length (λy z B=>SE w l y z B);exact⟨0,by omega,rfl,rfl,rfl⟩;obtain⟨k,G,rfl,rfl,i⟩:=hrel;by_cases j:k<l.length
 .obtain⟨b,o,C,D⟩:=t.out.at_ j;subst C;have m:=ah (xC (f:=λc=>decide (c<0)||decide (127<c)) j);have a:=ah (anyM (f:=λc=>decide (c<0)||decide (127<c)) j);generalize l[k]=x at*;by_cases E:x<0
  .have d:Hid (V=false):=ah (by rw[h.out,a.out (by simp[E])];rfl);go_wp2;go_ret;exact⟨aO d.out.symm,rfl⟩
  by_cases p:127<x
  .have d:Hid (V=false):=ah (by rw[h.out,a.out (by simp[p])];rfl);go_wp2;go_ret;exact⟨aO d.out.symm,rfl⟩
  .have q:Hid ((l.take (k+1)).any (λc=>decide (c<0)||decide (127<c))=false):=ah (by rw[m.out,i.out];simp;omega);go_wp2;go_roundg (l.length-(k+1));exact⟨k+1,by omega,by go_num,rfl,q⟩;omega
 .have F:l.take k=l:=tL' (by omega);rw[F]at i;have d:Hid (V=true):=ah (by rw[h.out,i.out];rfl);go_wp2;go_ret;exact⟨aO d.out.symm,rfl⟩
theorem SL(g:IsB l)(w:World):cE' 149 #[.string (sB l)] w (.bool (isX l)):=by
 have c:Hid (isX l=(decide (4<=l.length)&&decide (fK (l.take 4)=[120,110,45,45]))):=rfl;generalize isX l=V at*;by_cases d:4<=l.length
 .have h:=ah (Ls (l.take 4) (wX g 4) (by rw[List.length_take];omega) w);have b:=Aq w (l:=l) (k:=4) d;have f:(Instr.slice 9 (.string (sB l)) none (some (.int .i64 4)) none).run prog w=.ok (.string (sB (l.take 4))) w:=b;have i:=rJ (CG (wX g 4)) (show IsB [120,110,45,45]from by intro x j;simp at j;omega);have o:(⟨#[120,110,45,45]⟩:ByteArray)=sB [120,110,45,45]:=rfl;have m:decide (4<=(l.length:Int))=true:=dT';have a:decide (4<=l.length)=true:=by rw[au];exact d
  rw[a,Bool.true_and]at c;rw[<- c.out]at i;clear b a;generalize l.take 4=t at*;go_enter func149,ntmps149;go_wp2_with(refine h.out.mono ?_;rintro e p⟨rfl,n⟩);go_ret;exact⟨rfl,n⟩
 .have a:decide (4<=l.length)=false:=by rw[aA];exact d
  rw[a,Bool.false_and]at c;rw[c.out];have m:decide (4<=(l.length:Int))=false:=dF';go_enter func149,ntmps149;go_wp2;go_ret;exact⟨rfl,eR'⟩
theorem LD(g:aC w ⟨A,n,c⟩ l):cW' 148 #[.slice A n c] w (.bool (jG l)):=by
 have h:Hid (jG l= !l.any (λc=>decide (c<0)||decide (127<c))):=rfl;generalize jG l=V at*;have r:=g.len.2;have s:=g.len.1;subst s;have t:=ah g;clear g;go_enter func148,ntmps148;go_wp2;go_loopg[7] l.length (λy z B=>SE w l y z B);exact⟨0,by omega,rfl,rfl,rfl⟩;obtain⟨k,G,rfl,rfl,i⟩:=hrel;by_cases j:k<l.length
 .obtain⟨b,o,C,D⟩:=t.out.at_ j;subst C;have m:=ah (xC (f:=λc=>decide (c<0)||decide (127<c)) j);have a:=ah (anyM (f:=λc=>decide (c<0)||decide (127<c)) j);generalize l[k]=x at*;by_cases E:x<0
  .have d:Hid (V=false):=ah (by rw[h.out,a.out (by simp[E])];rfl);go_wp2;go_ret;exact⟨aO d.out.symm,rfl⟩
  by_cases p:127<x
  .have d:Hid (V=false):=ah (by rw[h.out,a.out (by simp[p])];rfl);go_wp2;go_ret;exact⟨aO d.out.symm,rfl⟩
  .have q:Hid ((l.take (k+1)).any (λc=>decide (c<0)||decide (127<c))=false):=ah (by rw[m.out,i.out];simp;omega);go_wp2;go_roundg (l.length-(k+1));exact⟨k+1,by omega,by go_num,rfl,q⟩;omega
 .have F:l.take k=l:=tL' (by omega);rw[F]at i;have d:Hid (V=true):=ah (by rw[h.out,i.out];rfl);go_wp2;go_ret;exact⟨aO d.out.symm,rfl⟩
end Go.Proofs.YtljilcbobhmkgaaGreatDoor
