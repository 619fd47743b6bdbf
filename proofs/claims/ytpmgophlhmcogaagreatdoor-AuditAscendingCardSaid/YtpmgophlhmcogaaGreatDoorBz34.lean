/- Part Bz34. -/
import Derived.Test.YtpmgophlhmcogaaGreatDoorBz33
import Derived.Test.YtpmgophlhmcogaaGreatDoorCards
import Derived.Test.YtpmgophlhmcogaaGreatDoorTie
import Derived.LaidMore
open Go.Proofs.Tryz
namespace Go.Proofs.YtpmgophlhmcogaaGreatDoor
set_option maxHeartbeats 25600000
set_option maxRecDepth 100000
open Go.RowKit
theorem Iw(f:Int->Int)(n:Nat)(a:Int->Int)(h:∀k,0<=k->0<=f k->a k<a (f k)):∀(g i:Nat),lu f n g i=[]
 |0,_=>rfl
 |g+1,i=>by
  have:∀(q:Nat)(k:Int)(c:List Int),(k=i\/a i<a k)->jg f n i q k c=none:=by
   intro q
   induction q with
   |zero=>intro k c _;rfl
   |succ q ih=>
    intro k c b;rw[jg];split
    .rename_i j;by_cases l:0<=f k
     .have m:=h k j.1 l;have d:a i<a (f k):=(by rcases b with rfl|b<;>omega);rw[nN' (λe=>by rw[e]at d;omega)];exact ih _ _ (.inr d)
     .rw[nN' (by omega)];cases q with
      |zero=>rfl
      |succ q=>rw[jg,nN' (by omega)]
    .rfl
  rw[lu,this _ _ _ (.inl rfl)];exact Iw f n a h g (i+1)
theorem IZ{x:List Int}:∀{L:List (List Int)}{i:Nat},dD x i L≠ -1->∃p,∃h:p<L.length,dD x i L=((i+p:Nat):Int)/\L[p]=x
 |[],_,h=>absurd rfl h
 |y::r,i,h=>by
  rw[dD]at h |-;by_cases e:y=x
  .rw[pP' e];exact⟨0,by simp,rfl,e⟩
  .rw[nN' e]at h |-;have b:dD x ((i+1:Nat):Int) r≠ -1:=h;obtain⟨p,c,d,f⟩:=IZ b;refine⟨p+1,by simpa using c,?_,f⟩;have a:dD x ((i:Int)+1) r=((i+1+p:Nat):Int):=d;rw[a];omega
abbrev lkS(L:List Nat):List (List Int):=L.map λ(q:Nat)=>[97+(q:Int)]
abbrev owI(L:List Nat):List Int:=L.map λ(o:Nat)=>(o:Int)
def AsP(k:Nat)(bD dH:List Nat)(T:List Int):Prop:=bD.length=dH.length/\T.length=6/\(∀j,j<6->0<=T.getD j 0/\T.getD j 0<=8)/\∀p(h:p<bD.length)(h2:p<dH.length),bD[p]<k/\dH[p]<6/\(bD[p]:Int)+1<=T.getD dH[p] 0
def AwP(T:List Int)(c:Nat)(wn:List (List Int)):Prop:=wn.length=c/\∀j(h:j<wn.length),∃kj:Int,T.getD j 0<=kj/\wn[j]=if 7<kj then[]else[97+kj]
theorem TG{k:Nat}{i m:List Nat}{T:List Int}(h:AsP k i m T)(c:Nat)(r:c<6)(y:k<8):AsP (k+1) (i++[k]) (m++[c]) (T.set c ((k:Int)+1)):=by
 obtain⟨n,o,s,t⟩:=h;have f:∀j,j<6->(T.set c ((k:Int)+1)).getD j 0=if c=j then(k:Int)+1 else T.getD j 0:=λj g=>by
  simp only[List.getD_eq_getElem?_getD,List.getElem?_set];split
  .rename_i e;subst e;simp[o,g]
  .rfl
 refine⟨by simp[n],by simpa using o,λj g=>?_,λp w x=>?_⟩
 .rw[f j g];split
  .omega
  .exact s j g
 .by_cases e:p<i.length
  .have q:p<m.length:=by omega
   rw[List.getElem_append_left e,List.getElem_append_left q];obtain⟨a,b,d⟩:=t p e q;refine⟨by omega,b,?_⟩;rw[f _ b];split<;>omega
  .have l:p=i.length:=by simp at w;omega
   subst l;rw[List.getElem_append_right (lr' _),List.getElem_append_right (by omega)];simp only[Nat.sub_self,List.getElem_cons_zero,n];refine⟨by omega,r,?_⟩;rw[f c r,pP' rfl];omega
theorem TI{k:Nat}{f g:List Nat}{T:List Int}(h:AsP k f g T):AsP (k+1) f g T:=⟨h.1,h.2.1,h.2.2.1,λp i c=>by obtain⟨a,b,d⟩:=h.2.2.2 p i c;exact⟨by omega,b,d⟩⟩
theorem TJ{k:Nat}{l f:List Nat}{T:List Int}{g:List (List Int)}(h:AsP k l f T)(J:AwP T 6 g):lC (lkS l) (owI f) g=[]:=by
 obtain⟨C,K,L,D⟩:=h;obtain⟨M,E⟩:=J;unfold lC;rw[nN' (by simp[C])];refine Iw _ _ (λc=>T.getD c.toNat 0) (λc N x=>?_) _ _;unfold nxF at x |-;split at x
 case isFalse=>omega
 rename_i y;rw[pP' y];obtain⟨i,n⟩:=y;unfold wtF at i n |-;split at i
 case isFalse=>omega
 rename_i z;rw[pP' z];obtain⟨O,P,m,o⟩:=z;have A:c.toNat<g.length:=by omega
 obtain⟨q,Q,F⟩:=E c.toNat A;have e:g.getD c.toNat []=g[c.toNat]:=by simp[List.getD_eq_getElem?_getD,A]
 rw[e]at m o |-;have r:g[c.toNat]=[97+q]:=by
  rw[F]at m |-;split at m
  .exact absurd rfl m
  .rename_i h;rw[nN' h]
 rw[r]at o |-;have s:dD [97+q] ((0:Nat):Int) (lkS l)≠ -1:=o;obtain⟨p,G,H,B⟩:=IZ s;have t:dD [97+q] 0 (lkS l)=((0+p:Nat):Int):=H;rw[t];have w:p<l.length:=by simpa using G
 have j:p<f.length:=by omega
 obtain⟨a,b,d⟩:=D p w j;have I:(owI f).getD ((0+p:Nat):Int).toNat 0=(f[p]:Int):=by
  have:((0+p:Nat):Int).toNat=p:=by omega
  rw[this];simp[List.getD_eq_getElem?_getD,j]
 rw[I];rw[List.getElem_map]at B;injection B with R _;show T.getD c.toNat 0<T.getD (f[p]:Int).toNat 0
 rw[Int.toNat_natCast];omega
theorem J3{T:List Int}{q:Nat}{a:List (List Int)}(h:AwP T q a){kj:Int}(g:T.getD q 0<=kj){x:List Int}(i:x=if 7<kj then[]else[97+kj]):AwP T (q+1) (a++[x]):=by
 obtain⟨b,c⟩:=h;refine⟨by simp[b],λj d=>?_⟩;by_cases e:j<a.length
 .rw[List.getElem_append_left e];exact c j e
 .have f:j=a.length:=by simp at d;omega
  subst f;rw[List.getElem_append_right (lr' _)];simp only[Nat.sub_self,List.getElem_cons_zero];exact⟨kj,by rw[b];exact g,i⟩
theorem J4:∀k:Nat,k<8->([97,98,99,100,101,102,103,104]:List Int).getD k 0=97+(k:Int):=by
 intro k a;rcases k with _|_|_|_|_|_|_|_|k<;>first|rfl|omega
theorem TM{L:List Nat}(h:∀q∈L,q<8):∀x∈lkS L,IsB x:=by
 intro x a;rw[List.mem_map]at a;obtain⟨q,b,rfl⟩:=a;intro c d;have:=h q b;rw[List.mem_singleton.1 d];omega
theorem TN{T:List Int}{c:Nat}{b:List (List Int)}(h:AwP T c b)(a:c<=6)(i:∀j,j<6->0<=T.getD j 0/\T.getD j 0<=8):∀x∈b,IsB x:=by
 intro x d;obtain⟨j,f,rfl⟩:=List.mem_iff_getElem.1 d;obtain⟨k,l,g⟩:=h.2 j f;have m:=i j (by have:=h.1;omega);rw[g];split
 .intro c a;simp at a
 .intro c a;rw[List.mem_singleton.1 a];omega
def LoQ(w:World)(g ub:Nat)(gh:Nat)(s4 s6 s8:Value)(wx:World):Prop:=
 ∃(A:Option Addr)(c:Nat)(bD:List Nat)(B:Option Addr)(d:Nat)(dH:List Nat)(k:Nat)(T:List Int)(r:List Int),s8=.int .i64 k/\s4=.slice A bD.length c/\s6=.slice B bD.length d/\k+gh=8/\bD.length<=k/\Hid (dZ wx (ub+1) A bD.length c (lkS bD))/\Hid (aB wx (ub+1) B bD.length d (owI dH))/\Hid (UAt wx ub T)/\Hid (AsP k bD dH T)/\Hid (Src w wx g r)/\Hid (Ext w wx)/\ub<wx.heap.size
def LoW(w:World)(g ub z:Nat)(A:Option Addr)(c:Nat)(bD:List Nat)(B:Option Addr)(d:Nat)(dH:List Nat)(T:List Int)(gh:Nat)(s5 s10:Value)(wx:World):Prop:=
 ∃(C:Option Addr)(e:Nat)(wn:List (List Int))(q:Nat)(r:List Int),s10=.int .i64 q/\s5=.slice C wn.length e/\q+gh=6/\wn.length<=q/\Hid (dZ wx z C wn.length e wn)/\Hid (dZ wx (ub+1) A bD.length c (lkS bD))/\Hid (aB wx (ub+1) B bD.length d (owI dH))/\Hid (UAt wx ub T)/\Hid (AwP T q wn)/\Hid (Src w wx g r)/\Hid (Ext w wx)/\z<=wx.heap.size
theorem TF(l:List Int)(A0:Option Addr)(n0 c0:Nat)(w:World)(h0:au w ⟨A0,n0,c0⟩ l)(hg:Glob w):
 cE' 4 #[.slice A0 n0 c0] w (.bool true):=by
 have bk:=ah hg;have HL:=ah h0;clear hg h0;have k8:(⟨#[97,98,99,100,101,102,103,104]⟩:ByteArray)=sB [97,98,99,100,101,102,103,104]:=rfl;go_enter func4,ntmps4;go_wp2_with fail;refine(Jf l A0 n0 c0 w HL.out).mono ?_;rintro e w1⟨rfl,ai,b0⟩;have bL:=ai.lt;generalize hg:w.heap.size=g at*;have HG:=ah hg;clear hg;have wJ:=ah ai;have bl:=ah b0;clear ai b0;obtain⟨m,bm⟩:=eY' w1.heap.size;have b2:=ah bm;have bN:g<m:=by omega
 go_wp2;go_loopg[4,6,8] 8 (λgh s4 s6 s8 wx=>LoQ w g m gh s4 s6 s8 wx)
 case atStart=>
  refine⟨none,0,[],none,0,[],0,[0,0,0,0,0,0],l,by go_num,rfl,rfl,by omega,by simp,ah (Own.nil_ _ _ _ _),ah (Own.nil_ _ _ _ _),ah ⟨rfl,λj x hx=>?_⟩,ah ⟨rfl,rfl,λj hj=>?_,λp h=>by simp at h⟩,ah (wJ.out.kp (M:=[]) (Kp.dN (eR'.aA _)) (by simp)),ah (bl.out.trans' (eR'.aA _)),by simp;omega⟩
  .rcases j with _|_|_|_|_|_|j<;>first|(simp at hx;done)|(simp at hx;subst hx;refine⟨?_,?_⟩<;>first|(rw[<- b2.out];exact World.cell?_alloc_new _ _ _ _)|(rw[<- b2.out];exact World.frozen?_alloc_new _ _ _ _))
  .rcases j with _|_|_|_|_|_|j<;>first|decide|omega
 case round=>
  obtain⟨A,c,y,B,d,Q,k,T,r,rfl,rfl,rfl,bO,bQ,HO,HI,HU,HP,O,cO,bR⟩:=hrel;rcases Nat.eq_zero_or_pos gk with h0|b6
  case inr=>
   obtain⟨X,rfl⟩:=gS' gk;have hd:decide ((k:Int)<8)=true:=(by simp;omega);go_wp2_with fail;have bo:=kR r (n:=6) (by decide);refine(sS w wr g r 6 (by decide) (by decide) O.out cO.out).mono ?_;rintro e w2⟨rfl,b7,Y,b8⟩;obtain⟨o,ho⟩:∃o:Nat,dK 6 r=o:=⟨(dK 6 r).toNat,by omega⟩;rw[ho]at bo |-;have bS:=kR r.tail (n:=3) (by decide);have am:Hid (dZ w2 (m+1) A y.length c (lkS y)):=ah (Own.kp HO.out Y (λb s=>by have:=(Own.lt HO.out b s).1;simp;omega));have an:Hid (aB w2 (m+1) B y.length d (owI Q)):=ah (Own.kp HI.out Y (λb s=>by have:=(Own.lt HI.out b s).1;simp;omega));have b9:Hid (UAt w2 m T):=ah (HU.out.kp Y (by simp;omega));have bX:=Y.size;have ba:=ah b7;have bb:=ah b8;clear b7 Y b8 HO HI HU O cO ho;go_wp2_with fail;refine(sS w w2 g r.tail 3 (by decide) (by decide) ba.out bb.out).mono ?_;rintro e H⟨rfl,Z,F,a0⟩;have V:Hid (dZ H (m+1) A y.length c (lkS y)):=ah (Own.kp am.out F (λb s=>by have:=(Own.lt am.out b s).1;simp;omega));have I:Hid (aB H (m+1) B y.length d (owI Q)):=ah (Own.kp an.out F (λb s=>by have:=(Own.lt an.out b s).1;simp;omega));have J:Hid (UAt H m T):=ah (b9.out.kp F (by simp;omega));have bp:=F.size;have lZ:=ah Z;have K:=ah a0;generalize dK 3 r.tail=v at*;clear Z F a0 am an b9 ba bb;by_cases bc:0<v
   .have bq:decide (0<v)=true:=(by simpa using bc);have J5:k<8:=(by omega);have ao:=λW=>letter (cs:=[97,98,99,100,101,102,103,104]) (i:=k) (by simp only[List.length_cons,List.length_nil];omega) W
    rw[J4 k J5]at ao;have a:Ext H (H.alloc (.cells #[.string (sB [97+(k:Int)])] 9)):=eR'.aA _;obtain⟨A5,c5,E,G,t,f⟩:=vU V.out [97+(k:Int)] (by omega) (by omega);have N:Kp (aK A).toList (H.alloc (.cells #[.string (sB [97+(k:Int)])] 9)) E:=Kp.qg f (by intro b s;simp[s]);have jS:Hid (Src w E g r.tail.tail):=ah ((lZ.out.kp (M:=[]) (Kp.dN a) (by simp)).kp N (by simp only[Option.mem_toList];intro e;have:=(Own.lt V.out g e).1;omega));have bg:Hid (Ext w E):=ah (dP (K.out.trans' a) f (λk hk=>by have:=(Own.lt V.out k hk).1;have:=HG.out;omega));have iM:Hid (aB E (m+1) B y.length d (owI Q)):=ah (Own.kp (Own.ext I.out a) N (λb s P=>Own.types I.out V.out (by decide) b s (by simpa using P)));have S:Hid (UAt E m T):=ah ((J.out.kp (M:=[]) (Kp.dN a) (by simp)).kp N (by simp only[Option.mem_toList];intro e;have:=(Own.lt V.out m e).1;omega));have vJ:H.heap.size<=E.heap.size:=Nat.le_trans a.b.size f.size;have aZ:=ah t;have L:Ext E (E.alloc (.cells #[.int .i64 (o:Int)] 3)):=eR'.aA _;obtain⟨B7,d7,U,a1,oh,kJ,_⟩:=gK (Own.ext iM.out L) (iP E (o:Int)) (by omega) (Nat.le_trans (by omega) L.b.size);have a7:Kp (aK B).toList (E.alloc (.cells #[.int .i64 (o:Int)] 3)) U:=Kp.qg kJ (by intro b s;simp[s]);have bd:Hid (Src w U g r.tail.tail):=ah ((jS.out.kp (M:=[]) (Kp.dN L) (by simp)).kp a7 (by simp only[Option.mem_toList];intro e;have:=(Own.lt iM.out g e).1;omega));have uh:Hid (Ext w U):=ah (dP (bg.out.trans' L) kJ (λk hk=>by have:=(Own.lt iM.out k hk).1;have:=HG.out;omega));have a8:Hid (dZ U (m+1) A5 (y.length+1) c5 (lkS y++[[97+(k:Int)]])):=ah (Own.kp (Own.ext aZ.out L) a7 (λb s P=>Own.types aZ.out iM.out (by decide) b s (by simpa using P)));have a9:Hid (UAt U m T):=ah ((S.out.kp (M:=[]) (Kp.dN L) (by simp)).kp a7 (by simp only[Option.mem_toList];intro e;have:=(Own.lt iM.out m e).1;omega));have bZ:E.heap.size<=U.heap.size:=Nat.le_trans L.b.size kJ.size;have aa:=ah oh;have br:Hid (AsP (k+1) (y++[k]) (Q++[o]) (T.set o ((k:Int)+1))):=ah (TG HP.out o (by omega) J5);have e1:lkS y++[[97+(k:Int)]]=lkS (y++[k]):=(by simp);have e2:owI Q++[(o:Int)]=owI (Q++[o]):=(by simp);rw[e1]at a8;rw[e2]at aa;have a2:(y++[k]).length=y.length+1:=(by simp);have a3:Kp [m] U (U.setCell ⟨m,o,none⟩ (.int .i64 ((k:Int)+1))):=Kp.setCell _ _ _ _ (by simp);have bs:Hid (Src w (U.setCell ⟨m,o,none⟩ (.int .i64 ((k:Int)+1))) g r.tail.tail):=ah (bd.out.kp a3 (by simp;omega));have Jt:Hid (Ext w (U.setCell ⟨m,o,none⟩ (.int .i64 ((k:Int)+1)))):=ah (uh.out.lG (by have:=HG.out;show w.heap.size<=m;omega) _);have bt:Hid (dZ (U.setCell ⟨m,o,none⟩ (.int .i64 ((k:Int)+1))) (m+1) A5 (y.length+1) c5 (lkS (y++[k]))):=ah (Own.kp a8.out a3 (λb s=>by have:=(Own.lt a8.out b s).1;simp;omega));have bu:Hid (aB (U.setCell ⟨m,o,none⟩ (.int .i64 ((k:Int)+1))) (m+1) B7 (y.length+1) d7 (owI (Q++[o]))):=ah (Own.kp aa.out a3 (λb s=>by have:=(Own.lt aa.out b s).1;simp;omega));have bv:Hid (UAt (U.setCell ⟨m,o,none⟩ (.int .i64 ((k:Int)+1))) m (T.set o ((k:Int)+1))):=ah (a9.out.set o _ (by omega));obtain⟨t9,bw⟩:∃x,T[o]? =some x:=⟨_,List.getElem?_eq_getElem (by have:=a9.out.1;omega)⟩;obtain⟨c1,c2⟩:=a9.out.2 o t9 bw;have c3:=a3.size;clear V I J lZ K t f N a L a7 kJ oh aZ iM S jS bg a8 aa a9 bd uh e1 e2 a3;go_wp2_with(at_builtin;first|(refine bP rfl _ _ _ rfl _ _ rfl rfl _ _ G ?_;clear G)|(refine bP rfl _ _ _ rfl _ _ rfl rfl _ _ a1 ?_;clear a1));go_roundg X;exact⟨A5,c5,y++[k],B7,d7,Q++[o],k+1,T.set o ((k:Int)+1),r.tail.tail,by go_num,by rw[a2],by rw[a2],by omega,by rw[a2];omega,by rw[a2];exact bt,by rw[a2];exact bu,bv,br,bs,Jt,by omega⟩;omega
   .have bq:decide (0<v)=false:=(by simpa using bc);go_wp2;go_roundg X;exact⟨A,c,y,B,d,Q,k+1,T,r.tail.tail,by go_num,rfl,rfl,by omega,by omega,V,I,J,ah (TI HP.out),lZ,K,by omega⟩;omega
  case inl=>
   subst h0;have hd:decide ((k:Int)<8)=false:=(by simp;omega);obtain⟨z,hz⟩:=eX' wr.heap.size;have bh:Hid (∀b,aK A=some b->b<z):=ah (λb s=>by rw[hz];exact(Own.lt HO.out b s).2);have bi:Hid (∀b,aK B=some b->b<z):=ah (λb s=>by rw[hz];exact(Own.lt HI.out b s).2);have c4:m<z:=(by rw[hz];omega);have bx:z<=wr.heap.size:=Nat.le_of_eq hz;clear hz;go_wp2;go_loopg[5,10] 6 (λgh s5 bz wx=>LoW w g m z A c y B d Q T gh s5 bz wx);exact⟨none,0,[],0,r,by go_num,rfl,by omega,by simp,ah (Own.nil_ _ _ _ _),HO,HI,HU,ah ⟨rfl,λj h=>by simp at h⟩,O,cO,bx⟩;obtain⟨C,e,wn,q,r2,rfl,rfl,c6,c7,HW,a4,nX,ac,HA,O,cO,c8⟩:=hrel;rcases Nat.eq_zero_or_pos gk with h0|b6
   case inr=>
    obtain⟨X,rfl⟩:=gS' gk;have hd:decide ((q:Int)<6)=true:=(by simp;omega);obtain⟨t9,av⟩:∃x,T[q]? =some x:=⟨_,List.getElem?_eq_getElem (by have:=ac.out.1;omega)⟩;have gT:=(ac.out.2 q t9 av).1;have Rt:m<wr.heap.size:=(by omega);have c9:=kR r2 (n:=4) (by decide);go_upto_region 15 with fail;refine region_xk [g] [([0,1,2,3],4)] [5,6] (by kernel_rfl) (by kernel_rfl) ?_;refine G8 (by repeat(first|exact jO.nil|exact jd.zero|apply jd.succ|apply jO.cons)) (by repeat(first|exact jd.zero|apply jd.succ)) ?_;have rT:∀yy:KpW [g] wr.drew,yy.w.cell? ⟨m,q,none⟩=some (.int .i64 t9):=λyy=>(yy.h.cell ⟨m,q,none⟩ Rt (by simp;omega)).trans gT
    repeat(go_big_quiet_step(fail))
    refine wpQuiet_nil ?_;clear rT;go_wp2_with fail;refine(sS w wr.drew g r2 4 (by decide) (by decide) (O.out.kp (M:=[]) (Kp.dN eR'.fQ) (by simp)) cO.out.fQ).mono ?_;rintro e H⟨rfl,Z,F,a0⟩;have lZ:=ah Z;have K:=ah a0;have ad:Hid (Ext wr wr.drew):=ah eR'.fQ;have D:Hid (dZ H z C wn.length e wn):=ah (Own.kp (Own.ext HW.out ad.out) F (λb s=>by have:=(Own.lt HW.out b s).1;simp;omega));have V:Hid (dZ H (m+1) A y.length c (lkS y)):=ah (Own.kp (Own.ext a4.out ad.out) F (λb s=>by have:=(Own.lt a4.out b s).1;simp;omega));have I:Hid (aB H (m+1) B y.length d (owI Q)):=ah (Own.kp (Own.ext nX.out ad.out) F (λb s=>by have:=(Own.lt nX.out b s).1;simp;omega));have J:Hid (UAt H m T):=ah ((ac.out.kp (M:=[]) (Kp.dN ad.out) (by simp)).kp F (by simp;omega));have bp:wr.heap.size<=H.heap.size:=F.size
    have ae:Hid (0<=t9/\t9<=8/\T.getD q 0=t9):=ah (by
     have h1:=HP.out.2.2.1 q (by omega);have h2:T.getD q 0=t9:=(by rw[List.getD_eq_getElem?_getD,av];rfl);rw[h2]at h1
     exact⟨h1.1,h1.2,h2⟩)
    have Ul:=ae.out.1;have Um:=ae.out.2.1;generalize dK 4 r2=v4 at*;have ca:Hid (wn.length=q):=ah HA.out.1;go_wp2_with fail;refine Je F ?_;refine Gq (by repeat(first|exact jO.nil|exact jd.zero|apply jd.succ|apply jO.cons)) ?_
    repeat(go_big_quiet_step(fail))
    refine wpQuiet_nil ?_;obtain⟨R,bA⟩:∃R:Nat,t9+v4=R:=⟨(t9+v4).toNat,by omega⟩;rw[bA];clear Z F a0 HW a4 nX ac O cO gT av;by_cases h7:7<R
    .have bB:decide ((7:Int)<(R:Int))=true:=(by simp;omega);have a:Ext H (H.alloc (.cells #[.string (sB [])] 9)):=eR'.aA _;obtain⟨C5,e5,E,G,t,f⟩:=vU D.out [] (by omega) (by omega);have N:Kp (aK C).toList (H.alloc (.cells #[.string (sB [])] 9)) E:=Kp.qg f (by intro b s;simp[s]);have jS:Hid (Src w E g r2.tail):=ah ((lZ.out.kp (M:=[]) (Kp.dN a) (by simp)).kp N (by simp only[Option.mem_toList];intro e;have:=(Own.lt D.out g e).1;omega));have bg:Hid (Ext w E):=ah (dP (K.out.trans' a) f (λk hk=>by have:=(Own.lt D.out k hk).1;have:=HG.out;omega));have aZ:Hid (dZ E (m+1) A y.length c (lkS y)):=ah (Own.kp (Own.ext V.out a) N (λb s P=>by simp only[Option.mem_toList]at P;have:=(Own.lt D.out b P).1;have:=bh.out b s;omega));have iM:Hid (aB E (m+1) B y.length d (owI Q)):=ah (Own.kp (Own.ext I.out a) N (λb s P=>by simp only[Option.mem_toList]at P;have:=(Own.lt D.out b P).1;have:=bi.out b s;omega));have S:Hid (UAt E m T):=ah ((J.out.kp (M:=[]) (Kp.dN a) (by simp)).kp N (by simp only[Option.mem_toList];intro e;have:=(Own.lt D.out m e).1;omega));have vJ:H.heap.size<=E.heap.size:=Nat.le_trans a.b.size f.size;have aw:=ah t;have ax:Hid (AwP T (q+1) (wn++[[]])):=ah (J3 HA.out (kj:=(R:Int)) (by rw[ae.out.2.2];omega) (by rw[pP' (by omega)]));have az:=ah G;clear D V I J lZ K t f N a G;go_wp2_with(at_builtin;refine bP rfl _ _ _ rfl _ _ rfl rfl _ _ az.out ?_);go_roundg X;exact⟨C5,e5,wn++[[]],q+1,r2.tail,by go_num,by simp,by omega,by simp;omega,by simpa using aw,aZ,iM,S,ax,jS,bg,by omega⟩;omega
    .have bB:decide ((7:Int)<(R:Int))=false:=(by simp;omega);have ao:=λW=>letter (cs:=[97,98,99,100,101,102,103,104]) (i:=R) (by simp only[List.length_cons,List.length_nil];omega) W
     rw[J4 R (by omega)]at ao;have a:Ext H (H.alloc (.cells #[.string (sB [97+(R:Int)])] 9)):=eR'.aA _;obtain⟨C5,e5,E,G,t,f⟩:=vU D.out [97+(R:Int)] (by omega) (by omega);have N:Kp (aK C).toList (H.alloc (.cells #[.string (sB [97+(R:Int)])] 9)) E:=Kp.qg f (by intro b s;simp[s]);have jS:Hid (Src w E g r2.tail):=ah ((lZ.out.kp (M:=[]) (Kp.dN a) (by simp)).kp N (by simp only[Option.mem_toList];intro e;have:=(Own.lt D.out g e).1;omega));have bg:Hid (Ext w E):=ah (dP (K.out.trans' a) f (λk hk=>by have:=(Own.lt D.out k hk).1;have:=HG.out;omega));have aZ:Hid (dZ E (m+1) A y.length c (lkS y)):=ah (Own.kp (Own.ext V.out a) N (λb s P=>by simp only[Option.mem_toList]at P;have:=(Own.lt D.out b P).1;have:=bh.out b s;omega));have iM:Hid (aB E (m+1) B y.length d (owI Q)):=ah (Own.kp (Own.ext I.out a) N (λb s P=>by simp only[Option.mem_toList]at P;have:=(Own.lt D.out b P).1;have:=bi.out b s;omega));have S:Hid (UAt E m T):=ah ((J.out.kp (M:=[]) (Kp.dN a) (by simp)).kp N (by simp only[Option.mem_toList];intro e;have:=(Own.lt D.out m e).1;omega));have vJ:H.heap.size<=E.heap.size:=Nat.le_trans a.b.size f.size;have aw:=ah t;have ax:Hid (AwP T (q+1) (wn++[[97+(R:Int)]])):=ah (J3 HA.out (kj:=(R:Int)) (by rw[ae.out.2.2];omega) (by rw[nN' (by omega)]));have az:=ah G;clear D V I J lZ K t f N a G;go_wp2_with(at_builtin;refine bP rfl _ _ _ rfl _ _ rfl rfl _ _ az.out ?_);go_roundg X;exact⟨C5,e5,wn++[[97+(R:Int)]],q+1,r2.tail,by go_num,by simp,by omega,by simp;omega,by simpa using aw,aZ,iM,S,ax,jS,bg,by omega⟩;omega
   case inl=>
    subst h0;obtain rfl:q=6:=by omega
    have HF:=ah cO.out;have HK:=ah (dZ.sts a4.out);have HN:=ah (aB.ints nX.out);have HV:=ah (dZ.sts HW.out);have bE:Hid (∀x∈lkS y,IsB x):=ah (TM (λq hq=>by obtain⟨i,hi,rfl⟩:=List.mem_iff_getElem.1 hq;have:=(HP.out.2.2.2 i hi (by have:=HP.out.1;omega)).1;omega));have bF:Hid (∀x∈wn,IsB x):=ah (TN HA.out (by decide) HP.out.2.2.1);have HE:=ah (TJ HP.out HA.out);go_wp2_with fail;refine(IY wr (bk.out.ext HF.out)).mono ?_;rintro e w4⟨rfl,aD⟩;have bH:=ah (HF.out.trans' aD);have eH:=ah aD;clear aD a4 nX HW O cO;go_wp2_with fail;refine(zJ (lkS y) (owI Q) wn A _ c B _ d C _ _ w4 (HK.out.ext eH.out) (HN.out.ext eH.out) (HV.out.ext eH.out) bE.out bF.out (by simp;omega) (by omega)).mono ?_;rintro e E⟨B5,bK,d5,rfl,aE,bj⟩;rw[HE.out]at aE;obtain rfl:bK=0:=by have:=aE.len.1;simpa using this
    have hx:=bH.out.trans' bj;clear aE bj;go_wp2;go_ret;exact⟨rfl,hx⟩
end Go.Proofs.YtpmgophlhmcogaaGreatDoor
namespace Go.Proofs.YtpmgophlhmcogaaGreatDoor.lawAAscending
set_option maxRecDepth 100000
open Go.ChangeShapes Go.WideShapes Go.ChangeAt Go.RowKit
theorem contract(H:Type)(enc:TypeId×Value->H)(W:World)(c:Nat)(args:Array Value)(m D:List (DataW H))(a:List MemPlace)
 (b:∀(j:Nat)t v,Tryz.f4.params[j]? =some t->args[j]? =some v->Value.okWide prog W .any c t v)
 (n:DataW.Whole enc prog Tryz.f4.params.toList Rows.auditAscendingSpec.vars false W args.toList m D a) (E:laidMetH prog Rows.auditAscendingRow.laid W):
 Calls prog 4 args W λe W'=>∃v,e=.returned v/\Rows.auditAscendingSpec.post enc prog Tryz.f4 false true false false W args v W':=by
 have d:=n;obtain⟨p,q,f,o,i,r,s⟩:=n;have k:DataW.TrodAll enc prog W 0 (λ_=>true) true Tryz.f4.params.toList args.toList m p:=f;rw[params4]at k b;obtain⟨l,F,G,w,I,J,g,rfl,rfl,x,y⟩:=trodAll_cons k;obtain⟨rfl,rfl,rfl⟩:=trodAll_nil y;obtain rfl:args= #[l]:=by cases args;simp_all
 obtain⟨rfl,rfl⟩:=trodVars_none o;obtain⟨z,A,B,C,rfl,h⟩:=D5 (b 0 22 l rfl rfl) x;refine(TF C z A B W h (J8 E)).mono λe W'⟨i,hx⟩=>?_
 subst i;exact⟨_,rfl,law_post rfl (by kernel_rfl) (by rw[params4];intro t ht;simp only[List.mem_cons,List.not_mem_nil,or_false]at ht;rcases ht with rfl<;>exact⟨by kernel_rfl,of_decide_eq_true (by kernel_rfl)⟩) d hx rfl rfl⟩
theorem door_met(os:Os)(args:Array Value):laidMetH prog Rows.auditAscendingRow.laid ((World.doorLaid prog 400 os).forCall (λ_ _=>0) ⟨#[],args,[]⟩).memory:=
 laidMetH_of_parts3 (fuel:=8) (laidMet_of_run' 8 (by kernel_rfl) (by kernel_rfl)) (by kernel_rfl) (by kernel_rfl)
theorem lifted(os:Os)(a:os.Started)(H:Type)(enc:TypeId×Value->H):
 ReturnsInHanded {} Tryz.checked os 4 .any (λw args=>(Rows.auditAscendingSpec.pre enc prog Tryz.f4 [] false w args/\laidMetH prog Rows.auditAscendingRow.laid w)/\sizedMet enc prog Tryz.f4 (OpenSpec.ofChange Rows.auditAscendingSpec) false w args)
  (Rows.auditAscendingSpec.post enc prog Tryz.f4 false true false false):=by
 refine returnsInHanded_of_change_and (C:=Tryz.checked) (X:=λw _=>laidMetH prog Rows.auditAscendingRow.laid w) (λ_ _ _ f h=>h.of_heap f) own a (by kernel_rfl) func4
  (ChangeSpec.witness_shaped (enc:=enc) (C:=Tryz.checked) (os:=os) (X:=λw _=>laidMetH prog Rows.auditAscendingRow.laid w) false (World.doorLaid prog 400 os) #[.slice none 0 0] 8 rfl (World.shaped_of_RefB (by kernel_rfl) (by kernel_rfl)) (by kernel_rfl) (by kernel_rfl) (by kernel_rfl) (door_met os _)) ?_
 intro W c args g i b d j _ _ k _;exact contract H enc W c args g i b d j k
theorem CY:joinedFacts Tryz.pinned.checked.prog 4 Tryz.f4 Rows.auditAscendingSpec Rows.auditAscendingRow=true:=by kernel_rfl
theorem CZ:Tryz.pinned.checked.prog.funcNamed Rows.auditAscendingRow.func=some 4:=by kernel_rfl
theorem said:Rows.AuditAscendingSaid:=
 OpenClaim.holds_of_wide 4 Tryz.f4 rfl rfl rfl rfl rfl rfl rfl ⟨rfl,rfl,rfl,rfl,rfl⟩ rfl rfl rfl rfl rfl CZ func4 CY
  (of_decide_eq_true (by kernel_rfl)) (by unfold Func.isWrapper;first|(rw[pP' (by decide+kernel)];kernel_rfl)|(rw[nN' (by decide+kernel)];exact⟨rfl,rfl⟩))
  (λc a H b _=>lifted c a H b)
theorem plain(f:FuncId)(a:Func)(c:Tryz.pinned.checked.prog.funcNamed "namedesk/namedesklaw34.AuditAscending" =some f)(b:Tryz.pinned.checked.prog.funcs[f]? =some a):
 false=Tryz.pinned.checked.prog.looks []/\∀(j:Nat)t,a.params[j]? =some t->Tryz.pinned.checked.prog.wantsStandIn t=false:=by
 obtain rfl:f=4:=Option.some.inj ((show prog.funcNamed "namedesk/namedesklaw34.AuditAscending" =some 4 by kernel_rfl).symm.trans c) |>.symm;obtain rfl:a=Tryz.f4:=(Option.some.inj (func4.symm.trans b)).symm;refine⟨by kernel_rfl,λj t ht=>?_⟩;rw[params4]at ht;have ht:=Array.mem_of_getElem? ht;simp only[List.mem_toArray,List.mem_cons,List.not_mem_nil,or_false]at ht;rcases ht with rfl
 .exact(show prog.wantsStandIn 22=false by kernel_rfl)
theorem card:Rows.AuditAscendingCardSaid:=
 Claim7.holds_tied_plain_at .later [] _ _ _ _ said (λ_ h=>by cases h) (by kernel_rfl) (λ_ h=>by cases h) auditAscending_row_tie rfl ⟨rfl,rfl⟩ (by kernel_rfl) rfl plain (by kernel_rfl)
#print axioms card
end Go.Proofs.YtpmgophlhmcogaaGreatDoor.lawAAscending
