/- Part Bw19. -/
import Derived.Test.YtljilcbobhmkgaaGreatDoorBw18
open Go.Proofs.Tryz
namespace Go.Proofs.YtljilcbobhmkgaaGreatDoor
set_option maxHeartbeats 25600000
set_option maxRecDepth 100000
open Go.RowKit
variable (t:TV)(T:ak)(l:List Int)(A:Option Addr)(n c:Nat)(w:World)
def iO(l:List Int)(i:Int):Int:=if i<0 then -1 else if(l.length:Int)<=i then -1 else l.getD i.toNat 0
theorem Jq(i:Int)(w:World)(h:aC w ⟨A,n,c⟩ l):
 cW' 264 #[.slice A n c,.int .i64 i] w (.int .i64 (iO l i)):=by
 obtain⟨m,f,p⟩:=h.len;subst m;by_cases a:i<0
 .have d:Hid (iO l i= -1):=ah (by rw[iO,pP' a]);have q:decide (i<0)=true:=gQ a;go_enter func264,ntmps264;go_wp2;go_ret;exact⟨aU d.out.symm,rfl⟩
 have q:decide (i<0)=false:=iW a;obtain⟨i,rfl⟩:=iN' i;by_cases g:l.length<=i
 .have d:Hid (iO l i= -1):=ah (by rw[iO,nN' a,pP' (by omega)]);have r:decide (l.length<=i)=true:=gQ g;have s:decide ((l.length:Int)<=(i:Int))=true:=gQ (by omega);go_enter func264,ntmps264;go_wp2;go_ret;exact⟨aU d.out.symm,rfl⟩
 have r:decide (l.length<=i)=false:=iW g;have s:decide ((l.length:Int)<=(i:Int))=false:=iW (by omega);have j:i<l.length:=by omega
 have t:=z0' i;have y:(i:Int)<(l.length:Int):=by omega
 obtain⟨b,o,z,B⟩:=h.at_ j;subst z;have d:Hid (iO l i=l[i]):=ah (by rw[iO,nN' a,nN' (by omega),Int.toNat_natCast,getD_lt l i 0 j]);generalize l[i]=x at*;go_enter func264,ntmps264;go_wp2;go_ret;exact⟨aU d.out.symm,rfl⟩
theorem ES(c a d:Int)(w:World):cW' 305 #[.int .i64 c,.int .i64 a,.int .i64 d] w (.bool (decide (a<=c)&&decide (c<=d))):=by
 obtain⟨f,h⟩:=eY' (decide (a<=c));obtain⟨g,i⟩:=eY' (decide (c<=d));have j:Hid ((decide (a<=c)&&decide (c<=d))=(f&&g)):=ah (by rw[h,i]);cases f<;>cases g
 all_goals
  go_enter func305,ntmps305;go_wp2;go_ret;exact⟨aO j.out.symm,rfl⟩
def inB(lo hi c:Int):Bool:=decide (lo<=c)&&decide (c<=hi)
theorem Zy(a d:Int)(w:World)(h:aC w ⟨A,n,c⟩ l):
 cE' 306 #[.slice A n c,.int .i64 a,.int .i64 d] w (.bool (l.any (inB a d))):=by
 obtain⟨B,t,C⟩:=h.len;subst B;have D:=ah h;obtain⟨V,s⟩:=eX' (l.any (inB a d));have y:Hid (V=(l.drop 0).any (inB a d)):=s;rw[<- s];clear s h;go_enter func306,ntmps306;go_wp2;go_loopw[11] (λi wr=>∃(k:Nat),k<=l.length/\i=.int .i64 k/\Hid (V=(l.drop k).any (inB a d))/\Ext w wr) (λi _=>l.length-(intOf i).toNat);exact⟨0,zl' _,rfl,y,eR'⟩;obtain⟨k,F,rfl,p,f⟩:=hrel;clear y;by_cases j:k<l.length
 .obtain⟨b,o,E,G⟩:=(D.out.ext f).at_ j;subst E;have z:=ah (drop_at l k j);generalize l[k]=x at*;have q:=aI p (show _=(inB a d x||(l.drop (k+1)).any (inB a d))from by rw[z.out];rfl);clear p z;cases r:inB a d x
  .have m:Hid (V=(l.drop (k+1)).any (inB a d)):=ah (by rw[q.out,r];rfl);have g:(decide (a<=x)&&decide (x<=d))=false:=r;clear q;go_wp2_with(go_at_call 305;refine(ES _ _ _ _).mono ?_;rintro e w'⟨rfl,rfl⟩;rw[g]);go_roundw;exact⟨k+1,by omega,by go_num,m,f⟩;simp[intOf];omega
  .have m:Hid (V=true):=ah (by rw[q.out,r];rfl);have g:(decide (a<=x)&&decide (x<=d))=true:=r;clear q;go_wp2_with(go_at_call 305;refine(ES _ _ _ _).mono ?_;rintro e w'⟨rfl,rfl⟩;rw[g]);go_ret;exact⟨aO m.out.symm,f⟩
 .have m:Hid (V=false):=ah (by rw[p.out,bM l k (by omega)];rfl);clear p;go_wp2;go_ret;exact⟨aO m.out.symm,f⟩
theorem Zw(ht:aS w t T)(B:nH T.scr)(h:aC w ⟨A,n,c⟩ l):
 cE' 304 #[t.v,.slice A n c] w (.bool (l.any (nG T))):=by
 obtain⟨L,C,M⟩:=h.len;subst L;have r:=cO w t;have N:=ah h;have O:=ah ht;obtain⟨V,y⟩:=eX' (l.any (nG T));have D:Hid (V=(l.drop 0).any (nG T)):=y;rw[<- y];clear y h ht;go_enter func304,ntmps304;go_wp2;go_loopw[10] (λi wr=>∃(k:Nat),k<=l.length/\i=.int .i64 k/\Hid (V=(l.drop k).any (nG T))/\Ext (tW' w t) wr) (λi _=>l.length-(intOf i).toNat);exact⟨0,zl' _,rfl,D,eR'⟩;obtain⟨k,W,rfl,m,d⟩:=hrel;have q:=ah (r.trans' d);have X:∀p:Nat,wr.cell? ⟨w.heap.size,p,none⟩=t.v.cells[p]? :=aP d;clear D;by_cases g:k<l.length
 .obtain⟨b,o,P,Y⟩:=(N.out.ext q.out).at_ g;subst P;have E:=ah (drop_at l k g);generalize l[k]=x at*;have F:=aI m (show _=(nG T x||(l.drop (k+1)).any (nG T))from by rw[E.out];rfl);have G:Hid (cE' 214 #[t.v,.int .i64 x] wr (.int .i64 (iY T x))):=ah (Iy t T x wr (O.out.aB q.out) B);obtain⟨H,Q⟩:=eY' (iY T x==7);obtain⟨I,R⟩:=eY' (iY T x==8);obtain⟨J,S⟩:=eY' (iY T x==6);have a:Hid (V=(H||I||J||(l.drop (k+1)).any (nG T))):=ah (by rw[F.out,nG,Q,R,S]);generalize iY T x=s at*;clear m E F;obtain⟨K,rfl⟩:=eX' wr;cases H<;>cases I<;>cases J
  case false.false.false=>
   have j:Hid (V=(l.drop (k+1)).any (nG T)):=ah (by rw[a.out];rfl);clear a;go_wp2_with fail;refine(G.out).mono ?_;rintro e U⟨rfl,f⟩;go_wp2;go_roundw;exact⟨k+1,by omega,by go_num,j,d.trans' f⟩;simp[intOf];omega
  all_goals
   have j:Hid (V=true):=ah (by rw[a.out];rfl);clear a;go_wp2_with fail;refine(G.out).mono ?_;rintro e U⟨rfl,f⟩;go_wp2;go_ret;exact⟨aO j.out.symm,q.out.trans' f⟩
 .have j:Hid (V=false):=ah (by rw[m.out,bM l k (by omega)];rfl);clear m;go_wp2;go_ret;exact⟨aO j.out.symm,q.out⟩
theorem EU{T:ak}(h:bV T=true):dK T=true:=by
 simp only[bV,aT]at h;exact h.1.1.1.1.1.1.1.2
theorem Nl(i:Int)(w:World)(ht:aS w t T)(h:aC w ⟨A,n,c⟩ l):
 cE' 266 #[t.v,.slice A n c,.int .i64 i] w (.bool (vM T l i)):=by
 obtain⟨hn,aL,bb⟩:=h.len;subst hn;have m:=cO w t;have HI:=ah h;have HT:=ah ht;by_cases c1:i<0
 .have E:Hid (vM T l i=false):=ah (by rw[vM,EY c1];rfl);have d1:decide (i<0)=true:=gQ c1;clear ht h;go_enter func266,ntmps266;go_wp2;go_ret;exact⟨aO E.out.symm,m⟩
 have d1:decide (i<0)=false:=iW c1;obtain⟨i,rfl⟩:=iN' i;by_cases c2:l.length<=i
 .have E:Hid (vM T l i=false):=ah (by rw[vM,EX (by omega)];rfl);have d2:decide (l.length<=i)=true:=gQ c2;have d3:decide ((l.length:Int)<=(i:Int))=true:=gQ (by omega);clear ht h;go_enter func266,ntmps266;go_wp2;go_ret;exact⟨aO E.out.symm,m⟩
 have d2:decide (l.length<=i)=false:=iW c2;have d3:decide ((l.length:Int)<=(i:Int))=false:=iW (by omega);have F:=ah (rU t T l A l.length c _ (ht.aB m) (h.ext m));by_cases Q:aV T l=0
 case neg=>
  have E:Hid (vM T l i=false):=ah (by rw[vM,EO Q];rfl);have e1:(aV T l != 0)=true:=bN' Q;generalize aV T l=oe at*;clear Q ht h;go_enter func266,ntmps266;go_wp2_with fail;refine(F.out).mono ?_;rintro e f⟨rfl,a⟩;go_wp2;go_ret;exact⟨aO E.out.symm,m.trans' a⟩
 have O:i<l.length:=by omega
 have bh:=z0' i;have bi:(i:Int)<(l.length:Int):=by omega
 have aa:nH T.scr:=Qj (EU (JD Q).1);have HB:Hid (vM T l i=ni T l i):=ah (by rw[vM,D7 Q O];rfl);rw[Q]at F;obtain⟨b,o,ha,R⟩:=h.at_ O;subst ha;have HD:Hid (l.getD i 0=l[i]):=ah (getD_lt l i 0 O)
 have B:Hid (∀j,j<l.length->∃y,l.getD j 0=y/\w.cell? ⟨b,o+j,none⟩=some (.int .i64 y)):=ah (λj hj=>by
  obtain⟨b',o',dW,h2⟩:=HI.out.at_ hj;injection dW with dW;injection dW with e1 e2;subst e1 e2
  exact⟨_,getD_lt l j 0 hj,h2⟩)
 have L:Hid (∀y v,iY T y=v->∀w',Ext w w'->cE' 214 #[t.v,.int .i64 y] w' (.int .i64 v)):=ah (λy v hv w' r=>by
  have J:=Iy t T y w' (HT.out.aB r) aa;rw[hv]at J
  exact J)
 generalize l[i]=x at*;obtain⟨V,hV⟩:=eX' (vM T l i)
 have E:Hid (V=if(x==183)=true then zC l i else if(x==885)=true then hasB T l ((i:Int)+1) 4 else if(x==1523||x==1524)=true then hasB T l ((i:Int)-1) 11
  else if(x==12539)=true then l.any (nG T)else if sW x=true then !l.any sZ else if sZ x=true then !l.any sW else true):=ah (by rw[hV,HB.out];unfold ni;rw[HD.out])
 rw[<- hV];have TQ:∀(q:Int),iO l q=if(decide (0<=q)&&decide (q<(l.length:Int)))=true then l.getD q.toNat 0 else -1:=λq=>by
  unfold iO;by_cases h1:q<0
  .rw[pP' h1,iW (p:=0<=q) (by omega)];rfl
  .rw[nN' h1,gQ (p:=0<=q) (by omega)];by_cases h2:(l.length:Int)<=q
   .rw[pP' h2,iW (p:=q<(l.length:Int)) (by omega)];rfl
   .rw[nN' h2,gQ (p:=q<(l.length:Int)) (by omega)];rfl
 have G:=ah TQ;clear hV HB HD ht h c1 c2 Q TQ;by_cases x1:x=183
 .subst x1;have D:Hid (V=zC l i):=E
  have K:Hid (V=(iO l ((i:Int)-1)==108&&iO l ((i:Int)+1)==108)):=ah (by
   rw[D.out,zC,G.out,G.out];by_cases p1:0<i
   .rw[gQ p1,gQ (p:=(0:Int)<=(i:Int)-1) (by omega),gQ (p:=(i:Int)-1<(l.length:Int)) (by omega),show((i:Int)-1).toNat=i-1 from by omega];by_cases p2:i+1<l.length
    .rw[gQ p2,gQ (p:=(0:Int)<=(i:Int)+1) (by omega),gQ (p:=(i:Int)+1<(l.length:Int)) (by omega),show((i:Int)+1).toNat=i+1 from by omega];simp
    .rw[iW p2,iW (p:=(i:Int)+1<(l.length:Int)) (by omega)];simp
   .rw[iW p1,iW (p:=(0:Int)<=(i:Int)-1) (by omega)];simp)
  obtain⟨y1,S⟩:=eY' (iO l ((i:Int)-1));obtain⟨y2,U⟩:=eY' (iO l ((i:Int)+1));have ar:Hid (∀w',Ext w w'->cW' 264 #[.slice (some ⟨b,o,none⟩) l.length c,.int .i64 ((i:Int)-1)] w' (.int .i64 y1)):=ah (λw' r=>by have J:=Jq l (some ⟨b,o,none⟩) l.length c ((i:Int)-1) w' (HI.out.ext r);rw[S]at J;exact J);have av:Hid (∀w',Ext w w'->cW' 264 #[.slice (some ⟨b,o,none⟩) l.length c,.int .i64 ((i:Int)+1)] w' (.int .i64 y2)):=ah (λw' r=>by have J:=Jq l (some ⟨b,o,none⟩) l.length c ((i:Int)+1) w' (HI.out.ext r);rw[U]at J;exact J);obtain⟨I,M⟩:=eY' (y1==108);obtain⟨b2,k2⟩:=eY' (y2==108);have C:Hid (V=(I&&b2)):=ah (by rw[K.out,S,U,M,k2]);clear E D K S U G B L;cases I<;>cases b2
  all_goals
   go_enter func266,ntmps266;go_wp2_with fail;refine(F.out).mono ?_;rintro e f⟨rfl,a⟩;have H:=ah a;have d:=ah (m.trans' a);clear a F;have gX:f.cell? ⟨b,o+i,none⟩=some (.int .i64 183):=aY (bg d.out) R;have jY:∀p:Nat,f.cell? ⟨w.heap.size,p,none⟩=t.v.cells[p]? :=aP H.out
   go_wp2_with(first
    |(go_at_call 264;with_reducible refine(ar.out _ d.out).mono ?_;rintro e w'⟨rfl,rfl⟩)
    |(go_at_call 264;with_reducible refine(av.out _ d.out).mono ?_;rintro e w'⟨rfl,rfl⟩))
   go_ret;exact⟨aO C.out.symm,d.out⟩
 by_cases x2:x=885
 .subst x2;have D:Hid (V=hasB T l ((i:Int)+1) 4):=E;clear E x1 G;by_cases p2:i+1<l.length
  .obtain⟨y,hy,W⟩:=B.out (i+1) p2;obtain⟨s,X⟩:=eY' (iY T y);obtain⟨I,M⟩:=eY' (s==4)
   have C:Hid (V=I):=ah (by
    rw[D.out,hasB,gQ (p:=(0:Int)<=(i:Int)+1) (by omega),gQ (p:=(i:Int)+1<(l.length:Int)) (by omega),show((i:Int)+1).toNat=i+1 from by omega,hy,X,M];rfl)
   have d5:decide ((i:Int)+1<(l.length:Int))=true:=gQ (by omega);have bk:(0:Int)<=(i:Int)+1:=(by omega);have bl:(i:Int)+1<(l.length:Int):=(by omega);have Y:=ah (L.out y s X);clear D hy X p2 B L;go_enter func266,ntmps266;go_wp2_with fail;refine(F.out).mono ?_;rintro e f⟨rfl,a⟩;have H:=ah a;have d:=ah (m.trans' a);clear a F;have gX:f.cell? ⟨b,o+i,none⟩=some (.int .i64 885):=aY (bg d.out) R;have jY:∀p:Nat,f.cell? ⟨w.heap.size,p,none⟩=t.v.cells[p]? :=aP H.out;have rT:∀z:aj f,∀p:Nat,z.w.cell? ⟨w.heap.size,p,none⟩=t.v.cells[p]? :=λz=>aP (H.out.trans' z.h)
   have rY:∀z:aj f,z.w.cell? ⟨b,o+(i+1),none⟩=some (.int .i64 y):=λz=>aY (bg (d.out.trans' z.h)) W
   have Z:Hid (∀z:aj f,cE' 214 #[t.v,.int .i64 y] z.w (.int .i64 s)):=ah (λz=>Y.out z.w (d.out.trans' z.h));cases I
   all_goals
    go_wp2_with fail;refine rX' ?_
    repeat(go_big_quiet_step(first|(go_at_call 214;with_reducible exact aQ (Z.out _))))
    refine wpQuiet_nil ?_;rintro _⟨z,rfl⟩;clear rT rY;go_wp2;go_ret;exact⟨aO C.out.symm,d.out.trans' z.h⟩
  .have C:Hid (V=false):=ah (by rw[D.out,hasB,iW (p:=(i:Int)+1<(l.length:Int)) (by omega)];simp);have d5:decide ((i:Int)+1<(l.length:Int))=false:=iW (by omega);clear D p2 B L;go_enter func266,ntmps266;go_wp2_with fail;refine(F.out).mono ?_;rintro e f⟨rfl,a⟩;have H:=ah a;have d:=ah (m.trans' a);clear a F;have gX:f.cell? ⟨b,o+i,none⟩=some (.int .i64 885):=aY (bg d.out) R;have jY:∀p:Nat,f.cell? ⟨w.heap.size,p,none⟩=t.v.cells[p]? :=aP H.out;go_wp2_with fail;refine rX' ?_
   repeat(go_big_quiet_step(fail))
   refine wpQuiet_nil ?_;rintro _⟨z,rfl⟩;go_wp2;go_ret;exact⟨aO C.out.symm,d.out.trans' z.h⟩
 by_cases x3:x=1523\/x=1524
 .have D:Hid (V=hasB T l ((i:Int)-1) 11):=ah (by rw[E.out];rcases x3 with rfl|rfl<;>rfl);clear E x1 x2 G;rcases Nat.eq_zero_or_pos i with hz|P
  .have C:Hid (V=false):=ah (by rw[D.out,hasB,iW (p:=(0:Int)<=(i:Int)-1) (by omega)];rfl);have d5:decide (0<i)=false:=iW (by omega);clear D hz B L;rcases x3 with rfl|rfl
   all_goals
    go_enter func266,ntmps266;go_wp2_with fail;refine(F.out).mono ?_;rintro e f⟨rfl,a⟩;have H:=ah a;have d:=ah (m.trans' a);clear a F;have gX:f.cell? ⟨b,o+i,none⟩=some (.int .i64 _):=aY (bg d.out) R;have jY:∀p:Nat,f.cell? ⟨w.heap.size,p,none⟩=t.v.cells[p]? :=aP H.out;go_wp2_with fail;refine rX' ?_
    repeat(go_big_quiet_step(fail))
    refine wpQuiet_nil ?_;rintro _⟨z,rfl⟩;go_wp2;go_ret;exact⟨aO C.out.symm,d.out.trans' z.h⟩
  .obtain⟨j,hj⟩:∃j,i=j+1:=⟨i-1,by omega⟩;obtain⟨y,hy,W⟩:=B.out j (by omega);obtain⟨s,X⟩:=eY' (iY T y);obtain⟨I,M⟩:=eY' (s==11)
   have C:Hid (V=I):=ah (by
    rw[D.out,hasB,gQ (p:=(0:Int)<=(i:Int)-1) (by omega),gQ (p:=(i:Int)-1<(l.length:Int)) (by omega),show((i:Int)-1).toNat=j from by omega,hy,X,M];rfl)
   have d5:decide (0<i)=true:=gQ P;have b7:(i:Int)-1=(j:Int):=(by omega);have RG:=z0' j;have b8:(j:Int)<(l.length:Int):=(by omega);have Y:=ah (L.out y s X);clear D hy X P hj B L;rcases x3 with rfl|rfl
   all_goals
    go_enter func266,ntmps266;go_wp2_with fail;refine(F.out).mono ?_;rintro e f⟨rfl,a⟩;have H:=ah a;have d:=ah (m.trans' a);clear a F;have gX:f.cell? ⟨b,o+i,none⟩=some (.int .i64 _):=aY (bg d.out) R;have jY:∀p:Nat,f.cell? ⟨w.heap.size,p,none⟩=t.v.cells[p]? :=aP H.out;have rT:∀z:aj f,∀p:Nat,z.w.cell? ⟨w.heap.size,p,none⟩=t.v.cells[p]? :=λz=>aP (H.out.trans' z.h)
    have rY:∀z:aj f,z.w.cell? ⟨b,o+j,none⟩=some (.int .i64 y):=λz=>aY (bg (d.out.trans' z.h)) W
    have Z:Hid (∀z:aj f,cE' 214 #[t.v,.int .i64 y] z.w (.int .i64 s)):=ah (λz=>Y.out z.w (d.out.trans' z.h));cases I
    all_goals
     go_wp2_with fail;refine rX' ?_
     repeat(go_big_quiet_step(first|(go_at_call 214;with_reducible exact aQ (Z.out _))))
     refine wpQuiet_nil ?_;rintro _⟨z,rfl⟩;clear rT rY;go_wp2;go_ret;exact⟨aO C.out.symm,d.out.trans' z.h⟩
 by_cases x4:x=12539
 .subst x4;have D:Hid (V=l.any (nG T)):=E;have HK:Hid (∀w',Ext w w'->cE' 304 #[t.v,.slice (some ⟨b,o,none⟩) l.length c] w' (.bool (l.any (nG T)))):=ah (λw' r=>Zw t T l (some ⟨b,o,none⟩) l.length c w' (HT.out.aB r) aa (HI.out.ext r));clear E x1 x2 x3 G B L;go_enter func266,ntmps266;go_wp2_with fail;refine(F.out).mono ?_;rintro e f⟨rfl,a⟩;have H:=ah a;have d:=ah (m.trans' a);clear a F;have gX:f.cell? ⟨b,o+i,none⟩=some (.int .i64 12539):=aY (bg d.out) R;have jY:∀p:Nat,f.cell? ⟨w.heap.size,p,none⟩=t.v.cells[p]? :=aP H.out;go_wp2_with(go_at_call 304;refine(HK.out _ d.out).mono ?_;rintro e w2⟨rfl,N⟩);go_ret;exact⟨aO D.out.symm,d.out.trans' N⟩
 have e1:(x==183)=false:=by rw[aH];exact x1
 have e2:(x==885)=false:=by rw[aH];exact x2
 have e3:(x==1523)=false:=by rw[aH];exact λh=>x3 (.inl h)
 have e4:(x==1524)=false:=by rw[aH];exact λh=>x3 (.inr h)
 have e5:(x==12539)=false:=by rw[aH];exact x4
 have D:Hid (V=if inB 1632 1641 x=true then !l.any (inB 1776 1785)else if inB 1776 1785 x=true then !l.any (inB 1632 1641)else true):=ah (by rw[E.out,e1,e2,e3,e4,e5];rfl);have a1:Hid (∀lo O v,l.any (inB lo O)=v->∀w',Ext w w'->cE' 306 #[.slice (some ⟨b,o,none⟩) l.length c,.int .i64 lo,.int .i64 O] w' (.bool v)):=ah (λlo O v hv w' r=>by have J:=Zy l (some ⟨b,o,none⟩) l.length c lo O w' (HI.out.ext r);rw[hv]at J;exact J);obtain⟨v1,a2⟩:=eY' (l.any (inB 1632 1641));obtain⟨v2,a3⟩:=eY' (l.any (inB 1776 1785));have gJ:=ah (a1.out _ _ _ a2);have aE:=ah (a1.out _ _ _ a3);obtain⟨I,M⟩:=eY' (inB 1632 1641 x);obtain⟨b2,k2⟩:=eY' (inB 1776 1785 x);have K:Hid (V=if I=true then !v2 else if b2=true then !v1 else true):=ah (by rw[D.out,a2,a3,M,k2]);have K1:Hid ((decide (1632<=x)&&decide (x<=1641))=I):=M;have K2:Hid ((decide (1776<=x)&&decide (x<=1785))=b2):=k2;clear E D x1 x2 x3 x4 G B L a1 a2 a3 M k2;cases I<;>cases b2
 all_goals
  go_enter func266,ntmps266;go_wp2_with fail;refine(F.out).mono ?_;rintro e f⟨rfl,a⟩;have H:=ah a;have d:=ah (m.trans' a);clear a F;have gX:f.cell? ⟨b,o+i,none⟩=some (.int .i64 x):=aY (bg d.out) R;have jY:∀p:Nat,f.cell? ⟨w.heap.size,p,none⟩=t.v.cells[p]? :=aP H.out
  go_wp2_with(first
   |(go_at_call 305;with_reducible refine(ES x 1632 1641 _).mono ?_;rintro e w'⟨rfl,rfl⟩;rw[K1.out])
   |(go_at_call 305;with_reducible refine(ES x 1776 1785 _).mono ?_;rintro e w'⟨rfl,rfl⟩;rw[K2.out])
   |(go_at_call 306;with_reducible refine(gJ.out _ d.out).mono ?_;rintro e w2⟨rfl,N⟩)
   |(go_at_call 306;with_reducible refine(aE.out _ d.out).mono ?_;rintro e w2⟨rfl,N⟩))
  go_ret
  first|exact⟨aO K.out.symm,d.out.trans' N⟩|exact⟨aO K.out.symm,d.out⟩
theorem X6(ht:aS w t T)(h:aC w ⟨A,n,c⟩ l):
 cE' 209 #[t.v,.slice A n c] w (.tuple #[.int .i64 (jU T l).1,.int .i64 (jU T l).2]):=by
 obtain⟨E,_,_⟩:=h.len;subst E;have s:=ah ht;have x:=ah h;have b:=cO w t;go_enter func209,ntmps209;go_wp2_with fail;refine(rU t T l A _ c _ (s.out.aB b) (x.out.ext b)).mono ?_;rintro e J⟨rfl,p⟩;have F:=b.trans' p;by_cases f:aV T l=0
 .have y:Hid (∀k,k<l.length->vM T l (k:Int)=ni T l k):=ah (λk D=>by rw[vM,D7 f D];rfl);have z:Hid (jU T l=wQ T l (l.length-0) 0):=ah (by simp[jU,f]);rw[f];clear f;go_wp2;go_loopw[16] (λj wr=>∃(k:Nat),k<=l.length/\j=.int .i64 k/\Hid (jU T l=wQ T l (l.length-k) k)/\Ext (tW' w t) wr) (λj _=>l.length-(intOf j).toNat);exact⟨0,zl' _,rfl,z,p⟩;obtain⟨k,D,rfl,q,g⟩:=hrel;have a:=b.trans' g;have K:=bT' t g;by_cases B:k<l.length
  .have r:=aI q (show _=if ni T l k=true then wQ T l (l.length-(k+1)) (k+1)else((k:Int),(18:Int))from by
    rw[show l.length-k=(l.length-(k+1))+1 from by omega];rfl)
   have d:=y.out k B;clear q z;cases o:ni T l k
   .have i:=aI r (show _=((k:Int),(18:Int))from by rw[o];simp);have C:=ah (d.trans o);clear r o d;go_wp2_with(go_at_call 266;refine(Nl t T l A _ c k _ (s.out.aB a) (x.out.ext a)).mono ?_;rintro e G⟨rfl,m⟩;rw[C.out]);go_ret2;exact⟨by rw[i.out];rfl,a.trans' m⟩
   .have i:=aI r (show _=wQ T l (l.length-(k+1)) (k+1)from by rw[o];simp);have C:=ah (d.trans o);clear r o d;go_wp2_with(go_at_call 266;refine(Nl t T l A _ c k _ (s.out.aB a) (x.out.ext a)).mono ?_;rintro e G⟨rfl,m⟩;rw[C.out]);go_roundw;exact⟨k+1,by omega,by go_num,i,g.trans' m⟩;simp[intOf];omega
  .have i:=aI q (show _=((0:Int),(0:Int))from by rw[show l.length-k=0 from by omega];rfl);clear q z;go_wp2;go_ret2;exact⟨by rw[i.out];rfl,a⟩
 .have H:(aV T l==0)=false:=by rw[aH];exact f
  have I:(aV T l != 0)=true:=bN' f;have i:Hid (jU T l=(0,aV T l)):=ah (by simp[jU,f]);generalize aV T l=oe at*;clear f;go_wp2;go_ret2;exact⟨by rw[i.out];rfl,F⟩
theorem OC{T:ak}{l:List Int}{i s:Int}(h:i<0):fG T l i s=false:=by rw[fG,pP' h]
theorem Np(i:Int)(w:World)(ht:aS w t T)(h:aC w ⟨A,n,c⟩ l):
 cE' 265 #[t.v,.slice A n c,.int .i64 i] w (.bool (vI T l i)):=by
 obtain⟨hn,bI,bR⟩:=h.len;subst hn;have D:=cO w t;have HI:=ah h;have HT:=ah ht;by_cases c1:i<0
 .have s:Hid (vI T l i=false):=ah (by rw[vI,EY c1];rfl);have d1:decide (i<0)=true:=gQ c1;clear ht h;go_enter func265,ntmps265;go_wp2;go_ret;exact⟨aO s.out.symm,D⟩
 have d1:decide (i<0)=false:=iW c1;obtain⟨i,rfl⟩:=iN' i;by_cases c2:l.length<=i
 .have s:Hid (vI T l i=false):=ah (by rw[vI,EX (by omega)];rfl);have d2:decide (l.length<=i)=true:=gQ c2;have d3:decide ((l.length:Int)<=(i:Int))=true:=gQ (by omega);clear ht h;go_enter func265,ntmps265;go_wp2;go_ret;exact⟨aO s.out.symm,D⟩
 have d2:decide (l.length<=i)=false:=iW c2;have d3:decide ((l.length:Int)<=(i:Int))=false:=iW (by omega);have S:=ah (rU t T l A l.length c _ (ht.aB D) (h.ext D));by_cases c3:aV T l=0
 case neg=>
  have s:Hid (vI T l i=false):=ah (by rw[vI,EO c3];rfl);have e1:(aV T l != 0)=true:=bN' c3;generalize aV T l=oe at*;clear c3 ht h;go_enter func265,ntmps265;go_wp2_with fail;refine(S.out).mono ?_;rintro e B⟨rfl,f⟩;go_wp2;go_ret;exact⟨aO s.out.symm,D.trans' f⟩
 have hi:i<l.length:=by omega
 have bX:=z0' i;have c0:(i:Int)<(l.length:Int):=by omega
 have P:=Fp T l i hi false;have Q:=Fp T l i hi true;have ad:Hid (rQ T l i=true):=ah (D7 c3 hi);have HB:Hid (vI T l i=lF T l i):=ah (by rw[vI,ad.out];rfl);rw[c3]at S;obtain⟨b,o,ha,U⟩:=h.at_ hi;subst ha;have HD:Hid (l.getD i 0=l[i]):=ah (getD_lt l i 0 hi)
 have H:Hid (∀j,j<l.length->∃y,l.getD j 0=y/\w.cell? ⟨b,o+j,none⟩=some (.int .i64 y)):=ah (λj hj=>by
  obtain⟨b',o',dW,h2⟩:=HI.out.at_ hj;injection dW with dW;injection dW with e1 e2;subst e1 e2
  exact⟨_,getD_lt l j 0 hj,h2⟩)
 have b5:Hid (∀a,jh T l i false=a->∀w',Ext w w'->cE' 301 #[t.v,.slice (some ⟨b,o,none⟩) l.length c,.int .i64 i] w' (.int .i64 a)):=ah (λa ha w' m=>by
  have I:=XE t T l (some ⟨b,o,none⟩) l.length c i w' (HT.out.aB m) (HI.out.ext m);rw[show leftV T l i=a from by rw[leftV,pP' ad.out,<- ha];rfl]at I
  exact I)
 have b6:Hid (∀a,jh T l i true=a->∀w',Ext w w'->cE' 302 #[t.v,.slice (some ⟨b,o,none⟩) l.length c,.int .i64 i] w' (.int .i64 a)):=ah (λa ha w' m=>by
  have I:=Xj t T l (some ⟨b,o,none⟩) l.length c i w' (HT.out.aB m) (HI.out.ext m);rw[show wK T l i=a from by rw[wK,pP' ad.out,<- ha];rfl]at I
  exact I)
 obtain⟨F,ae⟩:=eY' (jh T l i false);obtain⟨G,af⟩:=eY' (jh T l i true);rw[ae]at P;rw[af]at Q;have lY:=ah (b5.out F ae);have L:=ah (b6.out G af);obtain⟨V,hV⟩:=eX' (vI T l i)
 have HV:Hid (V=if(!(l[i]==8204)&& !(l[i]==8205))=true then true else if(decide (0<i)&&aG T (l.getD (i-1) 0)==9)=true then true else(l[i]==8204&&fG T l F 1&&fG T l G 2)):=ah (by
  rw[hV,HB.out,lF,HD.out,ae,af])
 rw[<- hV];clear hV ae af HB b5 b6 ad ht h c1 c2 c3 HD;generalize l[i]=x at*;by_cases hx:x=8205\/x=8204
 case neg=>
  simp only[not_or]at hx;have e1:(x != 8205)=true:=by rw[bne_iff_ne];exact hx.1
  have e2:(x != 8204)=true:=by rw[bne_iff_ne];exact hx.2
  have s:Hid (V=true):=ah (by
   have f1:(x==8205)=false:=(by rw[aH];exact hx.1);have f2:(x==8204)=false:=by rw[aH];exact hx.2
   rw[HV.out,f1,f2];rfl)
  clear HV hx H lY L;go_enter func265,ntmps265;go_wp2_with fail;refine(S.out).mono ?_;rintro e B⟨rfl,f⟩;have E:=ah f;have C:=ah (D.trans' f);clear f S;have rT:∀z:aj B,∀p:Nat,z.w.cell? ⟨w.heap.size,p,none⟩=t.v.cells[p]? :=λz=>aP (E.out.trans' z.h)
  have rX:∀z:aj B,z.w.cell? ⟨b,o+i,none⟩=some (.int .i64 x):=λz=>aY (bg (C.out.trans' z.h)) U
  go_wp2_with fail;refine rX' ?_
  repeat(go_big_quiet_step(fail))
  refine wpQuiet_nil ?_;rintro _⟨z,rfl⟩;clear rT rX;go_wp2;go_ret;exact⟨aO s.out.symm,C.out.trans' z.h⟩
 rcases hx with rfl|rfl
 case inl=>
  have M:Hid (V=if(decide (0<i)&&aG T (l.getD (i-1) 0)==9)=true then true else((8205:Int)==8204&&fG T l F 1&&fG T l G 2)):=HV;clear HV;rcases Nat.eq_zero_or_pos i with hz|R
  case inl=>
   have W:decide (0<i)=false:=iW (by omega);have N:Hid (V=((8205:Int)==8204&&fG T l F 1&&fG T l G 2)):=ah (by rw[M.out,W];rfl);clear M hz;go_enter func265,ntmps265;go_wp2_with fail;refine(S.out).mono ?_;rintro e B⟨rfl,f⟩;have E:=ah f;have C:=ah (D.trans' f);clear f S;have rT:∀z:aj B,∀p:Nat,z.w.cell? ⟨w.heap.size,p,none⟩=t.v.cells[p]? :=λz=>aP (E.out.trans' z.h)
   have rX:∀z:aj B,z.w.cell? ⟨b,o+i,none⟩=some (.int .i64 8205):=λz=>aY (bg (C.out.trans' z.h)) U
   go_wp2_with fail;refine rX' ?_
   repeat(go_big_quiet_step(fail))
   refine wpQuiet_nil ?_;rintro _⟨z,rfl⟩;have X:=ah z.h;have g:=ah (C.out.trans' z.h);have fJ:∀y:aj z.w,∀p:Nat,y.w.cell? ⟨w.heap.size,p,none⟩=t.v.cells[p]? :=λy=>aP (E.out.trans' (X.out.trans' y.h))
   have J:Hid (∀y:aj z.w,cE' 301 #[t.v,.slice (some ⟨b,o,none⟩) l.length c,.int .i64 i] y.w (.int .i64 F)):=ah (λy=>lY.out y.w (g.out.trans' y.h));have K:Hid (∀y:aj z.w,cE' 302 #[t.v,.slice (some ⟨b,o,none⟩) l.length c,.int .i64 i] y.w (.int .i64 G)):=ah (λy=>L.out y.w (g.out.trans' y.h));clear rT rX lY L;have s:Hid (V=false):=ah (by rw[N.out];rfl);clear N;go_wp2_with fail;refine rX' ?_
   repeat(go_big_quiet_step(first|(go_at_call 301;with_reducible exact aQ (J.out _))|(go_at_call 302;with_reducible exact aQ (K.out _))))
   refine wpQuiet_nil ?_;rintro _⟨y,rfl⟩;have r:=ah (g.out.trans' y.h);have O:=ah (E.out.trans' (X.out.trans' y.h));have gX:y.w.cell? ⟨b,o+i,none⟩=some (.int .i64 8205):=aY (bg r.out) U;clear fJ;go_wp2;go_ret;exact⟨aO s.out.symm,r.out⟩
  obtain⟨j,hj⟩:∃j,i=j+1:=⟨i-1,by omega⟩;obtain⟨Y,hy,a8⟩:=H.out j (by omega);have W:decide (0<i)=true:=gQ R;have b8:(i:Int)-1=(j:Int):=by omega
  have RG:=z0' j;have b9:(j:Int)<(l.length:Int):=by omega
  obtain⟨cy,Z⟩:=eY' (aG T Y);obtain⟨v9,ar⟩:=eY' (cy==9);have gJ:Hid (V=if v9=true then true else((8205:Int)==8204&&fG T l F 1&&fG T l G 2)):=ah (by rw[M.out,W,show i-1=j from by omega,hy,Z,ar];rfl);have HC:Hid (∀w',Ext w w'->cE' 140 #[t.v,.int .i64 Y] w' (.int .i64 cy)):=ah (λw' m=>by have I:=yR t T Y w' (HT.out.aB m);rw[Z]at I;exact I);clear M R hj hy Z;cases v9
  case true=>
   have s:Hid (V=true):=ah (by rw[gJ.out];rfl);clear gJ H;go_enter func265,ntmps265;go_wp2_with fail;refine(S.out).mono ?_;rintro e B⟨rfl,f⟩;have E:=ah f;have C:=ah (D.trans' f);clear f S;have rT:∀z:aj B,∀p:Nat,z.w.cell? ⟨w.heap.size,p,none⟩=t.v.cells[p]? :=λz=>aP (E.out.trans' z.h)
   have rX:∀z:aj B,z.w.cell? ⟨b,o+i,none⟩=some (.int .i64 8205):=λz=>aY (bg (C.out.trans' z.h)) U
   have rY:∀z:aj B,z.w.cell? ⟨b,o+j,none⟩=some (.int .i64 Y):=λz=>aY (bg (C.out.trans' z.h)) a8
   have a0:Hid (∀z:aj B,cE' 140 #[t.v,.int .i64 Y] z.w (.int .i64 cy)):=ah (λz=>HC.out z.w (C.out.trans' z.h));go_wp2_with fail;refine rX' ?_
   repeat(go_big_quiet_step(first|(go_at_call 140;with_reducible exact aQ (a0.out _))))
   refine wpQuiet_nil ?_;rintro _⟨z,rfl⟩;clear rT rX rY;go_wp2;go_ret;exact⟨aO s.out.symm,C.out.trans' z.h⟩
  have N:Hid (V=((8205:Int)==8204&&fG T l F 1&&fG T l G 2)):=ah (by rw[gJ.out];rfl);clear gJ;go_enter func265,ntmps265;go_wp2_with fail;refine(S.out).mono ?_;rintro e B⟨rfl,f⟩;have E:=ah f;have C:=ah (D.trans' f);clear f S;have rT:∀z:aj B,∀p:Nat,z.w.cell? ⟨w.heap.size,p,none⟩=t.v.cells[p]? :=λz=>aP (E.out.trans' z.h)
  have rX:∀z:aj B,z.w.cell? ⟨b,o+i,none⟩=some (.int .i64 8205):=λz=>aY (bg (C.out.trans' z.h)) U
  have rY:∀z:aj B,z.w.cell? ⟨b,o+j,none⟩=some (.int .i64 Y):=λz=>aY (bg (C.out.trans' z.h)) a8
  have a0:Hid (∀z:aj B,cE' 140 #[t.v,.int .i64 Y] z.w (.int .i64 cy)):=ah (λz=>HC.out z.w (C.out.trans' z.h));go_wp2_with fail;refine rX' ?_
  repeat(go_big_quiet_step(first|(go_at_call 140;with_reducible exact aQ (a0.out _))))
  refine wpQuiet_nil ?_;rintro _⟨z,rfl⟩;clear rY;have X:=ah z.h;have g:=ah (C.out.trans' z.h);have fJ:∀y:aj z.w,∀p:Nat,y.w.cell? ⟨w.heap.size,p,none⟩=t.v.cells[p]? :=λy=>aP (E.out.trans' (X.out.trans' y.h))
  have J:Hid (∀y:aj z.w,cE' 301 #[t.v,.slice (some ⟨b,o,none⟩) l.length c,.int .i64 i] y.w (.int .i64 F)):=ah (λy=>lY.out y.w (g.out.trans' y.h));have K:Hid (∀y:aj z.w,cE' 302 #[t.v,.slice (some ⟨b,o,none⟩) l.length c,.int .i64 i] y.w (.int .i64 G)):=ah (λy=>L.out y.w (g.out.trans' y.h));clear rT rX lY L;have s:Hid (V=false):=ah (by rw[N.out];rfl);clear N;go_wp2_with fail;refine rX' ?_
  repeat(go_big_quiet_step(first|(go_at_call 301;with_reducible exact aQ (J.out _))|(go_at_call 302;with_reducible exact aQ (K.out _))))
  refine wpQuiet_nil ?_;rintro _⟨y,rfl⟩;have r:=ah (g.out.trans' y.h);have O:=ah (E.out.trans' (X.out.trans' y.h));have gX:y.w.cell? ⟨b,o+i,none⟩=some (.int .i64 8205):=aY (bg r.out) U;clear fJ;go_wp2;go_ret;exact⟨aO s.out.symm,r.out⟩
 have M:Hid (V=if(decide (0<i)&&aG T (l.getD (i-1) 0)==9)=true then true else((8204:Int)==8204&&fG T l F 1&&fG T l G 2)):=HV;clear HV;rcases Nat.eq_zero_or_pos i with hz|R
 case inl=>
  have W:decide (0<i)=false:=iW (by omega);have N:Hid (V=((8204:Int)==8204&&fG T l F 1&&fG T l G 2)):=ah (by rw[M.out,W];rfl);clear M hz;go_enter func265,ntmps265;go_wp2_with fail;refine(S.out).mono ?_;rintro e B⟨rfl,f⟩;have E:=ah f;have C:=ah (D.trans' f);clear f S;have rT:∀z:aj B,∀p:Nat,z.w.cell? ⟨w.heap.size,p,none⟩=t.v.cells[p]? :=λz=>aP (E.out.trans' z.h)
  have rX:∀z:aj B,z.w.cell? ⟨b,o+i,none⟩=some (.int .i64 8204):=λz=>aY (bg (C.out.trans' z.h)) U
  go_wp2_with fail;refine rX' ?_
  repeat(go_big_quiet_step(fail))
  refine wpQuiet_nil ?_;rintro _⟨z,rfl⟩;have X:=ah z.h;have g:=ah (C.out.trans' z.h);have fJ:∀y:aj z.w,∀p:Nat,y.w.cell? ⟨w.heap.size,p,none⟩=t.v.cells[p]? :=λy=>aP (E.out.trans' (X.out.trans' y.h))
  have J:Hid (∀y:aj z.w,cE' 301 #[t.v,.slice (some ⟨b,o,none⟩) l.length c,.int .i64 i] y.w (.int .i64 F)):=ah (λy=>lY.out y.w (g.out.trans' y.h));have K:Hid (∀y:aj z.w,cE' 302 #[t.v,.slice (some ⟨b,o,none⟩) l.length c,.int .i64 i] y.w (.int .i64 G)):=ah (λy=>L.out y.w (g.out.trans' y.h));clear rT rX lY L;by_cases ca:F<0
  case pos=>
   have da:decide (F<0)=true:=gQ ca;have s:Hid (V=false):=ah (by rw[N.out,fG,pP' ca];rfl);clear N;go_wp2_with fail;refine rX' ?_
   repeat(go_big_quiet_step(first|(go_at_call 301;with_reducible exact aQ (J.out _))|(go_at_call 302;with_reducible exact aQ (K.out _))))
   refine wpQuiet_nil ?_;rintro _⟨y,rfl⟩;have r:=ah (g.out.trans' y.h);have O:=ah (E.out.trans' (X.out.trans' y.h));have gX:y.w.cell? ⟨b,o+i,none⟩=some (.int .i64 8204):=aY (bg r.out) U;clear fJ;go_wp2;go_ret;exact⟨aO s.out.symm,r.out⟩
  have da:decide (F<0)=false:=iW ca;by_cases cb:G<0
  case pos=>
   have db:decide (G<0)=true:=gQ cb;have s:Hid (V=false):=ah (by rw[N.out,OC cb];simp);clear N;go_wp2_with fail;refine rX' ?_
   repeat(go_big_quiet_step(first|(go_at_call 301;with_reducible exact aQ (J.out _))|(go_at_call 302;with_reducible exact aQ (K.out _))))
   refine wpQuiet_nil ?_;rintro _⟨y,rfl⟩;have r:=ah (g.out.trans' y.h);have O:=ah (E.out.trans' (X.out.trans' y.h));have gX:y.w.cell? ⟨b,o+i,none⟩=some (.int .i64 8204):=aY (bg r.out) U;clear fJ;go_wp2;go_ret;exact⟨aO s.out.symm,r.out⟩
  have db:decide (G<0)=false:=iW cb;obtain⟨na,rfl⟩:=iN' F;obtain⟨nb,rfl⟩:=iN' G;obtain⟨u,hu,ab⟩:=H.out na (by omega);obtain⟨v,hv,ac⟩:=H.out nb (by omega);obtain⟨ju,a1⟩:=eY' (jQ T u);obtain⟨jv,a2⟩:=eY' (jQ T v)
  have s:Hid (V=((ju==1||ju==3)&&(jv==2||jv==3))):=ah (by
   rw[N.out,fG,nN' ca,fG,nN' cb,Int.toNat_natCast,Int.toNat_natCast,hu,hv,a1,a2];rfl)
  have aw:Hid (∀w',Ext w w'->cE' 303 #[t.v,.int .i64 u] w' (.int .i64 ju)):=ah (λw' m=>by have I:=CQ t T u w' (HT.out.aB m);rw[a1]at I;exact I);have ax:Hid (∀w',Ext w w'->cE' 303 #[t.v,.int .i64 v] w' (.int .i64 jv)):=ah (λw' m=>by have I:=CQ t T v w' (HT.out.aB m);rw[a2]at I;exact I);have bu:(na:Int)<(l.length:Int):=P.1;have bv:(nb:Int)<(l.length:Int):=Q.1;have bw:=z0' na;have bx:=z0' nb;clear N hu hv a1 a2 H P Q ca cb;go_wp2_with fail;refine rX' ?_
  repeat(go_big_quiet_step(first|(go_at_call 301;with_reducible exact aQ (J.out _))|(go_at_call 302;with_reducible exact aQ (K.out _))))
  refine wpQuiet_nil ?_;rintro _⟨y,rfl⟩;have r:=ah (g.out.trans' y.h);have O:=ah (E.out.trans' (X.out.trans' y.h));have gX:y.w.cell? ⟨b,o+i,none⟩=some (.int .i64 8204):=aY (bg r.out) U;clear fJ;go_wp2_with fail;have gV:∀q:aj y.w,∀p:Nat,q.w.cell? ⟨w.heap.size,p,none⟩=t.v.cells[p]? :=λq=>aP (O.out.trans' q.h)
  have az:∀q:aj y.w,q.w.cell? ⟨b,o+na,none⟩=some (.int .i64 u):=λq=>aY (bg (r.out.trans' q.h)) ab
  have aD:∀q:aj y.w,q.w.cell? ⟨b,o+nb,none⟩=some (.int .i64 v):=λq=>aY (bg (r.out.trans' q.h)) ac
  have KG:Hid (∀q:aj y.w,cE' 303 #[t.v,.int .i64 u] q.w (.int .i64 ju)):=ah (λq=>aw.out q.w (r.out.trans' q.h));have KH:Hid (∀q:aj y.w,cE' 303 #[t.v,.int .i64 v] q.w (.int .i64 jv)):=ah (λq=>ax.out q.w (r.out.trans' q.h));clear gX ab ac;refine rX' ?_
  repeat(go_big_quiet_step(first|(go_at_call 303;with_reducible exact aQ (KG.out _))|(go_at_call 303;with_reducible exact aQ (KH.out _))))
  refine wpQuiet_nil ?_;rintro _⟨q,rfl⟩;clear gV az aD;obtain⟨b1,k1⟩:=eY' (ju==1);obtain⟨b2,k2⟩:=eY' (ju==3);obtain⟨b3,k3⟩:=eY' (jv==2);obtain⟨b4,k4⟩:=eY' (jv==3);have aE:Hid (V=((b1||b2)&&(b3||b4))):=ah (by rw[s.out,k1,k2,k3,k4]);clear s;cases b1<;>cases b2<;>cases b3<;>cases b4
  all_goals
   go_wp2;go_ret;exact⟨aO aE.out.symm,r.out.trans' q.h⟩
 obtain⟨j,hj⟩:∃j,i=j+1:=⟨i-1,by omega⟩;obtain⟨Y,hy,a8⟩:=H.out j (by omega);have W:decide (0<i)=true:=gQ R;have b8:(i:Int)-1=(j:Int):=by omega
 have RG:=z0' j;have b9:(j:Int)<(l.length:Int):=by omega
 obtain⟨cy,Z⟩:=eY' (aG T Y);obtain⟨v9,ar⟩:=eY' (cy==9);have gJ:Hid (V=if v9=true then true else((8204:Int)==8204&&fG T l F 1&&fG T l G 2)):=ah (by rw[M.out,W,show i-1=j from by omega,hy,Z,ar];rfl);have HC:Hid (∀w',Ext w w'->cE' 140 #[t.v,.int .i64 Y] w' (.int .i64 cy)):=ah (λw' m=>by have I:=yR t T Y w' (HT.out.aB m);rw[Z]at I;exact I);clear M R hj hy Z;cases v9
 case true=>
  have s:Hid (V=true):=ah (by rw[gJ.out];rfl);clear gJ H;go_enter func265,ntmps265;go_wp2_with fail;refine(S.out).mono ?_;rintro e B⟨rfl,f⟩;have E:=ah f;have C:=ah (D.trans' f);clear f S;have rT:∀z:aj B,∀p:Nat,z.w.cell? ⟨w.heap.size,p,none⟩=t.v.cells[p]? :=λz=>aP (E.out.trans' z.h)
  have rX:∀z:aj B,z.w.cell? ⟨b,o+i,none⟩=some (.int .i64 8204):=λz=>aY (bg (C.out.trans' z.h)) U
  have rY:∀z:aj B,z.w.cell? ⟨b,o+j,none⟩=some (.int .i64 Y):=λz=>aY (bg (C.out.trans' z.h)) a8
  have a0:Hid (∀z:aj B,cE' 140 #[t.v,.int .i64 Y] z.w (.int .i64 cy)):=ah (λz=>HC.out z.w (C.out.trans' z.h));go_wp2_with fail;refine rX' ?_
  repeat(go_big_quiet_step(first|(go_at_call 140;with_reducible exact aQ (a0.out _))))
  refine wpQuiet_nil ?_;rintro _⟨z,rfl⟩;clear rT rX rY;go_wp2;go_ret;exact⟨aO s.out.symm,C.out.trans' z.h⟩
 have N:Hid (V=((8204:Int)==8204&&fG T l F 1&&fG T l G 2)):=ah (by rw[gJ.out];rfl);clear gJ;go_enter func265,ntmps265;go_wp2_with fail;refine(S.out).mono ?_;rintro e B⟨rfl,f⟩;have E:=ah f;have C:=ah (D.trans' f);clear f S;have rT:∀z:aj B,∀p:Nat,z.w.cell? ⟨w.heap.size,p,none⟩=t.v.cells[p]? :=λz=>aP (E.out.trans' z.h)
 have rX:∀z:aj B,z.w.cell? ⟨b,o+i,none⟩=some (.int .i64 8204):=λz=>aY (bg (C.out.trans' z.h)) U
 have rY:∀z:aj B,z.w.cell? ⟨b,o+j,none⟩=some (.int .i64 Y):=λz=>aY (bg (C.out.trans' z.h)) a8
 have a0:Hid (∀z:aj B,cE' 140 #[t.v,.int .i64 Y] z.w (.int .i64 cy)):=ah (λz=>HC.out z.w (C.out.trans' z.h));go_wp2_with fail;refine rX' ?_
 repeat(go_big_quiet_step(first|(go_at_call 140;with_reducible exact aQ (a0.out _))))
 refine wpQuiet_nil ?_;rintro _⟨z,rfl⟩;clear rY;have X:=ah z.h;have g:=ah (C.out.trans' z.h);have fJ:∀y:aj z.w,∀p:Nat,y.w.cell? ⟨w.heap.size,p,none⟩=t.v.cells[p]? :=λy=>aP (E.out.trans' (X.out.trans' y.h))
 have J:Hid (∀y:aj z.w,cE' 301 #[t.v,.slice (some ⟨b,o,none⟩) l.length c,.int .i64 i] y.w (.int .i64 F)):=ah (λy=>lY.out y.w (g.out.trans' y.h));have K:Hid (∀y:aj z.w,cE' 302 #[t.v,.slice (some ⟨b,o,none⟩) l.length c,.int .i64 i] y.w (.int .i64 G)):=ah (λy=>L.out y.w (g.out.trans' y.h));clear rT rX lY L;by_cases ca:F<0
 case pos=>
  have da:decide (F<0)=true:=gQ ca;have s:Hid (V=false):=ah (by rw[N.out,fG,pP' ca];rfl);clear N;go_wp2_with fail;refine rX' ?_
  repeat(go_big_quiet_step(first|(go_at_call 301;with_reducible exact aQ (J.out _))|(go_at_call 302;with_reducible exact aQ (K.out _))))
  refine wpQuiet_nil ?_;rintro _⟨y,rfl⟩;have r:=ah (g.out.trans' y.h);have O:=ah (E.out.trans' (X.out.trans' y.h));have gX:y.w.cell? ⟨b,o+i,none⟩=some (.int .i64 8204):=aY (bg r.out) U;clear fJ;go_wp2;go_ret;exact⟨aO s.out.symm,r.out⟩
 have da:decide (F<0)=false:=iW ca;by_cases cb:G<0
 case pos=>
  have db:decide (G<0)=true:=gQ cb;have s:Hid (V=false):=ah (by rw[N.out,OC cb];simp);clear N;go_wp2_with fail;refine rX' ?_
  repeat(go_big_quiet_step(first|(go_at_call 301;with_reducible exact aQ (J.out _))|(go_at_call 302;with_reducible exact aQ (K.out _))))
  refine wpQuiet_nil ?_;rintro _⟨y,rfl⟩;have r:=ah (g.out.trans' y.h);have O:=ah (E.out.trans' (X.out.trans' y.h));have gX:y.w.cell? ⟨b,o+i,none⟩=some (.int .i64 8204):=aY (bg r.out) U;clear fJ;go_wp2;go_ret;exact⟨aO s.out.symm,r.out⟩
 have db:decide (G<0)=false:=iW cb;obtain⟨na,rfl⟩:=iN' F;obtain⟨nb,rfl⟩:=iN' G;obtain⟨u,hu,ab⟩:=H.out na (by omega);obtain⟨v,hv,ac⟩:=H.out nb (by omega);obtain⟨ju,a1⟩:=eY' (jQ T u);obtain⟨jv,a2⟩:=eY' (jQ T v)
 have s:Hid (V=((ju==1||ju==3)&&(jv==2||jv==3))):=ah (by
  rw[N.out,fG,nN' ca,fG,nN' cb,Int.toNat_natCast,Int.toNat_natCast,hu,hv,a1,a2];rfl)
 have aw:Hid (∀w',Ext w w'->cE' 303 #[t.v,.int .i64 u] w' (.int .i64 ju)):=ah (λw' m=>by have I:=CQ t T u w' (HT.out.aB m);rw[a1]at I;exact I);have ax:Hid (∀w',Ext w w'->cE' 303 #[t.v,.int .i64 v] w' (.int .i64 jv)):=ah (λw' m=>by have I:=CQ t T v w' (HT.out.aB m);rw[a2]at I;exact I);have bu:(na:Int)<(l.length:Int):=P.1;have bv:(nb:Int)<(l.length:Int):=Q.1;have bw:=z0' na;have bx:=z0' nb;clear N hu hv a1 a2 H P Q ca cb;go_wp2_with fail;refine rX' ?_
 repeat(go_big_quiet_step(first|(go_at_call 301;with_reducible exact aQ (J.out _))|(go_at_call 302;with_reducible exact aQ (K.out _))))
 refine wpQuiet_nil ?_;rintro _⟨y,rfl⟩;have r:=ah (g.out.trans' y.h);have O:=ah (E.out.trans' (X.out.trans' y.h));have gX:y.w.cell? ⟨b,o+i,none⟩=some (.int .i64 8204):=aY (bg r.out) U;clear fJ;go_wp2_with fail;have gV:∀q:aj y.w,∀p:Nat,q.w.cell? ⟨w.heap.size,p,none⟩=t.v.cells[p]? :=λq=>aP (O.out.trans' q.h)
 have az:∀q:aj y.w,q.w.cell? ⟨b,o+na,none⟩=some (.int .i64 u):=λq=>aY (bg (r.out.trans' q.h)) ab
 have aD:∀q:aj y.w,q.w.cell? ⟨b,o+nb,none⟩=some (.int .i64 v):=λq=>aY (bg (r.out.trans' q.h)) ac
 have KG:Hid (∀q:aj y.w,cE' 303 #[t.v,.int .i64 u] q.w (.int .i64 ju)):=ah (λq=>aw.out q.w (r.out.trans' q.h));have KH:Hid (∀q:aj y.w,cE' 303 #[t.v,.int .i64 v] q.w (.int .i64 jv)):=ah (λq=>ax.out q.w (r.out.trans' q.h));clear gX ab ac;refine rX' ?_
 repeat(go_big_quiet_step(first|(go_at_call 303;with_reducible exact aQ (KG.out _))|(go_at_call 303;with_reducible exact aQ (KH.out _))))
 refine wpQuiet_nil ?_;rintro _⟨q,rfl⟩;clear gV az aD;obtain⟨b1,k1⟩:=eY' (ju==1);obtain⟨b2,k2⟩:=eY' (ju==3);obtain⟨b3,k3⟩:=eY' (jv==2);obtain⟨b4,k4⟩:=eY' (jv==3);have aE:Hid (V=((b1||b2)&&(b3||b4))):=ah (by rw[s.out,k1,k2,k3,k4]);clear s;cases b1<;>cases b2<;>cases b3<;>cases b4
 all_goals
  go_wp2;go_ret;exact⟨aO aE.out.symm,r.out.trans' q.h⟩
theorem X7(ht:aS w t T)(h:aC w ⟨A,n,c⟩ l):
 cE' 208 #[t.v,.slice A n c] w (.tuple #[.int .i64 (fD T l).1,.int .i64 (fD T l).2]):=by
 obtain⟨E,_,_⟩:=h.len;subst E;have s:=ah ht;have x:=ah h;have b:=cO w t;go_enter func208,ntmps208;go_wp2_with fail;refine(rU t T l A _ c _ (s.out.aB b) (x.out.ext b)).mono ?_;rintro e J⟨rfl,p⟩;have F:=b.trans' p;by_cases f:aV T l=0
 .have y:Hid (∀k,k<l.length->vI T l (k:Int)=lF T l k):=ah (λk D=>by rw[vI,D7 f D];rfl);have z:Hid (fD T l=wR T l (l.length-0) 0):=ah (by simp[fD,f]);rw[f];clear f;go_wp2;go_loopw[16] (λj wr=>∃(k:Nat),k<=l.length/\j=.int .i64 k/\Hid (fD T l=wR T l (l.length-k) k)/\Ext (tW' w t) wr) (λj _=>l.length-(intOf j).toNat);exact⟨0,zl' _,rfl,z,p⟩;obtain⟨k,D,rfl,q,g⟩:=hrel;have a:=b.trans' g;have K:=bT' t g;by_cases B:k<l.length
  .have r:=aI q (show _=if lF T l k=true then wR T l (l.length-(k+1)) (k+1)else((k:Int),(17:Int))from by
    rw[show l.length-k=(l.length-(k+1))+1 from by omega];rfl)
   have d:=y.out k B;clear q z;cases o:lF T l k
   .have i:=aI r (show _=((k:Int),(17:Int))from by rw[o];simp);have C:=ah (d.trans o);clear r o d;go_wp2_with(go_at_call 265;refine(Np t T l A _ c k _ (s.out.aB a) (x.out.ext a)).mono ?_;rintro e G⟨rfl,m⟩;rw[C.out]);go_ret2;exact⟨by rw[i.out];rfl,a.trans' m⟩
   .have i:=aI r (show _=wR T l (l.length-(k+1)) (k+1)from by rw[o];simp);have C:=ah (d.trans o);clear r o d;go_wp2_with(go_at_call 265;refine(Np t T l A _ c k _ (s.out.aB a) (x.out.ext a)).mono ?_;rintro e G⟨rfl,m⟩;rw[C.out]);go_roundw;exact⟨k+1,by omega,by go_num,i,g.trans' m⟩;simp[intOf];omega
  .have i:=aI q (show _=((0:Int),(0:Int))from by rw[show l.length-k=0 from by omega];rfl);clear q z;go_wp2;go_ret2;exact⟨by rw[i.out];rfl,a⟩
 .have H:(aV T l==0)=false:=by rw[aH];exact f
  have I:(aV T l != 0)=true:=bN' f;have i:Hid (fD T l=(0,aV T l)):=ah (by simp[fD,f]);generalize aV T l=oe at*;clear f;go_wp2;go_ret2;exact⟨by rw[i.out];rfl,F⟩
end Go.Proofs.YtljilcbobhmkgaaGreatDoor
