/- Part Bx19. -/
import Derived.Test.YtlmkgaoakcjlnaaGreatDoorBx18
import Derived.Shelf.Strings.OnBuilder
open Go.Proofs.Tryz
namespace Go.Proofs.YtlmkgaoakcjlnaaGreatDoor
set_option maxHeartbeats 25600000
set_option maxRecDepth 100000
open Go.RowKit
variable (T:aj)(t:TV)(l:List Int)(A:Option Addr)(n c:Nat)(w:World)
def jT(T:aj)(c:Int):List Int:=if uQ T c=true then[]else if aJ T.eP c=[]then[c]else aJ T.eP c
def lq(T:aj)(l:List Int):Int:=if aX T l≠0 then aX T l else if 4096<((l.flatMap (jT T)).length:Int)then 7 else 0
def rZ(T:aj)(l:List Int):List Int:=if lq T l=0 then l.flatMap (jT T)else[]
def IU(w:World)(l:List Int)(v:Int)(e:Ending)(w':World):Prop:=∃B m d,e=.returned (.tuple #[.slice B m d,.int .i64 v])/\Ext w w'/\aF w' ⟨B,m,d⟩ l
theorem IQ{T:aj}(h:dh T=true):∀x,(aJ T.eP x).length<=18:=by
 simp only[dh,aU]at h;have a:jg T=true:=by simp only[h]
 simp only[jg,maps,kH,aU]at a;exact Gy a.2.2.2.1
theorem Xp{T:aj}(h:dh T=true)(x:Int):(jT T x).length<=18:=by
 unfold jT;split
 .simp
 .split
  .simp
  .exact IQ h x
theorem aYS(T:aj)(c:Int)(w:World)(ht:aW w t T)(i:dh T=true):
 Calls prog 243 #[t.v,.int .i64 c] w λe w'=>∃B m d,e=.returned (.slice B m d)/\aF w' ⟨B,m,d⟩ (aJ T.eP c)/\Ext w w':=by
 have b:=dw w t;have x:=ah (ht.aC b);have y:=ah (IQ i c);have o:=ah (nD i);have z:=ah (EF i);clear i;obtain⟨p,A,q,r,f,C⟩:=AX T.eP t.s11.a t.s11.n t.s11.c c _ x.out.eP o.out.eP.1 o.out.eP.2;have D:=ah r;have j:Hid (aJ T.eP c=[]->p=none/\q=0):=ah λh=>by
  have:=f (C9 z.out.eP h);exact⟨this.1,this.2.2⟩
 clear r f;go_enter func243,ntmps243;go_wp2_with fail;refine(C _ eR').mono ?_;rintro e E⟨rfl,g⟩;go_wp2_with fail;refine(L6 _ p A q E (D.out.ext g) (by have:=y.out;omega) j.out).mono ?_;rintro e H⟨B,d,rfl,s,k,l⟩;have F:=(b.trans' g).trans' l;have G:=ah (aK.ints s);clear s k;go_wp2;go_ret;exact⟨_,_,_,rfl,G.out,F⟩
theorem aYP(T:aj)(c:Int)(w:World)(ht:aW w t T):
 Calls prog 199 #[t.v,.int .i64 c] w λe w'=>∃B m d,e=.returned (.slice B m d)/\aF w' ⟨B,m,d⟩ (aJ T.eP c)/\Ext w w':=by
 have a:=dw w t;have g:=ah (ht.aC a);go_enter func199,ntmps199;go_wp2_with fail;refine(Ef T.eP _ _ _ c _ g.out.eP).mono ?_;rintro e j⟨k,l,n,rfl,f,b⟩;have h:=ah f;have i:=a.trans' b;clear f b;go_wp2;go_ret;exact⟨_,_,_,rfl,h.out,i⟩
def Xq(T:aj)(wb:World)(l:List Int)(gh:Nat)(s9 s23:Value)(wx:World):Prop:=
 ∃(k:Nat)(A:Option Addr)(n c:Nat),k+gh=l.length/\s23=.int .i64 k/\s9=.slice A n c/\Hid (aK wx wb.heap.size A n c ((l.take k).flatMap (jT T)))/\Hid (Ext wb wx)
theorem aYb(ht:aW w t T)(hi:aF w ⟨A,n,c⟩ l):
 Calls prog 168 #[t.v,.slice A n c] w (IU w (rZ T l) (lq T l)):=by
 have z:=dw w t;have N:=ah z;have HT:=ah (ht.aC z);have HI:=ah (hi.ext z);have hn:=hi.len.1;subst hn;clear ht hi z;go_enter func168,ntmps168;go_wp2_with fail;refine(yB t T l A _ c _ HT.out HI.out).mono ?_;rintro e G⟨v,rfl,H,_⟩;have O:=ah H;have P:∀k:Nat,G.cell? ⟨w.heap.size,k,none⟩=t.v.cells[k]? :=aQ H;clear H;by_cases F:aX T l=0
 .obtain⟨hw,hl⟩:=rD F;have ab:(aX T l != 0)=false:=bZ' F;have Q:Hid (lq T l=if 4096<((l.flatMap (jT T)).length:Int)then 7 else 0):=ah (by rw[lq,nN' (by rw[F];simp)]);have HW:=ah hw;have HL:=ah hl;clear F hw hl P;go_wp2;go_loopg[8,23] l.length (λgh s9 ac wx=>Xq T G l gh s9 ac wx);exact⟨0,none,0,0,by omega,rfl,rfl,ah (Own.nil_ _ _ _ _),ah eR'⟩;obtain⟨k,A2,j,c2,b2,rfl,rfl,I,R⟩:=hrel;have L:=ah (O.out.trans' R.out);have P:∀k:Nat,wr.cell? ⟨w.heap.size,k,none⟩=t.v.cells[k]? :=aQ L.out;have ad:=ah (HI.out.ext L.out)
  have S:Hid (((l.take k).flatMap (jT T)).length<=18*4096):=ah (by
   have h1:=F9 (Xp HW.out) (l.take k);rw[List.length_take]at h1;have:=HL.out
   omega)
  have B:=ah (aK.ints I.out).len.1;by_cases U:k<l.length
  .obtain⟨J,rfl⟩:=gS' gk;obtain⟨b,o,rfl,b4⟩:=ad.out.at_ U;have C:=ah (Ba (jT T) l k U);have h:Hid (jT T l[k]=if uQ T l[k]=true then[]else if aJ T.eP l[k]=[]then[l[k]]else aJ T.eP l[k]):=rfl;have ae:=ah (IQ HW.out l[k]);generalize l[k]=x at*;have b5:=z0' k;have b6:(k:Int)<(l.length:Int):=(by omega);have b7:l.length<=4096:=HL.out;go_wp2_with fail;refine(Qr t T x wr (HT.out.aC L.out) (nD HW.out)).mono ?_;rintro e w3⟨rfl,m⟩;have V:=ah (R.out.trans' m);have dJ:=ah (Own.ext I.out m);have iq:∀k:Nat,w3.cell? ⟨w.heap.size,k,none⟩=t.v.cells[k]? :=aQ (L.out.trans' m);have mg:=ah (L.out.trans' m);clear m P ;cases W:uQ T x with
   |true=>
    rw[W]at h;have p:Hid (jT T x=[]):=ah (h.out.trans (pP' rfl));have X:Hid (aK w3 G.heap.size A2 j c2 ((l.take (k+1)).flatMap (jT T))):=ah (by rw[C.out,p.out,List.append_nil];exact dJ.out);clear h iq;go_wp2;go_roundg J;exact⟨k+1,A2,j,c2,by omega,by go_num,rfl,X,V⟩;omega
   |false=>
    rw[W,nN' (by simp)]at h;have zq:=h;clear h;go_wp2_with fail;refine(aYS t T x w3 (HT.out.aC mg.out) HW.out).mono ?_;rintro e w4⟨A3,K,c3,rfl,Y,q⟩;have D:=ah (V.out.trans' q);have mV:=ah (Own.ext dJ.out q);have Ee:∀k:Nat,w4.cell? ⟨w.heap.size,k,none⟩=t.v.cells[k]? :=aQ (mg.out.trans' q);have b8:=ah (mg.out.trans' q);have s:=ah (Y);clear q iq dJ Y;by_cases i:aJ T.eP x=[]
    .have p:Hid (jT T x=[x]):=ah (zq.out.trans (pP' i));have E:K=0:=(by have:=s.out.len.1;rw[i]at this;exact this);have y:Ext w4 (w4.alloc (.cells #[.int .i64 x] 3)):=eR'.aB _;obtain⟨Z,c5,w5,f,d,g,jW⟩:=fZ (Own.ext mV.out y) (iI w4 x) (by have:=S.out;have:=B.out;omega) (D.out.trans' y).b.size;have X:Hid (aK w5 G.heap.size Z (j+1) c5 ((l.take (k+1)).flatMap (jT T))):=ah (by rw[C.out,p.out];exact d);have aZ:Hid (Ext G w5):=ah (dW (D.out.trans' y) g (λk hk=>(Own.lt (Own.ext mV.out y) k hk).1));clear d g jW y i zq s;subst E;go_wp2_with(at_builtin;refine dG rfl _ _ _ rfl _ _ rfl rfl _ _ f ?_);clear f;go_roundg J;exact⟨k+1,Z,j+1,c5,by omega,by go_num,rfl,X,aZ⟩;omega
    .have p:=ah (zq.out.trans (nN' i));have E:0<K:=by
      have:=s.out.len.1;cases hq:aJ T.eP x with
      |nil=>exact absurd hq i
      |cons a r=>rw[hq]at this;simp only[List.length_cons]at this;omega
     have d3:decide (0<K)=true:=dt' E;have Fj:K<=18:=(by have h7:K=_:=s.out.len.1;have:=ae.out;omega);obtain⟨Z,c5,w5,f,d,g,jW⟩:=fZ mV.out s.out (by have:=S.out;have:=B.out;omega) D.out.b.size;have X:Hid (aK w5 G.heap.size Z (j+K) c5 ((l.take (k+1)).flatMap (jT T))):=ah (by rw[C.out,p.out];exact d);have aZ:Hid (Ext G w5):=ah (dW D.out g (λk hk=>(Own.lt mV.out k hk).1));clear d g jW i zq Fj E;go_wp2_with(at_builtin;refine dG rfl _ _ _ rfl _ _ rfl rfl _ _ f ?_);clear f;go_roundg J;exact⟨k+1,Z,j+K,c5,by omega,by go_num,rfl,X,aZ⟩;omega
  .have HE:Hid ((l.take k).flatMap (jT T)=l.flatMap (jT T)):=ah (by rw[tL' (by omega)]);have a2:=N.out.trans' L.out;clear P;by_cases M:4096<((l.flatMap (jT T)).length:Int)
   .have C:Hid (lq T l=7):=ah (by rw[Q.out,pP' M]);have hd:decide (4096<(j:Int))=true:=(by rw[au,B.out,HE.out];exact M);have aq:decide (4096<j)=true:=(by rw[au];rw[au]at hd;omega);clear M;go_wp2;go_ret2;exact⟨none,0,0,by rw[C.out];rfl,a2,by rw[rZ,C.out,nN' (by decide)];exact aF.nil_ _⟩
   .have C:Hid (lq T l=0):=ah (by rw[Q.out,nN' M]);have hd:decide (4096<(j:Int))=false:=(by rw[aA,B.out,HE.out];exact M);have aq:decide (4096<j)=false:=(by rw[aA];rw[aA]at hd;omega);have ar:Hid (aF wr ⟨A2,j,c2⟩ (l.flatMap (jT T))):=ah (by rw[<- HE.out];exact aK.ints I.out);clear M;go_wp2;go_ret2;exact⟨A2,j,c2,by rw[C.out];rfl,a2,by rw[rZ,C.out,pP' rfl];exact ar.out⟩
 .have ab:(aX T l != 0)=true:=bN' F
  have HZ:Hid (lq T l=aX T l/\lq T l≠0):=ah (by
   have h1:lq T l=aX T l:=by rw[lq,pP' F]
   exact⟨h1,by rw[h1];exact F⟩)
  have hb:=N.out.trans' O.out;clear F P;go_wp2;go_ret2;exact⟨none,0,0,by rw[HZ.out.1];rfl,hb,by rw[rZ,nN' HZ.out.2];exact aF.nil_ _⟩
theorem aYZ(ht:aW w t T)(hi:aF w ⟨A,n,c⟩ l):
 Calls prog 129 #[t.v,.slice A n c] w (IU w (rZ T l) (lq T l)):=by
 have B:=dw w t;have N:=ah B;have HT:=ah (ht.aC B);have HI:=ah (hi.ext B);have hn:=hi.len.1;subst hn;clear ht hi B;go_enter func129,ntmps129;go_wp2_with fail;refine(tK t T l A _ c _ HT.out HI.out).mono ?_;rintro e G⟨rfl,H⟩;have O:=ah H;have P:∀k:Nat,G.cell? ⟨w.heap.size,k,none⟩=t.v.cells[k]? :=aQ H;clear H;by_cases F:aX T l=0
 .obtain⟨hw,hl⟩:=rD F;have aa:(aX T l != 0)=false:=bZ' F;have Q:Hid (lq T l=if 4096<((l.flatMap (jT T)).length:Int)then 7 else 0):=ah (by rw[lq,nN' (by rw[F];simp)]);have HW:=ah hw;have HL:=ah hl;clear F hw hl P;go_wp2;go_loopg[7,19] l.length (λgh s9 ab wx=>Xq T G l gh s9 ab wx);exact⟨0,none,0,0,by omega,rfl,rfl,ah (Own.nil_ _ _ _ _),ah eR'⟩;obtain⟨k,A2,p,c2,b2,rfl,rfl,I,R⟩:=hrel;have L:=ah (O.out.trans' R.out);have P:∀k:Nat,wr.cell? ⟨w.heap.size,k,none⟩=t.v.cells[k]? :=aQ L.out;have ac:=ah (HI.out.ext L.out)
  have S:Hid (((l.take k).flatMap (jT T)).length<=18*4096):=ah (by
   have h1:=F9 (Xp HW.out) (l.take k);rw[List.length_take]at h1;have:=HL.out
   omega)
  have C:=ah (aK.ints I.out).len.1;by_cases U:k<l.length
  .obtain⟨J,rfl⟩:=gS' gk;obtain⟨b,o,rfl,b4⟩:=ac.out.at_ U;have D:=ah (Ba (jT T) l k U);have h:Hid (jT T l[k]=if uQ T l[k]=true then[]else if aJ T.eP l[k]=[]then[l[k]]else aJ T.eP l[k]):=rfl;have ad:=ah (IQ HW.out l[k]);generalize l[k]=x at*;have b5:=z0' k;have b6:(k:Int)<(l.length:Int):=(by omega);have b7:l.length<=4096:=HL.out;go_wp2_with fail;refine(aYP t T x wr (HT.out.aC L.out)).mono ?_;rintro e w3⟨A3,K,c3,rfl,V,q⟩;have ae:=ah (R.out.trans' q);have dJ:=ah (Own.ext I.out q);have iq:∀k:Nat,w3.cell? ⟨w.heap.size,k,none⟩=t.v.cells[k]? :=aQ (L.out.trans' q);have mg:=ah (L.out.trans' q);have W:=ah (V);clear q P V;go_wp2_with fail;refine(Qk t T x w3 (HT.out.aC mg.out)).mono ?_;rintro e X⟨rfl,i⟩;have s:=ah (ae.out.trans' i);have Y:=ah (Own.ext dJ.out i);have Ee:∀k:Nat,X.cell? ⟨w.heap.size,k,none⟩=t.v.cells[k]? :=aQ (mg.out.trans' i);have ba:=ah (mg.out.trans' i);have j:=ah (W.out.ext i);clear i W iq dJ;cases Z:uQ T x with
   |true=>
    rw[Z]at h;have y:Hid (jT T x=[]):=ah (h.out.trans (pP' rfl));have bK:Hid (aK X G.heap.size A2 p c2 ((l.take (k+1)).flatMap (jT T))):=ah (by rw[D.out,y.out,List.append_nil];exact Y.out);clear h Ee j;go_wp2;go_roundg J;exact⟨k+1,A2,p,c2,by omega,by go_num,rfl,bK,s⟩;omega
   |false=>
    rw[Z,nN' (by simp)]at h;have zq:=h;clear h;by_cases m:aJ T.eP x=[]
    .have y:Hid (jT T x=[x]):=ah (zq.out.trans (pP' m));have E:K=0:=(by have:=j.out.len.1;rw[m]at this;exact this);have z:Ext X (X.alloc (.cells #[.int .i64 x] 3)):=eR'.aB _;obtain⟨A5,c5,w5,f,d,g,jW⟩:=fZ (Own.ext Y.out z) (iI X x) (by have:=S.out;have:=C.out;omega) (s.out.trans' z).b.size;have bK:Hid (aK w5 G.heap.size A5 (p+1) c5 ((l.take (k+1)).flatMap (jT T))):=ah (by rw[D.out,y.out];exact d);have aZ:Hid (Ext G w5):=ah (dW (s.out.trans' z) g (λk hk=>(Own.lt (Own.ext Y.out z) k hk).1));clear d g jW z m zq j;subst E;go_wp2_with(at_builtin;refine dG rfl _ _ _ rfl _ _ rfl rfl _ _ f ?_);clear f;go_roundg J;exact⟨k+1,A5,p+1,c5,by omega,by go_num,rfl,bK,aZ⟩;omega
    .have y:=ah (zq.out.trans (nN' m));have E:0<K:=by
      have:=j.out.len.1;cases hq:aJ T.eP x with
      |nil=>exact absurd hq m
      |cons a r=>rw[hq]at this;simp only[List.length_cons]at this;omega
     have d3:decide (0<K)=true:=dt' E;have Fj:K<=18:=(by have h7:K=_:=j.out.len.1;have:=ad.out;omega);obtain⟨A5,c5,w5,f,d,g,jW⟩:=fZ Y.out j.out (by have:=S.out;have:=C.out;omega) s.out.b.size;have bK:Hid (aK w5 G.heap.size A5 (p+K) c5 ((l.take (k+1)).flatMap (jT T))):=ah (by rw[D.out,y.out];exact d);have aZ:Hid (Ext G w5):=ah (dW s.out g (λk hk=>(Own.lt Y.out k hk).1));clear d g jW m zq Fj E;go_wp2_with(at_builtin;refine dG rfl _ _ _ rfl _ _ rfl rfl _ _ f ?_);clear f;go_roundg J;exact⟨k+1,A5,p+K,c5,by omega,by go_num,rfl,bK,aZ⟩;omega
  .have HE:Hid ((l.take k).flatMap (jT T)=l.flatMap (jT T)):=ah (by rw[tL' (by omega)]);have a4:=N.out.trans' L.out;clear P;by_cases M:4096<((l.flatMap (jT T)).length:Int)
   .have D:Hid (lq T l=7):=ah (by rw[Q.out,pP' M]);have hd:decide (4096<(p:Int))=true:=(by rw[au,C.out,HE.out];exact M);have ao:decide (4096<p)=true:=(by rw[au];rw[au]at hd;omega);clear M;go_wp2;go_ret2;exact⟨none,0,0,by rw[D.out];rfl,a4,by rw[rZ,D.out,nN' (by decide)];exact aF.nil_ _⟩
   .have D:Hid (lq T l=0):=ah (by rw[Q.out,nN' M]);have hd:decide (4096<(p:Int))=false:=(by rw[aA,C.out,HE.out];exact M);have ao:decide (4096<p)=false:=(by rw[aA];rw[aA]at hd;omega);have ap:Hid (aF wr ⟨A2,p,c2⟩ (l.flatMap (jT T))):=ah (by rw[<- HE.out];exact aK.ints I.out);clear M;go_wp2;go_ret2;exact⟨A2,p,c2,by rw[D.out];rfl,a4,by rw[rZ,D.out,pP' rfl];exact ap.out⟩
 .have aa:(aX T l != 0)=true:=bN' F
  have HZ:Hid (lq T l=aX T l/\lq T l≠0):=ah (by
   have h1:lq T l=aX T l:=by rw[lq,pP' F]
   exact⟨h1,by rw[h1];exact F⟩)
  have hb:=N.out.trans' O.out;clear F P;go_wp2;go_ret2;exact⟨none,0,0,by rw[HZ.out.1];rfl,hb,by rw[rZ,nN' HZ.out.2];exact aF.nil_ _⟩
def pR(T:aj)(l:List Int):List Int×Int:=if fB T l≠0 then([],fB T l)else if lq T (kT T l)≠0 then([],lq T (kT T l))else(kT T (rZ T (kT T l)),fB T (rZ T (kT T l)))
def lF(T:aj)(l:List Int):List Int×Int:=if(pR T l).2≠0 then([],(pR T l).2)else mF (pR T l).1
theorem aYY(ht:aW w t T)(X:aF w ⟨A,n,c⟩ l):
 Calls prog 92 #[t.v,.slice A n c] w (IU w (pR T l).1 (pR T l).2):=by
 have f:=dw w t;have g:=ah f;have q:=ah (ht.aC f);have M:=ah (LK T t l A n c (tW' w t) q.out (X.ext f));have J:Hid (pR T l=if fB T l≠0 then([],fB T l)else if lq T (kT T l)≠0 then([],lq T (kT T l))else(kT T (rZ T (kT T l)),fB T (rZ T (kT T l)))):=rfl;generalize fB T l=E0 at*;generalize kT T l=R0 at*;generalize pR T l=D at*;go_enter func92,ntmps92;go_wp2_with fail;refine M.out.mono ?_;rintro e K⟨B,m,d,rfl,h,r⟩;have i:=ah h;have s:=ah r;have Y:∀k:Nat,K.cell? ⟨w.heap.size,k,none⟩=t.v.cells[k]? :=aQ h;have x:=g.out.trans' h;by_cases o:E0=0
 case neg=>
  have N:(E0 != 0)=true:=bN' o;have b:=ah (J.out.trans (pP' o));go_wp2;go_ret2;exact⟨none,0,0,by rw[b.out];rfl,x,by rw[b.out];exact aF.nil_ _⟩
 have j:=ah (J.out.trans (nN' (by rw[o];simp)));have N:(E0 != 0)=false:=bZ' o;have y:=ah (aYb T t R0 B m d K (q.out.aC i.out) s.out);generalize lq T R0=E1 at*;generalize rZ T R0=R1 at*;go_wp2_with fail;refine y.out.mono ?_;rintro e L⟨O,P,Q,rfl,z,C⟩;have a:=ah (i.out.trans' z);have E:=ah C;have Z:∀k:Nat,L.cell? ⟨w.heap.size,k,none⟩=t.v.cells[k]? :=aQ a.out;have F:=g.out.trans' a.out;by_cases p:E1=0
 case neg=>
  have R:(E1 != 0)=true:=bN' p;have b:=ah (j.out.trans (pP' p));go_wp2;go_ret2;exact⟨none,0,0,by rw[b.out];rfl,F,by rw[b.out];exact aF.nil_ _⟩
 have b:=ah (j.out.trans (nN' (by rw[p];simp)));have R:(E1 != 0)=false:=bZ' p;have y:=ah (LK T t R1 O P Q L (q.out.aC a.out) E.out);go_wp2_with fail;refine y.out.mono ?_;rintro e w3⟨S,U,V,rfl,G,H⟩;have I:=ah H;have W:=g.out.trans' (a.out.trans' G);go_wp2;go_ret2;exact⟨S,U,V,by rw[b.out];rfl,W,by rw[b.out];exact I.out⟩
theorem aYU(ht:aW w t T)(X:aF w ⟨A,n,c⟩ l):
 Calls prog 65 #[t.v,.slice A n c] w (IU w (pR T l).1 (pR T l).2):=by
 have f:=dw w t;have g:=ah f;have q:=ah (ht.aC f);have M:=ah (Jo T t l A n c (tW' w t) q.out (X.ext f));have J:Hid (pR T l=if fB T l≠0 then([],fB T l)else if lq T (kT T l)≠0 then([],lq T (kT T l))else(kT T (rZ T (kT T l)),fB T (rZ T (kT T l)))):=rfl;generalize fB T l=E0 at*;generalize kT T l=R0 at*;generalize pR T l=D at*;go_enter func65,ntmps65;go_wp2_with fail;refine M.out.mono ?_;rintro e K⟨B,m,d,rfl,h,r⟩;have i:=ah h;have s:=ah r;have Y:∀k:Nat,K.cell? ⟨w.heap.size,k,none⟩=t.v.cells[k]? :=aQ h;have x:=g.out.trans' h;by_cases o:E0=0
 case neg=>
  have N:(E0 != 0)=true:=bN' o;have b:=ah (J.out.trans (pP' o));go_wp2;go_ret2;exact⟨none,0,0,by rw[b.out];rfl,x,by rw[b.out];exact aF.nil_ _⟩
 have j:=ah (J.out.trans (nN' (by rw[o];simp)));have N:(E0 != 0)=false:=bZ' o;have y:=ah (aYZ T t R0 B m d K (q.out.aC i.out) s.out);generalize lq T R0=E1 at*;generalize rZ T R0=R1 at*;go_wp2_with fail;refine y.out.mono ?_;rintro e L⟨O,P,Q,rfl,z,C⟩;have a:=ah (i.out.trans' z);have E:=ah C;have Z:∀k:Nat,L.cell? ⟨w.heap.size,k,none⟩=t.v.cells[k]? :=aQ a.out;have F:=g.out.trans' a.out;by_cases p:E1=0
 case neg=>
  have R:(E1 != 0)=true:=bN' p;have b:=ah (j.out.trans (pP' p));go_wp2;go_ret2;exact⟨none,0,0,by rw[b.out];rfl,F,by rw[b.out];exact aF.nil_ _⟩
 have b:=ah (j.out.trans (nN' (by rw[p];simp)));have R:(E1 != 0)=false:=bZ' p;have y:=ah (Jo T t R1 O P Q L (q.out.aC a.out) E.out);go_wp2_with fail;refine y.out.mono ?_;rintro e w3⟨S,U,V,rfl,G,H⟩;have I:=ah H;have W:=g.out.trans' (a.out.trans' G);go_wp2;go_ret2;exact⟨S,U,V,by rw[b.out];rfl,W,by rw[b.out];exact I.out⟩
theorem aYd(ht:aW w t T)(z:aF w ⟨A,n,c⟩ l):
 Calls prog 48 #[t.v,.slice A n c] w (xY w (lF T l)):=by
 have a:=dw w t;have r:=ah (aYY T t l A n c (tW' w t) (ht.aC a) (z.ext a));have g:Hid (lF T l=if(pR T l).2≠0 then([],(pR T l).2)else mF (pR T l).1):=rfl;generalize pR T l=S at*;generalize lF T l=D at*;obtain⟨s,h⟩:=S;simp only[]at r g;go_enter func48,ntmps48;go_wp2_with fail;refine r.out.mono ?_;rintro e x⟨B,m,d,rfl,i,j⟩;have k:=ah j;have b:=a.trans' i;by_cases f:h=0
 case neg=>
  have y:(h != 0)=true:=bN' f;have o:=ah (g.out.trans (pP' f));go_wp2;go_ret2;exact⟨by rw[o.out];rfl,b⟩
 have o:=ah (g.out.trans (nN' (by rw[f];simp)));have y:(h != 0)=false:=bZ' f;go_wp2_with fail;refine(uenc_spec s B m d x k.out).mono ?_;rintro e C⟨rfl,p⟩;have q:=b.trans' p;go_wp2;go_ret2;exact⟨by rw[o.out];rfl,q⟩
theorem aYc(ht:aW w t T)(z:aF w ⟨A,n,c⟩ l):
 Calls prog 22 #[t.v,.slice A n c] w (xY w (lF T l)):=by
 have a:=dw w t;have r:=ah (aYU T t l A n c (tW' w t) (ht.aC a) (z.ext a));have g:Hid (lF T l=if(pR T l).2≠0 then([],(pR T l).2)else mF (pR T l).1):=rfl;generalize pR T l=S at*;generalize lF T l=D at*;obtain⟨s,h⟩:=S;simp only[]at r g;go_enter func22,ntmps22;go_wp2_with fail;refine r.out.mono ?_;rintro e x⟨B,m,d,rfl,i,j⟩;have k:=ah j;have b:=a.trans' i;by_cases f:h=0
 case neg=>
  have y:(h != 0)=true:=bN' f;have o:=ah (g.out.trans (pP' f));go_wp2;go_ret2;exact⟨by rw[o.out];rfl,b⟩
 have o:=ah (g.out.trans (nN' (by rw[f];simp)));have y:(h != 0)=false:=bZ' f;go_wp2_with fail;refine(ED s B m d x k.out).mono ?_;rintro e C⟨rfl,p⟩;have q:=b.trans' p;go_wp2;go_ret2;exact⟨by rw[o.out];rfl,q⟩
theorem aF.NZ{w:World}{s z:SV}{l:List Int}(h:aF w s l){p:Addr}(c:w.cell? p=some z.v)(v:Value):aF (w.setCell p v) s l:=
 ⟨h.1,λi x d=>by
  obtain⟨b,o,f,a⟩:=h.2 i x d;refine⟨b,o,f,?_⟩;rw[World.cell?_setCell_other _ _ _ _ (λe=>?_)]
  .exact a
  .subst e;rw[a]at c
   cases c⟩
structure LsP(w0 w:World)(g N C:Nat)(S:List SV)(ls:List (List Int)):Prop where
 own:BG w w0.heap.size (some ⟨g,0,none⟩) N C S
 eq:S.length=N
 len:ls.length=N
 ok:∀(i:Nat)s x,S[i]? =some s->ls[i]? =some x->aF w s x
 ext:Ext w0 w
theorem Dt.lsp{a w:World}{A:Option Addr}{N C:Nat}{ls:List (List Int)}(h:Dt a w A N C ls)(l:Ext a w):∃g S,A=some ⟨g,0,none⟩/\LsP a w g N C S ls:=by
 obtain⟨g,S,rfl,b,c,d,f⟩:=h;exact⟨g,S,rfl,b,c,d,λi s x j k=>(f i s x j k).1,l⟩
theorem LsP.aC{b w w':World}{g N C:Nat}{S:List SV}{ls:List (List Int)}(h:LsP b w g N C S ls)(a:Ext w w'):LsP b w' g N C S ls:=
 ⟨Own.ext h.own a,h.eq,h.len,λi s x c d=>(h.ok i s x c d).ext a,h.ext.trans' a⟩
theorem LsP.lists{l w:World}{g N C:Nat}{S:List SV}{ls:List (List Int)}(h:LsP l w g N C S ls):qw w ⟨some ⟨g,0,none⟩,N,C⟩ ls:=by
 obtain⟨j,k⟩:=Own.le h.own;have m:=h.eq;have d:=h.len;refine⟨⟨d.symm,by rw[d];exact j,k⟩,λi x f=>?_⟩;have o:=(List.getElem?_eq_some_iff.1 f).1;have b:i<S.length:=by omega
 refine⟨g,0,S[i].a,S[i].n,S[i].c,rfl,?_,h.ok i S[i] x (List.getElem?_eq_getElem b) f⟩;have:=World.ownsRow.cellAt h.own i (by simp;omega);rw[Nat.zero_add,this,List.getElem?_map,List.getElem?_eq_getElem b];rfl
theorem LsP.set{m w:World}{g N C:Nat}{S:List SV}{ls:List (List Int)}(h:LsP m w g N C S ls){i:Nat}(q:i<N){z:SV}{x:List Int}(p:aF w z x):LsP m (w.setCell ⟨g,i,none⟩ z.v) g N C (S.set i z) (ls.set i x):=by
 have n:=h.eq;have o:=h.len;have c:i<S.length:=by omega
 have d:=Own.lt h.own g rfl;have k:w.cell? ⟨g,i,none⟩=some (S[i]).v:=by
  have:=World.ownsRow.cellAt h.own i (by simp;omega);rw[this,List.getElem?_map,List.getElem?_eq_getElem c];rfl
 have f:=World.ownsRow.stored h.own i z.v;refine⟨?_,by simp[n],by simp[o],λj s y a b=>?_,h.ext.kQ d.1 _⟩
 .have:=f.1;unfold BG Own;rw[List.map_set];exact this
 .by_cases l:j=i
  .subst l;rw[List.getElem?_set_self (by omega)]at a b;injection a with a;injection b with b;subst a b;exact p.NZ k _
  .rw[List.getElem?_set_ne (λe=>l e.symm)]at a b;exact(h.ok j s y a b).NZ k _
noncomputable def mJ(T:aj):Int->List (List Int)->Option (Int×Int)
 |_,[]=>none
 |i,l::r=>if(iD T l).2≠0 then some (i,(iD T l).2)else mJ T (i+1) r
noncomputable def vX(T:aj)(L:List (List Int)):List (List Int)×Int×Int:=
 match mJ T 0 L with
 |some p=>([],p)
 |none=>if uU T (L.map λl=>(iD T l).1)≠0 then([],vW T (L.map λl=>(iD T l).1),uU T (L.map λl=>(iD T l).1))else(L.map λl=>(iD T l).1,0,0)
noncomputable def dV(T:aj)(s:List Int):List (List Int)×Int×Int:=
 if dh T=false then([],0,2)else if s.length=0 then([],0,10)else if(gZ s).2.2≠0 then([],(gZ s).2.1,(gZ s).2.2)
 else if jS T (gZ s).1≠0 then([],qA T (gZ s).1,jS T (gZ s).1)else if fB T (lQ T (gZ s).1)≠0 then([],0,fB T (lQ T (gZ s).1))
 else vX T (nK (lH T (lQ T (gZ s).1)))
def II(w:World)(d:List (List Int)×Int×Int)(e:Ending)(w':World):Prop:=∃A n c,e=.returned (.tuple #[.slice A n c,.int .i64 d.2.1,.int .i64 d.2.2])/\qw w' ⟨A,n,c⟩ d.1/\Ext w w'
theorem qW:qw w ⟨none,0,0⟩ []:=⟨⟨rfl,lr' _,by simp only[maxLen];omega⟩,λi x a=>by simp at a⟩
theorem WM{T:aj}{L:List (List Int)}{k:Nat}(a:k<L.length):mJ T k (L.drop k)=if(iD T L[k]).2≠0 then some ((k:Int),(iD T L[k]).2)else mJ T ((k+1:Nat):Int) (L.drop (k+1)):=by
 rw[drop_at L k a];rfl
theorem O1{T:aj}{l:List Int}(h:(iD T l).2=0):iy T (iD T l).1=0:=by
 unfold iD at h |-;split at h
 .exact absurd h ‹_›
 .split at h
  .exact absurd h ‹_›
  .rename_i b a;rw[nN' b,nN' a];exact Decidable.not_not.1 a
theorem Fe{T:aj}{l:List Int}(h:iy T l=0):aX T l=0:=by
 unfold iy at h;split at h
 .rename_i a;exact absurd h a
 .rename_i a;exact Decidable.not_not.1 a
theorem NV:∀(r:List Int)(L:List (List Int))(cur:List Int),(lbG L cur r).length<=L.length+1+r.length
 |[],L,cur=>by simp[lbG]
 |c::r,L,cur=>by
  unfold lbG;split
  .have:=NV r (L++[cur]) [];simp at this |-;omega
  .have:=NV r L (cur++[c]);simp at this |-;omega
theorem NW:∀(r:List Int)(L:List (List Int))(cur:List Int)(x:List Int),x∈lbG L cur r->x∈L\/x.length<=cur.length+r.length
 |[],L,cur,x,h=>by
  unfold lbG at h;rw[List.mem_append,List.mem_singleton]at h;rcases h with h|rfl
  .exact .inl h
  .exact .inr (lr' _)
 |c::r,L,cur,x,h=>by
  unfold lbG at h;split at h
  .rcases NW r _ _ x h with a|a
   .rw[List.mem_append,List.mem_singleton]at a;rcases a with a|rfl
    .exact .inl a
    .exact .inr (by simp)
   .exact .inr (by simp at a |-;omega)
  .rcases NW r _ _ x h with a|a
   .exact .inl a
   .exact .inr (by simp at a |-;omega)
theorem NY:(nK l).length<=l.length+1:=by
 have:=NV l [] [];unfold nK;simp at this;omega
theorem WI{l x:List Int}(h:x∈nK l):x.length<=l.length:=by
 rcases NW l [] [] x h with a|a
 .cases a
 .simpa using a
theorem BJ{T:aj}{L:List (List Int)}{p:Int×Int}(h:mJ T 0 L=some p):vX T L=([],p):=by
 unfold vX;rw[h]
theorem IB{T:aj}{L:List (List Int)}(h:mJ T 0 L=none):vX T L=if uU T (L.map λl=>(iD T l).1)≠0 then([],vW T (L.map λl=>(iD T l).1),uU T (L.map λl=>(iD T l).1))else(L.map λl=>(iD T l).1,0,0):=by
 unfold vX;rw[h]
theorem Iz{T:aj}:∀{L:List (List Int)}{i:Int},mJ T i L=none->∀l∈L,(iD T l).2=0
 |[],_,_,l,a=>by cases a
 |x::r,i,h,l,a=>by
  unfold mJ at h;split at h
  .cases h
  .rename_i b;rcases List.mem_cons.1 a with rfl|a
   .exact Decidable.not_not.1 b
   .exact Iz h l a
theorem WL{α β:Type}(f:α->β)(L:List α)(M:List β)(e:M.length=L.length)(k:Nat)(a:k<L.length)(h:M.take k=(L.take k).map f):(M.set k (f L[k])).take (k+1)=(L.take (k+1)).map f:=by
 rw[tS' a,List.map_append,tS' (by simp[e,a]),List.take_set_of_le (lr' _),h];simp
def PrL(T:aj)(w0 wb:World)(g N C:Nat)(L:List (List Int))(gh:Nat)(s53:Value)(wx:World):Prop:=
 ∃(k:Nat)(S:List SV)(M:List (List Int)),k+gh=N/\s53=.int .i64 k/\Hid (LsP w0 wx g N C S M)/\Hid (M.take k=(L.take k).map λl=>(iD T l).1)/\Hid (M.drop k=L.drop k)/\Hid (mJ T k (L.drop k)=mJ T 0 L)/\Hid (Ext wb wx)
theorem WJ(s:List Int)(w:World)(ht:aW w t T)(hs:IsB s):Calls prog 46 #[t.v,.string (sB s)] w (II w (dV T s)):=by
 have a1:=dw w t;have p:=ah a1;have HT:=ah (ht.aC a1);have HC:=ah (XY t T (tW' w t) HT.out)
 have HD:Hid (dV T s=if dh T=false then([],0,2)else if s.length=0 then([],0,10)else if(gZ s).2.2≠0 then([],(gZ s).2.1,(gZ s).2.2)
  else if jS T (gZ s).1≠0 then([],qA T (gZ s).1,jS T (gZ s).1)else if fB T (lQ T (gZ s).1)≠0 then([],0,fB T (lQ T (gZ s).1))
  else vX T (nK (lH T (lQ T (gZ s).1)))):=rfl
 generalize dV T s=D at*;clear ht a1;by_cases hw:dh T=false
 .have i:=ah (HD.out.trans (pP' hw));have q:(mM T != 0)=true:=by rw[bne_iff_ne];exact λh=>by have:=(BP T).1 h;rw[hw]at this;cases this
  clear hw HD hs;go_enter func46,ntmps46;go_wp2_with fail;refine HC.out.mono ?_;rintro e w1⟨rfl,j⟩;have G:=p.out.trans' j;clear j;go_wp2;go_ret3;exact⟨none,0,0,by rw[i.out];rfl,by rw[i.out];exact qW _,G⟩
 have K:=ah (HD.out.trans (nN' hw));rw[(BP T).2 (by cases h:dh T;exact absurd h hw;rfl)]at HC;have HW:Hid (dh T=true):=ah (by cases h:dh T;exact absurd h hw;rfl);clear HD hw;have a3:=y9 s;by_cases h0:s.length=0
 .have i:=ah (K.out.trans (pP' h0));rw[List.eq_nil_of_length_eq_zero h0,show([]:List Int).isEmpty=true from rfl]at a3;rw[List.eq_nil_of_length_eq_zero h0];clear K h0 hs;go_enter func46,ntmps46;go_wp2_with fail;refine HC.out.mono ?_;rintro e w1⟨rfl,j⟩;have G:=p.out.trans' j;clear j;go_wp2;go_ret3;exact⟨none,0,0,by rw[i.out];rfl,by rw[i.out];exact qW _,G⟩
 have H:=ah (K.out.trans (nN' h0));rw[show s.isEmpty=false from by cases s with|nil=>exact absurd rfl h0|cons a b=>rfl]at a3;clear K h0;have HU:Hid (∀w':World,Calls prog 80 #[.string (sB s)] w' (Iy w' (gZ s))):=ah λw'=>udec_spec s hs w'
 clear hs;generalize gZ s=V at*;obtain⟨l,di,de⟩:=V;simp only[]at H;go_enter func46,ntmps46;go_wp2_with fail;refine HC.out.mono ?_;rintro e w1⟨rfl,j⟩;have b9:=ah j;clear j HC;go_wp2_with fail;refine(HU.out w1).mono ?_;rintro e w2⟨A,n,c,rfl,ag,ai⟩;have O:=ah (b9.out.trans' ai);have a5:=ah ag;have al:=p.out.trans' O.out;simp only[]at a5;clear ai ag HU a3;by_cases f:de=0
 case neg=>
  have i:=ah (H.out.trans (pP' f));have q:(de != 0)=true:=bN' f;clear f H;go_wp2;go_ret3;exact⟨none,0,0,by rw[i.out];rfl,by rw[i.out];exact qW _,al⟩
 have P:=ah (H.out.trans (nN' (by rw[f];simp)));have q:(de != 0)=false:=bZ' f;have rT:∀k:Nat,w2.cell? ⟨w.heap.size,k,none⟩=t.v.cells[k]? :=aQ O.out;clear H al;go_wp2_with fail;refine(aPl T t l A n c w2 (HT.out.aC O.out) a5.out).mono ?_;rintro e w3⟨A3,n3,c3,rfl,am,an⟩;have Q:=ah (O.out.trans' am);have ao:=ah an;have ap:=p.out.trans' Q.out;clear am an rT q f;generalize jS T l=me at*;generalize qA T l=mi at*;generalize lQ T l=ml at*;by_cases f:me=0
 case neg=>
  have i:=ah (P.out.trans (pP' f));have q:(me != 0)=true:=bN' f;clear f P;go_wp2;go_ret3;exact⟨none,0,0,by rw[i.out];rfl,by rw[i.out];exact qW _,ap⟩
 have R:=ah (P.out.trans (nN' (by rw[f];simp)));have q:(me != 0)=false:=bZ' f;have rT:∀k:Nat,w3.cell? ⟨w.heap.size,k,none⟩=t.v.cells[k]? :=aQ Q.out;clear P ap;go_wp2_with fail;refine(XQ T t ml A3 n3 c3 w3 (HT.out.aC Q.out) ao.out).mono ?_;rintro e w4⟨A4,n4,c4,rfl,aq,ar⟩;have a7:=ah (Q.out.trans' aq);have av:=ah ar
 have aw:Hid (fB T ml=0->(lH T ml).length<=4096):=ah (λh=>by
  have h2:=(AL h).2;have h3:=Jh (T:=T) ml;rw[lH,pP' h]
  omega)
 have ax:=p.out.trans' a7.out;clear aq ar rT q f;generalize fB T ml=ne at*;generalize lH T ml=nl at*;by_cases f:ne=0
 case neg=>
  have i:=ah (R.out.trans (pP' f));have q:(ne != 0)=true:=bN' f;clear f R;go_wp2;go_ret3;exact⟨none,0,0,by rw[i.out];rfl,by rw[i.out];exact qW _,ax⟩
 have ay:=ah (R.out.trans (nN' (by rw[f];simp)));have q:(ne != 0)=false:=bZ' f;have zk:=ah (aw.out f);clear R ax f aw;go_wp2_with fail;refine(aMw nl A4 n4 c4 w4 av.out (by have:=zk.out;omega)).mono ?_;rintro e w5⟨A5,N,C,rfl,az,a8⟩;obtain⟨g,S5,rfl,a9⟩:=az.lsp a8;have aZ:=ah (a7.out.trans' a8);have aD:=ah a9;have ba:Hid ((nK nl).length<=5000):=ah (by have:=NY nl;have:=zk.out;omega);have bb:Hid (∀x∈nK nl,x.length<=4096):=ah (λx G=>by have:=WI G;have:=zk.out;omega);have aE:(nK nl).length=N:=a9.len;clear a8 az a9 zk av ao a5 q;generalize nK nl=L at*;have br:N<=5000:=by have:=ba.out;omega
 have U:=ah aE;clear aE;go_wp2;go_loopg[53] N (λgh bc wx=>PrL T w4 (tW' w t) g N C L gh bc wx);exact⟨0,S5,L,by omega,rfl,aD,ah rfl,ah rfl,ah rfl,aZ⟩;obtain⟨k,S,M,bs,rfl,W,X,Y,r,HB⟩:=hrel;clear aD;by_cases hk:k<N
 .obtain⟨bd,rfl⟩:=gS' gk;have I:k<L.length:=by have:=U.out;omega
  have Z:k<M.length:=by have:=W.out.len;omega
  have aL:M[k]=L[k]:=by
   have f:=Y.out;rw[drop_at M k Z,drop_at L k I]at f;exact(List.cons.inj f).1
  have aM:M.drop (k+1)=L.drop (k+1):=by
   have f:=Y.out;rw[drop_at M k Z,drop_at L k I]at f;exact(List.cons.inj f).2
  have aR:M.length=L.length:=by have:=W.out.len;have:=U.out;omega
  obtain⟨b,o,za,zn,zc,hA,aa,hz⟩:=W.out.lists.at_ Z;injection hA with hA;injection hA with bi bj;subst bi bj;rw[aL]at hz;rw[Nat.zero_add]at aa;have a0:=ah (WM (T:=T) I);have bk:=ah (bb.out _ (gM' I));have HZ:=ah hz;have aY:Hid (∀y,y=(iD T L[k]).1->(M.set k y).take (k+1)=(L.take (k+1)).map λl=>(iD T l).1):=ah (λy hy=>by rw[hy];exact WL (λl=>(iD T l).1) L M aR k I X.out);have b0:Hid (∀y,(M.set k y).drop (k+1)=L.drop (k+1)):=ah (λy=>by rw[List.drop_set_of_lt (by omega)];exact aM);clear hz aL aM aR X Y Z;generalize L[k]=x at*;have bl:wr.frozen? ⟨g,k,none⟩=false:=World.ownsRow.frozenAt W.out.own k;have bt:=z0' k;have bu:(k:Int)<(N:Int):=by omega
  have rT:∀k:Nat,wr.cell? ⟨w.heap.size,k,none⟩=t.v.cells[k]? :=aQ HB.out;go_wp2_with fail;go_region_law((go_simp;go_at_call 84;refine(aR3 T t x za zn zc _ (HT.out.aC (HB.out.trans' eR'.dL)) (HZ.out.ext eR'.dL) bk.out).mono ?_;rintro e w6⟨B,m,d,rfl,uM,E⟩;have eY:Hid (Ext wr w6):=ah (eR'.dL.trans' E);have qP:=ah uM;have F:=ah (W.out.aC eY.out);have bv:w6.frozen? ⟨g,k,none⟩=false:=World.ownsRow.frozenAt F.out.own k;have bw:=bg (bD eY.out) aa;clear E uM))
  all_goals
   have bm:=ah (F.out.set hk (z:=⟨B,m,d⟩) (x:=(iD T x).1) qP.out);have qQ:Hid (Ext (tW' w t) (w6.setCell ⟨g,k,none⟩ (.slice B m d))):=ah ((HB.out.trans' eY.out).kQ (Nat.le_trans a7.out.b.size (Own.lt F.out.own g rfl).1) _);have bn:=ah (aY.out _ rfl);have bo:=ah (b0.out (iD T x).1);clear rT bl aa qP F aY b0;generalize(iD T x).1=y at*;generalize(iD T x).2=ev at*;by_cases f:ev=0
   .have q:(ev != 0)=false:=bZ' f;have bp:=ah ((a0.out.trans (nN' (by rw[f];simp))).symm.trans r.out);clear f a0 r;go_wp2;go_roundg bd;exact⟨k+1,S.set k ⟨B,m,d⟩,M.set k y,by omega,by go_num,bm,bn,bo,bp,qQ⟩;omega
   .have q:(ev != 0)=true:=bN' f;have i:=ah (ay.out.trans (BJ (r.out.symm.trans (a0.out.trans (pP' f)))));have G:=p.out.trans' qQ.out;clear f a0 r;go_wp2;go_ret3;exact⟨none,0,0,by rw[i.out];rfl,by rw[i.out];exact qW _,G⟩
 .have bq:k=N:=by omega
  subst bq
  have ab:Hid (M=L.map λl=>(iD T l).1):=ah (by
   have f:=X.out;have h2:=U.out;have h3:=W.out.len
   rwa[tL' (by omega),tL' (by omega)]at f)
  have ac:Hid (mJ T 0 L=none):=ah (by
   have h2:=U.out;rw[<- r.out,List.drop_of_length_le (by omega)]
   rfl)
  have EK:Hid (∀l∈M,aX T l=0):=ah (λl hl=>by
   rw[ab.out,List.mem_map]at hl;obtain⟨x,G,rfl⟩:=hl
   exact Fe (O1 (Iz ac.out x G)))
  have J:=ah (ay.out.trans (IB ac.out));rw[<- ab.out]at J;have b1:=ah (aQT T t M _ _ _ wr (HT.out.aC HB.out) W.out.lists HW.out EK.out (by have:=W.out.len;omega));have rT:∀k:Nat,wr.cell? ⟨w.heap.size,k,none⟩=t.v.cells[k]? :=aQ HB.out;clear X Y r ac EK ab;go_wp2_with fail;refine b1.out.mono ?_;rintro e w6⟨rfl,E⟩;have F:=ah (W.out.aC E);have G:=p.out.trans' (HB.out.trans' E);clear rT E b1;generalize vW T M=dmi at*;generalize uU T M=dme at*;by_cases f:dme=0
  .have q:(dme != 0)=false:=bZ' f;have i:=ah (J.out.trans (nN' (by rw[f];simp)));clear f J;go_wp2;go_ret3;exact⟨_,_,_,by rw[i.out];rfl,by rw[i.out];exact F.out.lists,G⟩
  .have q:(dme != 0)=true:=bN' f;have i:=ah (J.out.trans (pP' f));clear f J;go_wp2;go_ret3;exact⟨none,0,0,by rw[i.out];rfl,by rw[i.out];exact qW _,G⟩
def Va:TypeDesc->Bool
 | .struct _=>true
 | .array _ _=>true
 |_=>false
theorem uo{P:Program}{t:TypeId}{b:Bool}(h:(P.underlying t).map Va=some b):∀w,(isAgg t).run P w=.ok b w:=λw=>by
 cases a:P.underlying t with
 |none=>rw[a]at h;cases h
 |some d=>
  rw[a]at h;have h:Va d=b:=by simpa using h
  subst h;simp only[isAgg,Sem.run_bind,run_underlying a,Result.andThen_ok];cases d<;>rfl
theorem uq{P:Program}{t:TypeId}{n:Nat}(h:(P.info? t).map (·.size)=some n):∀w,(Go.sizeOf t).run P w=.ok n w:=λw=>by
 cases a:P.info? t with
 |none=>rw[a]at h;cases h
 |some i=>
  rw[a]at h;have h:i.size=n:=by simpa using h
  simp[Go.sizeOf,typeInfo,a,h]
theorem uw{P:Program}{t:TypeId}{z:Value}(h:(P.info? t).map (·.zero)=some (some z)):∀w,(zeroValue t).run P w=.ok z w:=λw=>by
 cases a:P.info? t with
 |none=>rw[a]at h;cases h
 |some i=>
  rw[a]at h;have h:i.zero=some z:=by simpa using h
  simp[zeroValue,typeInfo,a,h]
def rnJ:Go.Shelf.Ren:=⟨λx=>if x=156 then 205 else if x=165 then 262 else if x=166 then 263 else if x=169 then 264 else if x=240 then 286 else if x=241 then 287 else if x=276 then 305 else 306,λx=>if x=0 then 0 else if x=3 then 3 else if x=4 then 4 else if x=9 then 9 else if x=20 then 20 else if x=31 then 29 else if x=37 then 95 else if x=70 then 210 else if x=72 then 212 else if x=75 then 215 else if x=76 then 216 else if x=127 then 228 else if x=164 then 232 else if x=5 then 5 else 218,λx=>x⟩
theorem aNs:Lays.n156 prog rnJ where
 mixed:=by kernel_rfl
 f156:=func205.trans (by kernel_rfl)
 f165:=func262.trans (by kernel_rfl)
 f166:=func263.trans (by kernel_rfl)
 f169:=func264.trans (by kernel_rfl)
 f240:=func286.trans (by kernel_rfl)
 f241:=func287.trans (by kernel_rfl)
 f276:=func305.trans (by kernel_rfl)
 f277:=func306.trans (by kernel_rfl)
 t0:=by kernel_rfl
 a0:=uo (by kernel_rfl)
 z0:=uq (by kernel_rfl)
 v0:=uw (by kernel_rfl)
 t3:=by kernel_rfl
 a3:=uo (by kernel_rfl)
 z3:=uq (by kernel_rfl)
 v3:=uw (by kernel_rfl)
 t4:=by kernel_rfl
 a4:=uo (by kernel_rfl)
 z4:=uq (by kernel_rfl)
 v4:=uw (by kernel_rfl)
 t9:=by kernel_rfl
 a9:=uo (by kernel_rfl)
 z9:=uq (by kernel_rfl)
 v9:=uw (by kernel_rfl)
 t20:=by kernel_rfl
 a20:=uo (by kernel_rfl)
 z20:=uq (by kernel_rfl)
 v20:=uw (by kernel_rfl)
 t31:=by kernel_rfl
 a31:=uo (by kernel_rfl)
 z31:=uq (by kernel_rfl)
 v31:=uw (by kernel_rfl)
 t37:=by kernel_rfl
 a37:=uo (by kernel_rfl)
 z37:=uq (by kernel_rfl)
 v37:=uw (by kernel_rfl)
 t70:=by kernel_rfl
 a70:=uo (by kernel_rfl)
 z70:=uq (by kernel_rfl)
 v70:=uw (by kernel_rfl)
 t72:=by kernel_rfl
 a72:=uo (by kernel_rfl)
 z72:=uq (by kernel_rfl)
 v72:=uw (by kernel_rfl)
 t75:=by kernel_rfl
 a75:=uo (by kernel_rfl)
 z75:=uq (by kernel_rfl)
 v75:=uw (by kernel_rfl)
 t76:=by kernel_rfl
 a76:=uo (by kernel_rfl)
 z76:=uq (by kernel_rfl)
 v76:=uw (by kernel_rfl)
 t127:=by kernel_rfl
 a127:=uo (by kernel_rfl)
 z127:=uq (by kernel_rfl)
 v127:=uw (by kernel_rfl)
 t164:=by kernel_rfl
 a164:=uo (by kernel_rfl)
 z164:=uq (by kernel_rfl)
 v164:=uw (by kernel_rfl)
theorem aNq:Builder.Extra prog rnJ where
 sizeBuilder:=by kernel_rfl
 liesBuilder:=by kernel_rfl
 t5:=by kernel_rfl
 a5:=uo (by kernel_rfl)
 z5:=uq (by kernel_rfl)
 v5:=uw (by kernel_rfl)
 infoByte:=by kernel_rfl
 cellsByte:=by kernel_rfl
 sizeByte:=by kernel_rfl
 neB5:=by decide
def toU(l:List Int):List UInt8:=l.map λn=>UInt8.ofNat n.toNat
theorem Vd:∀r:List (List Int),Lib.joinTail (toU [46]) (r.map toU)=toU (jnG false r)
 |[]=>rfl
 |x::r=>by
  have h:=Vd r;unfold Lib.joinTail at h |-;rw[List.map_cons,List.map_cons,List.flatten_cons,h];show _=toU ((46::x)++jnG false r)
  unfold toU;simp
theorem join_eq{ls:List (List Int)}(h:ls≠[]):(⟨(Lib.join ((ls.map sB).map (·.data.toList)) (⟨#[46]⟩:ByteArray).data.toList).toArray⟩:ByteArray)=sB (jnL ls):=by
 cases ls with
 |nil=>exact absurd rfl h
 |cons x r=>
  have a:((x::r).map sB).map (·.data.toList)=toU x::r.map toU:=by
   simp only[List.map_cons,List.map_map];rfl
  have b:(⟨#[46]⟩:ByteArray).data.toList=toU [46]:=rfl;rw[a,b,Lib.join_cons,Vd];refine GK _ _ ?_;show toU x++toU (jnG false r)=_
  unfold toU;rw[<- List.map_append];rfl
theorem aO5(ls:List (List Int))(A:Option Addr)(n c:Nat)(w:World)(q:oC w ⟨A,n,c⟩ ls)(N:ls.length<=1000000):Calls prog 140 #[.slice A n c] w (xY w (pK ls)):=by
 have i:Hid (pK ls=if(jF ls).2≠0 then([],(jF ls).2)else(jnL ls,0)):=rfl;have z:=ah (V5 ls A n c w q N);have d:=ah (@Nz ls);generalize pK ls=D at*;generalize jF ls=C at*;obtain⟨O,B⟩:=C;have E:n=ls.length:=q.1.1;subst E;simp only at i d;by_cases r:B=0
 case neg=>
  rw[pP' r]at i;go_enter func140,ntmps140;go_wp2_with fail;refine z.out.mono ?_;rintro e F⟨k,rfl⟩;unfold IE2 at k;subst k;go_wp2;go_ret2;exact⟨by rw[i.out];rfl,eR'⟩
 rw[nN' (by rw[r];simp)]at i;subst r;obtain⟨l,_,G,_⟩:=d.out rfl;have a:=List.length_pos_iff.2 l;obtain⟨b,o,rfl,m⟩:=q.at_ a;have p:=World.block_lt_of_cell? w _ m;have f:=join_eq l
 have g:=Any.strings_Join (P:=prog) aNs aNq b o c (ls.map sB) ⟨#[46]⟩ w (λj x h=>by
  rw[List.getElem?_map]at h;cases s:ls[j]? with
  |none=>rw[s]at h;cases h
  |some y=>
   rw[s]at h;simp only[Option.map_some,Option.some.injEq]at h;subst h;obtain⟨H,I,e,t⟩:=q.2 j y s;have e:some (⟨b,o,none⟩:Addr)=some ⟨H,I,none⟩:=e;injection e with e;injection e with J K;subst J K
   exact t) p (by rw[List.length_map];omega) (by rw[List.length_map];exact q.1.2.1) (by
  have:=congrArg ByteArray.size f;rw[uP]at this;have e:(⟨(Lib.join ((ls.map sB).map (·.data.toList)) (⟨#[46]⟩:ByteArray).data.toList).toArray⟩:ByteArray).size=(Lib.join ((ls.map sB).map (·.data.toList)) (⟨#[46]⟩:ByteArray).data.toList).length:=by simp[ByteArray.size]
  omega)
 rw[f,List.length_map]at g;have L:=ah g;clear g f d m a p;go_enter func140,ntmps140;go_wp2_with fail;refine z.out.mono ?_;rintro e F⟨k,rfl⟩;unfold IE2 at k;subst k;go_wp2_with fail;refine L.out.mono ?_;rintro e Q⟨rfl,M⟩;go_wp2;go_ret2;exact⟨by rw[i.out];rfl,M⟩
abbrev oQ(w:World)(base:Nat)(A:Option Addr)(n c:Nat)(ls:List (List Int)):Prop:=Own w base 9 1 A n c (ls.map λx=>Value.string (sB x))
theorem infoSt:(prog.info? 9).map (λi=>(i.zero,i.size,i.bytes))=some (some (.string ⟨#[]⟩),1,16):=by kernel_rfl
theorem oQ.sts{w:World}{a n c:Nat}{A:Option Addr}{ls:List (List Int)}(h:oQ w a A n c ls):oC w ⟨A,n,c⟩ ls:=by
 have d:=Own.len h;simp only[List.length_map,Nat.mul_one]at d;obtain⟨f,g⟩:=Own.le h;refine⟨⟨d.symm,by rw[d];exact f,g⟩,λi x j=>?_⟩;obtain⟨b,rfl,k⟩:=Own.qL h i (.string (sB x)) (by simp[j]);exact⟨b,0,rfl,by simpa using k⟩
theorem IC{w:World}{a n c:Nat}{A:Option Addr}{ls:List (List Int)}(k:oQ w a A n c ls)(x:List Int)(p:n<=1000000)(f:a<=w.heap.size):
 ∃A' c' w',(∀ty,(Builtin.append_ #[29,29] ty #[.slice A n c,.slice (some ⟨w.heap.size,0,none⟩) 1 1]).run prog (w.alloc (.cells #[.string (sB x)] 9))=.ok (.slice A' (n+1) c') w')/\oQ w' a A' (n+1) c' (ls++[x])/\
  (w.alloc (.cells #[.string (sB x)] 9)).grownBy w' (aG A):=by
 have g:Ext w (w.alloc (.cells #[.string (sB x)] 9)):=eR'.aB _;obtain⟨A',o,w',h,d,l,_⟩:=AU (T:=29) underlying29 infoSt rfl (by omega) (Own.ext k g) (some ⟨w.heap.size,0,none⟩) 1 1 [.string (sB x)] rfl
  (λj u i=>by
   refine⟨w.heap.size,0,rfl,?_⟩;rw[Nat.zero_add,World.cell?_alloc_new]
   match j,i with
   |0,i=>simpa using i
   |j+1,i=>simp at i)
  (by intro u m;simp at m;subst m;rfl) (by simp only[maxLen];omega) (by omega) (Nat.le_trans f g.b.size)
 exact⟨A',o,w',h,by unfold oQ;rw[List.map_append];exact d,l⟩
noncomputable def oU:Int->List (List Int)->Option (Int×Int)
 |_,[]=>none
 |i,l::r=>if(alE l).2≠0 then some (i,(alE l).2)else oU (i+1) r
theorem WO{L:List (List Int)}{k:Nat}(a:k<L.length):oU k (L.drop k)=if(alE L[k]).2≠0 then some ((k:Int),(alE L[k]).2)else oU ((k+1:Nat):Int) (L.drop (k+1)):=by
 rw[drop_at L k a];rfl
noncomputable def vY(L:List (List Int)):List Int×Int×Int:=match oU 0 L with
 |some q=>([],q)
 |none=>if(jF (L.map λl=>(alE l).1)).2≠0 then([],jF (L.map λl=>(alE l).1))else((pK (L.map λl=>(alE l).1)).1,0,(pK (L.map λl=>(alE l).1)).2)
noncomputable def fG(T:aj)(s:List Int):List Int×Int×Int:=if(dV T s).2.2≠0 then([],(dV T s).2)else vY (dV T s).1
theorem Fh{L:List (List Int)}{q:Int×Int}(h:oU 0 L=some q):vY L=([],q):=by
 unfold vY;rw[h]
theorem Fg{L:List (List Int)}(h:oU 0 L=none):vY L=if(jF (L.map λl=>(alE l).1)).2≠0 then([],jF (L.map λl=>(alE l).1))else((pK (L.map λl=>(alE l).1)).1,0,(pK (L.map λl=>(alE l).1)).2):=by
 unfold vY;rw[h]
theorem aSC{T:aj}{L:List (List Int)}(h:(vX T L).2.2=0):(vX T L).1=L.map (λl=>(iD T l).1)/\∀l∈L,(iD T l).2=0:=by
 cases a:mJ T 0 L with
 |some p=>
  exfalso;rw[BJ a]at h;have:∀(L:List (List Int))(i:Int)(p:Int×Int),mJ T i L=some p->p.2≠0:=by
   intro L
   induction L with
   |nil=>intro i p h;cases h
   |cons x r ih=>
    intro i p h;unfold mJ at h;split at h
    .injection h with h;subst h;assumption
    .exact ih _ _ h
  exact this L 0 p a h
 |none=>
  rw[IB a]at h |-;split at h
  .exact absurd h ‹_›
  .rename_i b;rw[nN' b];exact⟨rfl,Iz a⟩
theorem BK{T:aj}{s:List Int}(h:(dV T s).2.2=0):(dV T s).1.length<=5000/\∀l∈(dV T s).1,iy T l=0/\l.length<=4096:=by
 unfold dV at h |-;split at h
 .cases h
 split at h
 .cases h
 split at h
 .exact absurd h ‹_›
 split at h
 .exact absurd h ‹_›
 split at h
 .exact absurd h ‹_›
 rename_i f g i j b;rw[nN' f,nN' g,nN' i,nN' j,nN' b];obtain⟨k,m⟩:=aSC h;have c:=Decidable.not_not.1 b;have p:=(AL c).2;have q:=Jh (T:=T) (lQ T (gZ s).1);have r:(lH T (lQ T (gZ s).1)).length<=4096:=by rw[lH,pP' c];omega
 have n:=NY (lH T (lQ T (gZ s).1));rw[k];refine⟨by rw[List.length_map];omega,λl d=>?_⟩;rw[List.mem_map]at d;obtain⟨x,o,rfl⟩:=d;have a:=O1 (m x o);exact⟨a,Fa (Fe a)⟩
def aSJ(w:World)(L:List (List Int))(d:List Int×Int×Int)(e:Ending)(w':World):Prop:=∃A n c,e=.returned (.tuple #[.slice A n c,.string (sB d.1),.int .i64 d.2.1,.int .i64 d.2.2])/\(d.2.2=0->qw w' ⟨A,n,c⟩ L)/\Ext w w'
def AsL(wb:World)(L:List (List Int))(gh:Nat)(s11 s32:Value)(wx:World):Prop:=
 ∃(k:Nat)(A:Option Addr)(c:Nat),k+gh=L.length/\s32=.int .i64 k/\s11=.slice A k c/\Hid (oQ wx wb.heap.size A k c ((L.take k).map λl=>(alE l).1))/\Hid (oU k (L.drop k)=oU 0 L)/\Hid (Ext wb wx)
theorem WS(s:List Int)(w:World)(ht:aW w t T)(hs:IsB s):Calls prog 76 #[t.v,.string (sB s)] w (aSJ w (dV T s).1 (fG T s)):=by
 have F:=dw w t;have q:=ah F;have HP:=ah (WJ T t s (tW' w t) (ht.aC F) hs);have S:Hid (fG T s=if(dV T s).2.2≠0 then([],(dV T s).2)else vY (dV T s).1):=rfl;have G:=ah (@BK T s);generalize fG T s=D at*;generalize dV T s=Y at*;obtain⟨L,pi,pe⟩:=Y;simp only[]at S G |-;clear ht F hs;go_enter func76,ntmps76;go_wp2_with fail;refine HP.out.mono ?_;rintro e w1⟨A,n,c,rfl,U,H⟩;have I:=ah H;have r:=ah U;have V:=q.out.trans' H;simp only[]at r;clear H U HP;by_cases a:pe=0
 case neg=>
  have p:=ah (S.out.trans (pP' a));have e1:(pe != 0)=true:=bN' a;have f:=ah a;clear a S;go_wp2_with fail
  (try simp only[Exit.inBlock,Exit.then]);refine bodyPost_ret (results_tmp4 rfl _ _ _) rfl ?_
  exact⟨none,0,0,by rw[p.out];rfl,λh=>absurd (by rw[p.out]at h;exact h) f.out,V⟩
 have W:=ah (S.out.trans (nN' (by rw[a];simp)));have e1:(pe != 0)=false:=bZ' a;have HO:=ah (G.out a);have hn:=r.out.len.1;subst hn;have hm:L.length<=5000:=HO.out.1;clear a S G V;go_wp2;go_loopg[11,32] L.length (λgh a4 a5 wx=>AsL w1 L gh a4 a5 wx);exact⟨0,none,0,by omega,rfl,rfl,ah (Own.nil_ _ _ _ _),ah rfl,ah eR'⟩;obtain⟨k,A2,c2,aE,rfl,rfl,z,d,J⟩:=hrel;have N:=q.out.trans' (I.out.trans' J.out);by_cases R:k<L.length
 .obtain⟨a6,rfl⟩:=gS' gk;obtain⟨b,o,za,zn,zc,rfl,b0,hz⟩:=(r.out.ext J.out).at_ R;have g:=ah (WO R);have X:Hid (((L.take (k+1)).map λl=>(alE l).1)=((L.take k).map λl=>(alE l).1)++[(alE L[k]).1]):=ah (by rw[tS' R,List.map_append];rfl);have HE:=ah (UD L[k] za zn zc wr hz (by have:=(HO.out.2 _ (gM' R)).2;omega));clear hz N;generalize L[k]=x at*;generalize alE x=Y at*;obtain⟨y,ev⟩:=Y;simp only[]at g X;have b2:=z0' k;have b3:(k:Int)<(L.length:Int):=by omega
  go_wp2_with fail;refine HE.out.mono ?_;rintro e w2⟨rfl,Z⟩;have i:=ah Z;clear Z;by_cases a:ev=0
  .have e2:(ev != 0)=false:=bZ' a;have aa:=ah ((g.out.trans (nN' (by rw[a];simp))).symm.trans d.out);obtain⟨A5,c5,w5,C,j,E⟩:=IC (Own.ext z.out i.out) y (by omega) (J.out.trans' i.out).b.size;have a0:Ext w2 (w2.alloc (.cells #[.string (sB y)] 9)):=eR'.aB _;have bK:Hid (oQ w5 w1.heap.size A5 (k+1) c5 ((L.take (k+1)).map λl=>(alE l).1)):=ah (by rw[X.out];exact j);have aZ:Hid (Ext w1 w5):=ah (dW ((J.out.trans' i.out).trans' a0) E (λk R=>(Own.lt (Own.ext z.out i.out) k R).1));clear j E a0 a g d;go_wp2_with(at_builtin;refine dG rfl _ _ _ rfl _ _ rfl rfl _ _ C ?_);clear C;go_roundg a6;exact⟨k+1,A5,c5,by omega,by go_num,rfl,bK,aa,aZ⟩;omega
  .have e2:(ev != 0)=true:=bN' a;have p:=ah (W.out.trans (Fh (d.out.symm.trans (g.out.trans (pP' a)))));have hx:=q.out.trans' (I.out.trans' (J.out.trans' i.out));have f:=ah a;clear a g d;go_wp2_with fail
   (try simp only[Exit.inBlock,Exit.then]);refine bodyPost_ret (results_tmp4 rfl _ _ _) rfl ?_
   exact⟨none,0,0,by rw[p.out];rfl,λh=>absurd (by rw[p.out]at h;exact h) f.out,hx⟩
 .have ac:k=L.length:=by omega
  subst ac;have a1:Hid (oU 0 L=none):=ah (by rw[<- d.out,List.drop_of_length_le (by omega)];rfl);have P:=ah (W.out.trans (Fg a1.out));have B:=oQ.sts z.out;rw[List.take_length]at B;have ad:=ah (V5 _ _ _ _ wr B (by rw[List.length_map];omega));have ae:=ah (aO5 _ _ _ _ wr B (by rw[List.length_map];omega));have af:Hid ((jF (L.map λl=>(alE l).1)).2=0->(pK (L.map λl=>(alE l).1)).2=0):=ah (λh=>by unfold pK;rw[nN' (by rw[h];simp)]);have ag:=ah (r.out.ext J.out);clear B z d a1;generalize(L.map λl=>(alE l).1)=O at*;generalize jF O=K at*;generalize pK O=M at*;obtain⟨ki,ke⟩:=K;obtain⟨m,me⟩:=M;simp only[]at P af;go_wp2_with fail;refine ad.out.mono ?_;rintro e w2⟨he,rfl⟩;unfold IE2 at he;subst he;simp only[];by_cases a:ke=0
  .have e2:(ke != 0)=false:=bZ' a;have p:=ah (P.out.trans (nN' (by rw[a];simp)));clear a N;go_wp2_with fail;refine ae.out.mono ?_;rintro e w3⟨rfl,Q⟩;have hx:=q.out.trans' (I.out.trans' (J.out.trans' Q));have al:=ah (ag.out.ext Q);clear Q;go_wp2_with fail
   (try simp only[Exit.inBlock,Exit.then]);refine bodyPost_ret (results_tmp4 rfl _ _ _) rfl ?_
   exact⟨_,_,_,by rw[p.out];rfl,λ_=>al.out,hx⟩
  .have e2:(ke != 0)=true:=bN' a;have p:=ah (P.out.trans (pP' a));have f:=ah a;clear a;go_wp2_with fail
   (try simp only[Exit.inBlock,Exit.then]);refine bodyPost_ret (results_tmp4 rfl _ _ _) rfl ?_
   exact⟨none,0,0,by rw[p.out];rfl,λh=>absurd (by rw[p.out]at h;exact h) f.out,N⟩
def Ai(w:World)(d:List Int×Int×Int)(e:Ending)(w':World):Prop:=e=.returned (.tuple #[.string (sB d.1),.int .i64 d.2.1,.int .i64 d.2.2])/\Ext w w'
theorem aSS(s:List Int)(w:World)(ht:aW w t T)(g:IsB s):Calls prog 44 #[t.v,.string (sB s)] w (Ai w (fG T s)):=by
 have a:=dw w t;have h:=ah (WS T t s (tW' w t) (ht.aC a) g);generalize fG T s=D at*;clear ht g;go_enter func44,ntmps44;go_wp2_with fail;refine h.out.mono ?_;rintro e i⟨A,n,c,rfl,d,b⟩;have f:=a.trans' b;clear b d;go_wp2;go_ret3;exact⟨rfl,f⟩
theorem WQ:∀(f:Bool)(ls:List (List Int)),(∀x∈ls,x.length<=4096)->(jnG f ls).length<=4097*ls.length
 |_,[],_=>by simp[jnG]
 |f,x::r,h=>by
  have b:=WQ false r λy a=>h y (List.mem_cons_of_mem _ a)
  have c:=h x (List.mem_cons_self ..);unfold jnG;rw[lA'];have d:(if f=true then x else 46::x).length<=4097:=by
   split
   .omega
   .simp;omega
  simp only[List.length_cons];omega
theorem aSU{L:List (List Int)}(h:(vY L).2.2=0):L.length<=127:=by
 cases a:oU 0 L with
 |some q=>
  exfalso;rw[Fh a]at h;have:∀(L:List (List Int))(i:Int)(p:Int×Int),oU i L=some p->p.2≠0:=by
   intro L
   induction L with
   |nil=>intro i p h;cases h
   |cons x r ih=>
    intro i p h;unfold oU at h;split at h
    .injection h with h;subst h;assumption
    .exact ih _ _ h
  exact this L 0 q a h
 |none=>
  rw[Fg a]at h;split at h
  .exact absurd h ‹_›
  .rename_i b;have:=(Nz (Decidable.not_not.1 b)).2.1;rwa[List.length_map]at this
noncomputable def uniD(T:aj)(s:List Int):List Int×Int×Int:=if(fG T s).2.2≠0 then([],(fG T s).2)else((mF (jnL (dV T s).1)).1,0,(mF (jnL (dV T s).1)).2)
theorem WR{T:aj}{s:List Int}(h:(fG T s).2.2=0):(jnL (dV T s).1).length<=1000000:=by
 unfold fG at h;split at h
 .exact absurd h ‹_›
 .rename_i a;have c:=aSU h;have d:=WQ true (dV T s).1 λx b=>((BK (Decidable.not_not.1 a)).2 x b).2
  unfold jnL;omega
theorem aSW(s:List Int)(w:World)(ht:aW w t T)(B:IsB s):Calls prog 45 #[t.v,.string (sB s)] w (Ai w (uniD T s)):=by
 have d:=dw w t;have C:=ah (WS T t s (tW' w t) (ht.aC d) B);have f:Hid (uniD T s=if(fG T s).2.2≠0 then([],(fG T s).2)else((mF (jnL (dV T s).1)).1,0,(mF (jnL (dV T s).1)).2)):=rfl;have l:=ah (@WR T s);generalize uniD T s=V at*;generalize fG T s=D at*;generalize(dV T s).1=L at*;obtain⟨m,K,o⟩:=D;simp only[]at f l;clear ht B;go_enter func45,ntmps45;go_wp2_with fail;refine C.out.mono ?_;rintro e E⟨A,n,c,rfl,a,g⟩;have h:=d.trans' g;simp only[]at a;clear g;by_cases b:o=0
 .have p:=ah (a b);have q:=ah (l.out b);have r:=ah (f.out.trans (nN' (by rw[b];simp)));have F:(o != 0)=false:=bZ' b;clear b a f l;go_wp2_with fail;refine(aNA L A n c E p.out q.out).mono ?_;rintro e G⟨H,I,J,rfl,i,j⟩;have x:=ah i;have y:=h.trans' j;clear i j;go_wp2_with fail;refine(uenc_spec (jnL L) H I J G x.out).mono ?_;rintro e M⟨rfl,k⟩;have z:=y.trans' k;clear k;go_wp2;go_ret3;exact⟨by rw[r.out];rfl,z⟩
 .have r:=ah (f.out.trans (pP' b));have F:(o != 0)=true:=bN' b;clear b a f l;go_wp2;go_ret3;exact⟨by rw[r.out];rfl,h⟩
theorem Fb(b:World)(ht:aW b t T)(g:aF b ⟨A,n,c⟩ l)(i:dh T=true)(j:l.length<=4096)(ks:List Int)(d:ks.length<=1000):∀w',Ext b w'->
 Calls prog 196 #[t.v,.slice A n c,.slice (some ⟨w'.heap.size,0,none⟩) ks.length ks.length] (w'.alloc (.cells (ks.map (Value.int .i64)).toArray 3)) λe w''=>e=.returned (.bool (dQ ks (dn T l)))/\Ext w' w'':=λw' h=>by
 have a:Ext w' (w'.alloc (.cells (ks.map (Value.int .i64)).toArray 3)):=eR'.aB _;exact(aQX T t l ks A n c _ _ _ _ (ht.aC (h.trans' a)) (g.ext (h.trans' a)) i j (aQW w' ks d) (by omega)).mono λe w'' f=>⟨f.1,a.trans' f.2⟩
theorem aQh(ht:aW w t T)(j:aF w ⟨A,n,c⟩ l)(g:aX T l=0):
 cE' 127 #[t.v,.slice A n c] w (.bool (nN T l)):=by
 have a:=dw w t;have h:=ah a;have m:=ah (ht.aC a);have o:=ah (j.ext a);have r:=j.len.1;subst r;have s:=ah (rD g).1;have x:=ah (Fa g);have p:=ah (tK t T l A _ c _ m.out o.out);rw[g]at p;have y:Hid (∀w',Ext (tW' w t) w'->Calls prog 196 #[t.v,.slice A l.length c,.slice (some ⟨w'.heap.size,0,none⟩) 3 3] (w'.alloc (.cells #[.int .i64 1,.int .i64 2,.int .i64 3] 3)) λe i=>e=.returned (.bool (dQ [1,2,3] (dn T l)))/\Ext w' i):=ah (Fb T t l A l.length c _ m.out o.out s.out x.out [1,2,3] (by decide));have z:Hid (nN T l=dQ [1,2,3] (dn T l)):=rfl;generalize dQ [1,2,3] (dn T l)=b1 at*;clear ht j a g;go_enter func127,ntmps127;go_wp2_with fail;refine p.out.mono ?_;rintro e q⟨rfl,b⟩;have d:=ah b;have B:∀k:Nat,q.cell? ⟨w.heap.size,k,none⟩=t.v.cells[k]? :=aQ b;clear b;go_wp2_with fail;refine(y.out q d.out).mono ?_;rintro e D⟨rfl,f⟩;have C:=(h.out.trans' d.out).trans' f;clear B f;go_wp2;go_ret;exact⟨by rw[z.out];rfl,C⟩
theorem aQm(q:Int):dQ [1,2] [q]=((q==1)||(q==2)):=by
 rw[Bool.eq_iff_iff];simp only[dQ,List.any_cons,List.any_nil,Bool.or_false,oT',bq'];omega
theorem any0(q:Int):dQ [0] [q]=(q==0):=by
 rw[Bool.eq_iff_iff];simp only[dQ,List.any_cons,List.any_nil,Bool.or_false,bq'];omega
theorem aQo(B:List Int):dQ [1,2,3,4] (ni B)=((lastB B==1)||((lastB B==2)||((lastB B==4)||(lastB B==3)))):=by
 unfold ni;generalize lastB B=z;rw[Bool.eq_iff_iff];split
 .rename_i h;subst h;decide
 .simp only[dQ,List.any_cons,List.any_nil,Bool.or_false,oT',bq'];omega
theorem aQn(B:List Int):dQ [0,4] (ni B)=((lastB B==0)||(lastB B==4)):=by
 unfold ni;generalize lastB B=z;rw[Bool.eq_iff_iff];split
 .rename_i h;subst h;decide
 .simp only[dQ,List.any_cons,List.any_nil,Bool.or_false,oT',bq'];omega
theorem WB(ht:aW w t T)(hi:aF w ⟨A,n,c⟩ l)(m:aX T l=0):
 cE' 128 #[t.v,.slice A n c] w (.tuple #[.int .i64 (vV (dn T l)),.int .i64 0]):=by
 have s:=dw w t;have f:=ah s;have y:=ah (ht.aC s);have B:=ah (hi.ext s);have hn:=hi.len.1;subst hn;have D:=ah (rD m).1;have E:=ah (Fa m);have HO:=ah (tK t T l A _ c _ y.out B.out);rw[m]at HO;clear ht hi s m;by_cases K:0<l.length
 .have C:=ah (Wu T l K);have af:(0:Int)<(l.length:Int):=by omega
  have ag:l.length<=4096:=E.out;have e0:((l.length:Int)==0)=false:=bF';obtain⟨b,o,hA,F⟩:=B.out.at_ K;rw[Nat.add_zero]at F;have C2:Hid (∀w',Ext (tW' w t) w'->Calls prog 196 #[t.v,.slice A l.length c,.slice (some ⟨w'.heap.size,0,none⟩) 2 2] (w'.alloc (.cells #[.int .i64 0,.int .i64 11] 3)) λe a=>e=.returned (.bool (dQ [0,11] (dn T l)))/\Ext w' a):=ah (Fb T t l A l.length c _ y.out B.out D.out E.out [0,11] (by decide));have C4:Hid (∀w',Ext (tW' w t) w'->Calls prog 196 #[t.v,.slice A l.length c,.slice (some ⟨w'.heap.size,0,none⟩) 1 1] (w'.alloc (.cells #[.int .i64 4] 3)) λe a=>e=.returned (.bool (dQ [4] (dn T l)))/\Ext w' a):=ah (Fb T t l A l.length c _ y.out B.out D.out E.out [4] (by decide));have C5:Hid (∀w',Ext (tW' w t) w'->Calls prog 196 #[t.v,.slice A l.length c,.slice (some ⟨w'.heap.size,0,none⟩) 1 1] (w'.alloc (.cells #[.int .i64 3] 3)) λe a=>e=.returned (.bool (dQ [3] (dn T l)))/\Ext w' a):=ah (Fb T t l A l.length c _ y.out B.out D.out E.out [3] (by decide));have C7:Hid (∀w',Ext (tW' w t) w'->Calls prog 196 #[t.v,.slice A l.length c,.slice (some ⟨w'.heap.size,0,none⟩) 4 4] (w'.alloc (.cells #[.int .i64 1,.int .i64 2,.int .i64 3,.int .i64 11] 3)) λe a=>e=.returned (.bool (dQ [1,2,3,11] (dn T l)))/\Ext w' a):=ah (Fb T t l A l.length c _ y.out B.out D.out E.out [1,2,3,11] (by decide));have L:Hid (∀w',Ext (tW' w t) w'->cE' 198 #[t.v,.int .i64 l[0]] w' (.int .i64 (fV T l[0]))):=ah (λw' h=>NC t T l[0] w' (y.out.aC h) (NS D.out));have gG:Hid (∀w',Ext (tW' w t) w'->cE' 197 #[t.v,.slice A l.length c] w' (.int .i64 (lastB (dn T l)))):=ah (λw' h=>aQS T t l A _ c w' (y.out.aC h) (B.out.ext h) D.out E.out);subst hA;have M:=ah (aQm (fV T l[0]));have N:=ah (any0 (fV T l[0]));have O:=ah (aQo (dn T l));have P:=ah (aQn (dn T l));generalize l[0]=x0 at*;generalize fV T x0=q at*;generalize lastB (dn T l)=z at*;generalize dQ [1,2] [q]=b1 at*;generalize dQ [0,11] (dn T l)=b2 at*;generalize dQ [1,2,3,4] (ni (dn T l))=b3 at*;generalize dQ [4] (dn T l)=b4 at*;generalize dQ [3] (dn T l)=b5 at*;generalize dQ [0] [q]=b6 at*;generalize dQ [1,2,3,11] (dn T l)=b7 at*;generalize dQ [0,4] (ni (dn T l))=b8 at*;generalize vV (dn T l)=R at*;clear y B D E;go_enter func128,ntmps128;go_wp2_with fail;refine HO.out.mono ?_;rintro e w1⟨rfl,i⟩;have Q:=ah i;have d:∀k:Nat,w1.cell? ⟨w.heap.size,k,none⟩=t.v.cells[k]? :=aQ i;clear i HO;go_wp2_with fail;refine(gG.out w1 Q.out).mono ?_;rintro e w2⟨rfl,S⟩;have x:=ah (Q.out.trans' S);have U:=bg (bD x.out) F;have V:Hid (∀w',Ext w2 w'->cE' 198 #[t.v,.int .i64 x0] w' (.int .i64 q)):=ah (λw' h=>L.out w' (x.out.trans' h));clear S d F gG L;have d:∀W:ak w2,∀k:Nat,W.w.cell? ⟨w.heap.size,k,none⟩=t.v.cells[k]? :=λW=>aQ (x.out.trans' W.h)
  have rX:∀W:ak w2,W.w.cell? ⟨b,o,none⟩=some (.int .i64 x0):=cZ U;go_wp2_with fail;refine rX' ?_
  repeat(go_big_quiet_step((go_at_call 198;with_reducible exact aS (V.out _ (ak.h _)))))
  refine wpQuiet_nil ?_;rintro _⟨yw,rfl⟩;clear d rX U V;obtain⟨H,G⟩:=eX' yw.w;have j:Hid (Ext (tW' w t) H):=ah (by rw[G];exact x.out.trans' yw.h);rw[<- G];clear G;have d:∀k:Nat,H.cell? ⟨w.heap.size,k,none⟩=t.v.cells[k]? :=aQ j.out;cases b1
  case true=>
   have hq:(q==1)=true\/((q==1)=false/\(q==2)=true):=by
    have:=M.out;cases h1:(q==1)
    .rw[h1,Bool.false_or]at this;exact .inr ⟨rfl,this.symm⟩
    .exact .inl rfl
   rcases hq with q1|⟨q1,q2⟩
   all_goals
    go_wp2_with fail;refine(C2.out H j.out).mono ?_;rintro e w5⟨rfl,p⟩;have r:=ah (j.out.trans' p);clear d p;have d:∀k:Nat,w5.cell? ⟨w.heap.size,k,none⟩=t.v.cells[k]? :=aQ r.out;cases b2
    case true=>
     have g:=f.out.trans' r.out;clear d;go_wp2;go_ret2;exact⟨by rw[C.out];rfl,g⟩
    cases b3
    case false=>
     have m:z≠1/\z≠2/\z≠4/\z≠3:=by
      have h:=O.out.symm;simp only[oF',aO]at h;exact h
     obtain⟨I,X,J,z3⟩:=m;have e1:(z != 1)=true:=bN' I;have e2:(z != 2)=true:=bN' X;have e4:(z != 4)=true:=bN' J;have e3:(z != 3)=true:=bN' z3;clear I X J z3;have g:=f.out.trans' r.out;clear d;go_wp2;go_ret2;exact⟨by rw[C.out];rfl,g⟩
    have m:(z != 1)=false\/((z != 1)=true/\(z != 2)=false)\/((z != 1)=true/\(z != 2)=true/\(z != 4)=false)\/((z != 1)=true/\(z != 2)=true/\(z != 4)=true/\(z != 3)=false):=by
     have h:=O.out.symm;simp only[oT',bq']at h;simp only[bne_iff_ne,bne_eq_false_iff_eq];omega
    rcases m with I|⟨I,X⟩|⟨I,X,J⟩|⟨I,X,J,z3⟩
    all_goals
     go_wp2_with fail;refine(C4.out w5 r.out).mono ?_;rintro e w6⟨rfl,Y⟩;have iC:=ah (r.out.trans' Y);clear d Y;have d:∀k:Nat,w6.cell? ⟨w.heap.size,k,none⟩=t.v.cells[k]? :=aQ iC.out;cases b4
     case false=>
      have g:=f.out.trans' iC.out;clear d;go_wp2;go_ret2;exact⟨by rw[C.out];rfl,g⟩
     go_wp2_with fail;refine(C5.out w6 iC.out).mono ?_;rintro e w7⟨rfl,Z⟩;have qQ:=ah (iC.out.trans' Z);clear d Z;have d:∀k:Nat,w7.cell? ⟨w.heap.size,k,none⟩=t.v.cells[k]? :=aQ qQ.out;cases b5
     all_goals
      have g:=f.out.trans' qQ.out;clear d;go_wp2;go_ret2;exact⟨by rw[C.out];rfl,g⟩
  have hq:(q==1)=false/\(q==2)=false:=by
   have h:=M.out.symm;rwa[oF']at h
  obtain⟨q1,q2⟩:=hq;cases b6
  case false=>
   have q0:(q==0)=false:=N.out.symm;have g:=f.out.trans' j.out;clear d;go_wp2;go_ret2;exact⟨by rw[C.out];rfl,g⟩
  have q0:(q==0)=true:=N.out.symm;go_wp2_with fail;refine(C7.out H j.out).mono ?_;rintro e w5⟨rfl,p⟩;have r:=ah (j.out.trans' p);clear d p;have d:∀k:Nat,w5.cell? ⟨w.heap.size,k,none⟩=t.v.cells[k]? :=aQ r.out;cases b7
  case true=>
   have g:=f.out.trans' r.out;clear d;go_wp2;go_ret2;exact⟨by rw[C.out];rfl,g⟩
  cases b8
  case false=>
   have m:(z != 0)=true/\(z != 4)=true:=by
    have h:=P.out.symm;simp only[oF',aO]at h;simp only[bne_iff_ne];exact h
   obtain⟨z0,J⟩:=m;have g:=f.out.trans' r.out;clear d;go_wp2;go_ret2;exact⟨by rw[C.out];rfl,g⟩
  have m:(z != 0)=false\/((z != 0)=true/\(z != 4)=false):=by
   have h:=P.out.symm;simp only[oT',bq']at h;simp only[bne_iff_ne,bne_eq_false_iff_eq];omega
  rcases m with z0|⟨z0,J⟩
  all_goals
   have g:=f.out.trans' r.out;clear d;go_wp2;go_ret2;exact⟨by rw[C.out];rfl,g⟩
 .have h0:l=[]:=List.eq_nil_of_length_eq_zero (by omega);subst h0;go_enter func128,ntmps128;go_wp2_with fail;refine HO.out.mono ?_;rintro e w1⟨rfl,i⟩;have g:=f.out.trans' i;clear i;go_wp2;go_ret2;exact⟨rfl,g⟩
theorem aQk(B:List Int):0<=vV B:=by
 unfold vV;split
 .omega
 .unfold NQ
  repeat' split
  all_goals omega
theorem aQj(ls:List (List Int))(A:Option Addr)(n c:Nat)(w:World)(ht:aW w t T)(hi:qw w ⟨A,n,c⟩ ls)(hw:dh T=true)(g:∀l∈ls,aX T l=0)(hm:ls.length<=1000000):
 Calls prog 64 #[t.v,.slice A n c] w (Wx w T ls):=by
 have q:=dw w t;have D:=ah q;have X:=ah (ht.aC q);have HI:=ah (hi.ext q);have HW:=ah hw;have HZ:=ah g;have HM:=ah hm;have hn:=hi.len.1;subst hn;clear ht hi q hw g hm;go_enter func64,ntmps64;go_wp2;go_loopg[6,16] ls.length (λL s6 a2 M=>WA T (tW' w t) ls L s6 a2 M);exact⟨0,by omega,rfl,rfl,ah eR'⟩;obtain⟨k,N,rfl,rfl,d⟩:=hrel;have s:∀k:Nat,wr.cell? ⟨w.heap.size,k,none⟩=t.v.cells[k]? :=aQ d.out;have ae:ls.length<=1000000:=HM.out;by_cases j:k<ls.length
 .obtain⟨f,rfl⟩:=gS' gk;obtain⟨b,o,H,I,J,rfl,P,g⟩:=(Du HI.out d.out).at_ j;have Q:=ah g;have Y:=ah (NU (nN T) ls k j);have R:=ah (HZ.out _ (gM' j));clear g;generalize ls[k]=x at*;have HO:=ah (tK t T x H I J wr (X.out.aC d.out) Q.out);rw[R.out]at HO;have S:=z0' k;have U:(k:Int)<(ls.length:Int):=by omega
  go_wp2_with fail;refine HO.out.mono ?_;rintro e w1⟨rfl,E⟩;have y:=ah (d.out.trans' E);have iK:=ah E;clear s E HO;have s:∀k:Nat,w1.cell? ⟨w.heap.size,k,none⟩=t.v.cells[k]? :=aQ y.out;have gQ:=ah (aQh T t x H I J w1 (X.out.aC y.out) (Q.out.ext iK.out) R.out);generalize nN T x=p at*;cases m:(ls.take k).any (nN T)
  .rw[m]at Y;clear m;go_wp2_with fail;refine gQ.out.mono ?_;rintro e w2⟨rfl,a⟩;have i:=ah (y.out.trans' a);clear a s;go_wp2;go_roundg f;exact⟨k+1,by omega,by go_num,by rw[Y.out];rfl,i⟩;omega
  .rw[m]at Y;clear m;go_wp2;go_roundg f;exact⟨k+1,by omega,by go_num,by rw[Y.out];rfl,y⟩;omega
 .have HE:Hid (ls.take k=ls):=ah (tL' (by omega));rw[HE.out];clear s;cases m:ls.any (nN T)
  .have Z:=ah m;have C:=ah (Iu (T:=T) (ls:=ls) (λh=>by rw[m]at h;cases h));clear m;go_wp2;go_loopg[37] ls.length (λL F M=>Iw T (tW' w t) ls L F M);exact⟨0,by omega,rfl,ah (λ_=>rfl),d⟩;obtain⟨k,N,rfl,K,d⟩:=hrel;have G:=D.out.trans' d.out;by_cases j:k<ls.length
   .obtain⟨f,rfl⟩:=gS' gk;obtain⟨b,o,H,I,J,rfl,P,g⟩:=(Du HI.out d.out).at_ j;have S:=z0' k;have U:(k:Int)<(ls.length:Int):=(by omega);have z:=ah (WB T t ls[k] H I J wr (X.out.aC d.out) g (HZ.out _ (gM' j)));clear g G;generalize ls[k]=x at*;generalize vV (dn T x)=r at*;have s:∀k:Nat,wr.cell? ⟨w.heap.size,k,none⟩=t.v.cells[k]? :=aQ d.out;go_wp2_with fail;refine z.out.mono ?_;rintro e w2⟨rfl,a⟩;have i:=ah (d.out.trans' a);clear a s;go_wp2;go_roundg f;exact⟨k+1,by omega,by go_num,ah (λh=>by rw[Z.out]at h;cases h),i⟩;omega
   .go_wp2;go_ret2;exact⟨by rw[C.out.1,C.out.2];rfl,G⟩
  .have Z:=ah m;clear m;go_wp2;go_loopg[37] ls.length (λL F M=>Iw T (tW' w t) ls L F M);exact⟨0,by omega,rfl,ah (λ_=>rfl),d⟩;obtain⟨k,N,rfl,K,d⟩:=hrel;have G:=D.out.trans' d.out;by_cases j:k<ls.length
   .obtain⟨f,rfl⟩:=gS' gk;obtain⟨b,o,H,I,J,rfl,P,g⟩:=(Du HI.out d.out).at_ j;have B:=ah (Wy (T:=T) j);have z:=ah (WB T t ls[k] H I J wr (X.out.aC d.out) g (HZ.out _ (gM' j)));clear g G;have a5:=ah (aQk (dn T ls[k]));generalize ls[k]=x at*;generalize vV (dn T x)=r at*;have s:∀k:Nat,wr.cell? ⟨w.heap.size,k,none⟩=t.v.cells[k]? :=aQ d.out;have S:=z0' k;have U:(k:Int)<(ls.length:Int):=(by omega);by_cases V:r=0
    .have e1:decide (0<r)=false:=by rw[V];rfl
     have a6:Hid (ls.any (nN T)=true->frR T ((k+1:Nat):Int) (ls.drop (k+1))=frR T 0 ls):=ah (λh=>by
      have W:=B.out;rw[nN' (by rw[V];simp)]at W
      rw[<- W];exact K.out h)
     clear V B K;go_wp2_with fail;refine z.out.mono ?_;rintro e w2⟨rfl,a⟩;have i:=ah (d.out.trans' a);clear a s;go_wp2;go_roundg f;exact⟨k+1,by omega,by go_num,a6,i⟩;omega
    .have e1:decide (0<r)=true:=dt' (by have:=a5.out;omega)
     have C:Hid (vW T ls=k/\uU T ls=19):=ah (by
      have W:=B.out;rw[pP' V]at W
      exact Wv Z.out ((K.out Z.out).symm.trans W))
     clear V B K;go_wp2_with fail;refine z.out.mono ?_;rintro e w2⟨rfl,a⟩;have G:=(D.out.trans' d.out).trans' a;clear a s;go_wp2;go_ret2;exact⟨by rw[C.out.1,C.out.2];rfl,G⟩
   .have C:=ah (Iu (T:=T) (ls:=ls) (λh=>by rw[<- K.out h,List.drop_of_length_le (by omega)];rfl));go_wp2;go_ret2;exact⟨by rw[C.out.1,C.out.2];rfl,G⟩
end Go.Proofs.YtlmkgaoakcjlnaaGreatDoor
