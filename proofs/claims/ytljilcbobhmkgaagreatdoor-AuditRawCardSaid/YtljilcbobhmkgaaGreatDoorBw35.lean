/- Part Bw35. -/
import Derived.Test.YtljilcbobhmkgaaGreatDoorBw34
import Derived.Test.YtljilcbobhmkgaaGreatDoorCards
import Derived.Test.YtljilcbobhmkgaaGreatDoorTie
import Derived.LaidMore
open Go.Proofs.Tryz
namespace Go.Proofs.YtljilcbobhmkgaaGreatDoor
set_option maxHeartbeats 25600000
set_option maxRecDepth 100000
open Go.RowKit
theorem VQ{w:World}{a n c:Nat}{A:Option Addr}{ls:List (List Int)}(k:oJ w a A n c ls)(x:List Int)(p:n+1<=8796093021952)(f:a<=w.heap.size):
 ∃A' c' w',(∀ty,(Builtin.append_ #[29,29] ty #[.slice A n c,.slice (some ⟨w.heap.size,0,none⟩) 1 1]).run prog (w.alloc (.cells #[.string (sB x)] 9))=.ok (.slice A' (n+1) c') w')/\oJ w' a A' (n+1) c' (ls++[x])/\
  (w.alloc (.cells #[.string (sB x)] 9)).grownBy w' (aF A):=by
 have g:Ext w (w.alloc (.cells #[.string (sB x)] 9)):=eR'.ay _;obtain⟨A',o,w',h,d,l,_⟩:=zf (T:=29) underlying29 infoSt rfl (by omega) (Own.ext k g) (some ⟨w.heap.size,0,none⟩) 1 1 [.string (sB x)] rfl
  (λj u i=>by
   refine⟨w.heap.size,0,rfl,?_⟩;rw[Nat.zero_add,World.cell?_alloc_new]
   match j,i with
   |0,i=>simpa using i
   |j+1,i=>simp at i)
  (by intro u m;simp at m;subst m;rfl) (by simp only[maxLen];omega) (by omega) (Nat.le_trans f g.b.size)
 exact⟨A',o,w',h,by unfold oJ;rw[List.map_append];exact d,l⟩
def lvG(now:Int):List (List Int)->List Rc->List (List Int)
 |k::ks,r::rs=>if CP r now=true then k::lvG now ks rs else lvG now ks rs
 |_,_=>[]
def lvL(now:Int)(ks:List (List Int))(rs:List Rc):List (List Int):=if ks.length=rs.length then lvG now ks rs else[]
theorem VR(a:Int):∀(ks:List (List Int)),lvG a ks []=[]
 |[]=>rfl
 |_::_=>rfl
def LvP(w:World)(l:List (List Int))(e:Ending)(w':World):Prop:=∃A n c,e=.returned (.slice A n c)/\lq w' ⟨A,n,c⟩ l/\Ext w w'
def LvI(W0:World)(z N:Nat)(now:Int)(keys:List (List Int))(recs:List Rc)(RS:List (List Int))(gh:Nat)(s3 s16:Value)(wx:World):Prop:=
 ∃(A:Option Addr)(c:Nat)(acc:List (List Int))(k:Nat),k+gh=N/\s16=.int .i64 k/\s3=.slice A acc.length c/\acc.length<=k/\Hid (oJ wx z A acc.length c acc)/\Hid (acc++lvG now (keys.drop k) (recs.drop k)=RS)/\Hid (Ext W0 wx)
theorem b3U(s:Sn)(d:SnD)(w:World)(hs:SnS w s d)(hm:d.keys.length<=8796093021952):Calls prog 11 #[snV s] w (LvP w (lvL s.now d.keys d.recs)):=by
 obtain⟨t,f⟩:=eX' (w.alloc (.cells (snC s) 32));have y:Ext w t:=by rw[f];exact eR'.ay _
 have E:=ah y;have l:Hid (∀S,Ext t S->∀k:Nat,S.cell? ⟨w.heap.size,k,none⟩=(snC s)[k]?):=ah (λS h k=>ED _ _ (by rw[f]at h;exact h) k);have F:=ah (hs.ext y);have G:Hid (lvL s.now d.keys d.recs=if d.keys.length=d.recs.length then lvG s.now (d.keys.drop 0) (d.recs.drop 0)else[]):=rfl;generalize lvL s.now d.keys d.recs=RS at*;obtain⟨keys,recs,T,aa,an⟩:=d;obtain⟨now,ao,⟨ka,kn,kc⟩,⟨ra,rn,rc⟩,L,O,P⟩:=s;simp only[]at G l hm;have U:kn=keys.length:=F.out.k.1.1;have V:rn=recs.length:=F.out.r.1.1;subst U V;have ar:recs.length<=9223372036854775807:=by obtain⟨j,h2,h3⟩:=F.out.r.1;simp only[]at j h2 h3;(try simp only[maxLen]at h3);omega
 obtain⟨z,hz⟩:=eX' t.heap.size;have HZ:=ah hz;clear hs y hz;by_cases j:keys.length=recs.length
 case neg=>
  have e1:(keys.length != recs.length)=true:=by rw[bne_iff_ne];exact j
  have e2:((keys.length:Int) != (recs.length:Int))=true:=by rw[bne_iff_ne];omega
  have W:Hid (RS=[]):=ah (by rw[G.out,nN' j]);have X:=E.out;clear j G;go_enter func11,ntmps11;go_wp2_with fail;rw[<- f];go_ret;exact⟨none,0,0,rfl,by rw[W.out];exact⟨⟨rfl,lr' _,zl' _⟩,λi x h=>by simp at h⟩,X⟩
 have e1:(keys.length != recs.length)=false:=by rw[j];simp
 have e2:((keys.length:Int) != (recs.length:Int))=false:=by rw[j];simp
 have Y:Hid ([]++lvG now (keys.drop 0) (recs.drop 0)=RS):=ah (by rw[G.out,pP' j];rfl);have Z:=ah j;clear j G;go_enter func11,ntmps11;go_wp2_with fail;rw[<- f];clear f;go_loopg[3,16] recs.length (λgh s3 a0 wx=>LvI t z recs.length now keys recs RS gh s3 a0 wx);exact⟨none,0,[],0,by omega,rfl,rfl,lr' _,ah (Own.nil_ _ _ _ _),Y,ah eR'⟩;obtain⟨A,c,a,k,hk,rfl,rfl,aL,HO,HI,H⟩:=hrel;by_cases B:k<recs.length
 .obtain⟨g2,rfl⟩:=gS' gk;have I:k<keys.length:=by rw[Z.out];exact B
  obtain⟨br,or,rfl,n0,n1,n2,n3⟩:=RcS.at_ (F.out.r.ext H.out) B;obtain⟨bk,ok,rfl,J⟩:=(F.out.k.ext H.out).at_ I;have hI:=HI.out;rw[drop_at keys k I,drop_at recs k B,lvG]at hI;have m:=ah hI;generalize keys[k]=key at*;generalize recs[k]=r at*;have b2:=z0' k;have b3:(k:Int)<(recs.length:Int):=by omega
  have b4:(k:Int)<(keys.length:Int):=by omega
  have rS:=l.out _ H.out;obtain⟨C,n⟩:=eX' (wr.alloc (.cells #[.int .i64 r.1,.int .i64 r.2.1,.string (sB r.2.2.1),.int .i64 r.2.2.2] 43));have o:Ext wr C:=by rw[n];exact eR'.ay _
  have dS:=ah (H.out.trans' o);have K:=ah (VP r now C).1;have M:Hid (∀k:Nat,C.cell? ⟨wr.heap.size,k,none⟩=(#[.int .i64 r.1,.int .i64 r.2.1,.string (sB r.2.2.1),.int .i64 r.2.2.2]:Array Value)[k]?):=ah (λk=>by rw[n];exact World.cell?_alloc_new wr _ _ k);have bI:Hid (oJ C z A a.length c a):=ah (Own.ext HO.out o);have N:=ah (aY (bg o) J);have oG:z<=C.heap.size:=by have:=dS.out.b.size;have:=HZ.out;omega
  generalize CP r now=lb at*;clear hI HI J o HO;go_upto_region 7 with fail;rw[<- n];clear n n0 n1 n2 n3 rS;have a4:=l.out _ dS.out;have r5:=M.out;go_wp2_with fail;clear a4 r5 M;refine K.out.mono ?_;rintro e R⟨rfl,g⟩;have eY:=ah (dS.out.trans' g);have p:Hid (oJ R z A a.length c a):=ah (Own.ext bI.out g);have b8:=aY (bg g) N.out;have b9:=l.out _ eY.out;have a6:z<=R.heap.size:=Nat.le_trans oG g.b.size;clear g K bI N;cases lb with
  |true=>
   have D:Hid ((a++[key])++lvG now (keys.drop (k+1)) (recs.drop (k+1))=RS):=ah (by rw[<- m.out];simp);have Q:Ext R (R.alloc (.cells #[.string (sB key)] 9)):=eR'.ay _;obtain⟨A7,c7,w7,q,rG,uf⟩:=VQ p.out key (by omega) a6;have pY:Hid (Ext t w7):=ah (dV (eY.out.trans' Q) uf (λk hk=>by have:=(Own.lt p.out k hk).1;have:=HZ.out;omega));have a7:=ah rG;have a8:=ah q;have hl:(a++[key]).length=a.length+1:=(by simp);clear m Q rG uf p q;go_wp2_with(at_builtin;refine dA rfl _ _ _ rfl _ _ rfl rfl _ _ a8.out ?_);go_roundg g2;exact⟨A7,c7,a++[key],k+1,by omega,by go_num,by rw[hl],by rw[hl];omega,by rw[hl];exact a7,D,pY⟩;omega
  |false=>
   have D:Hid (a++lvG now (keys.drop (k+1)) (recs.drop (k+1))=RS):=ah (by rw[<- m.out];simp);clear m;go_wp2;go_roundg g2;exact⟨A,c,a,k+1,by omega,by go_num,rfl,by omega,p,D,eY⟩;omega
 .have W:Hid (a=RS):=ah (by rw[<- HI.out,List.drop_of_length_le (show recs.length<=k by omega),VR,List.append_nil]);have X:=E.out.trans' H.out;go_wp2;go_ret;exact⟨A,a.length,c,rfl,by rw[<- W.out];exact oJ.sts HO.out,X⟩
theorem b3R(s:Sn)(d:SnD)(w:World)(hs:SnS w s d)(hm:d.keys.length<=8796093021952):Calls prog 12 #[snV s] w (LvP w (lvL s.now d.keys d.recs)):=by
 obtain⟨q,g⟩:=eX' (w.alloc (.cells (snC s) 32));have y:Ext w q:=by rw[g];exact eR'.ay _
 have H:=ah y;have B:Hid (∀m,Ext q m->∀k:Nat,m.cell? ⟨w.heap.size,k,none⟩=(snC s)[k]?):=ah (λm h k=>ED _ _ (by rw[g]at h;exact h) k);have I:=ah (hs.ext y);have J:Hid (lvL s.now d.keys d.recs=if d.keys.length=d.recs.length then lvG s.now (d.keys.drop 0) (d.recs.drop 0)else[]):=rfl;generalize lvL s.now d.keys d.recs=RS at*;obtain⟨keys,recs,W,an,aM⟩:=d;obtain⟨now,K,⟨ka,kn,kc⟩,⟨ra,rn,rc⟩,L,O,P⟩:=s;simp only[]at J B hm;have X:kn=keys.length:=I.out.k.1.1;have Y:rn=recs.length:=I.out.r.1.1;subst X Y;have b1:keys.length<=9223372036854775807:=by omega
 obtain⟨z,hz⟩:=eX' q.heap.size;have HZ:=ah hz;clear hs y hz;by_cases C:keys.length=recs.length
 case neg=>
  have e1:(keys.length==recs.length)=false:=by rw[aH];exact C
  have e2:((keys.length:Int)==(recs.length:Int))=false:=bF';have Z:Hid (RS=[]):=ah (by rw[J.out,nN' C]);clear C J;go_enter func12,ntmps12;go_wp2_with fail;rw[<- g];clear g;go_loopg[3,9] keys.length (λgh s3 s9 wx=>∃k:Nat,k+gh=keys.length/\s9=.int .i64 k/\s3=.slice none 0 0/\Hid (Ext q wx));exact⟨0,by omega,rfl,rfl,ah eR'⟩;obtain⟨k,hk,rfl,rfl,l⟩:=hrel;by_cases o:k<keys.length
  .obtain⟨U,rfl⟩:=gS' gk;obtain⟨bk,ok,rfl,D⟩:=(I.out.k.ext l.out).at_ o;have a8:=z0' k;have a9:(k:Int)<(keys.length:Int):=(by omega);generalize keys[k]=key at*;go_wp2_with fail;clear D;have rS:∀z:aj wr,∀k:Nat,z.w.cell? ⟨w.heap.size,k,none⟩=(#[.int .i64 now,.int .i64 K,.slice (some ⟨bk,ok,none⟩) keys.length kc,.slice ra recs.length rc,.slice L.a L.n L.c,.slice O.a O.n O.c,.slice P.a P.n P.c]:Array Value)[k]? :=λz=>B.out _ (l.out.trans' z.h)
   refine rX' ?_
   repeat(go_big_quiet_step(fail))
   refine wpQuiet_nil ?_;rintro _⟨z,rfl⟩;have M:=ah (l.out.trans' z.h);generalize z.w=w6 at*;clear rS z;go_wp2;go_roundg U;exact⟨k+1,by omega,by go_num,rfl,M⟩;omega
  .have hx:=H.out.trans' l.out;go_wp2;go_ret;exact⟨none,0,0,rfl,by rw[Z.out];exact⟨⟨rfl,lr' _,zl' _⟩,λi x h=>by simp at h⟩,hx⟩
 have e1:(keys.length==recs.length)=true:=by rw[bq'];exact C
 have e2:((keys.length:Int)==(recs.length:Int))=true:=by rw[bq'];omega
 have ac:Hid ([]++lvG now (keys.drop 0) (recs.drop 0)=RS):=ah (by rw[J.out,pP' C];rfl);have N:=ah C;clear C J;go_enter func12,ntmps12;go_wp2_with fail;rw[<- g];clear g;go_loopg[3,9] keys.length (λgh s3 s9 wx=>LvI q z keys.length now keys recs RS gh s3 s9 wx);exact⟨none,0,[],0,by omega,rfl,rfl,lr' _,ah (Own.nil_ _ _ _ _),ac,ah eR'⟩;obtain⟨A,c,f,k,hk,rfl,rfl,b4,HO,HI,l⟩:=hrel;by_cases E:k<keys.length
 .obtain⟨U,rfl⟩:=gS' gk;have o:k<recs.length:=by rw[<- N.out];exact E
  obtain⟨Q,or,rfl,n0,n1,n2,n3⟩:=RcS.at_ (I.out.r.ext l.out) o;obtain⟨bk,ok,rfl,D⟩:=(I.out.k.ext l.out).at_ E;have hI:=HI.out;rw[drop_at keys k E,drop_at recs k o,lvG]at hI;have j:=ah hI;generalize keys[k]=key at*;generalize recs[k]=r at*;have a8:=z0' k;have b5:(k:Int)<(recs.length:Int):=by omega
  have a9:(k:Int)<(keys.length:Int):=by omega
  obtain⟨V,F⟩:=eY' (CP r now);have R:Hid (∀m,Ext wr m->cE' 18 #[rcV r,.int .i64 now] m (.bool V)):=ah (λm _=>by rw[<- F];exact(VP r now m).2);rw[F]at j;have c0:∀z:aj wr,z.w.cell? ⟨Q,or+k*4,none⟩=some (.int .i64 r.1):=bY n0;have c1:∀z:aj wr,z.w.cell? ⟨Q,or+k*4+1,none⟩=some (.int .i64 r.2.1):=bY n1;have c2:∀z:aj wr,z.w.cell? ⟨Q,or+k*4+2,none⟩=some (.string (sB r.2.2.1)):=bY n2;have c3:∀z:aj wr,z.w.cell? ⟨Q,or+k*4+3,none⟩=some (.int .i64 r.2.2.2):=bY n3;have rS:∀z:aj wr,∀k:Nat,z.w.cell? ⟨w.heap.size,k,none⟩=(#[.int .i64 now,.int .i64 K,.slice (some ⟨bk,ok,none⟩) keys.length kc,.slice (some ⟨Q,or,none⟩) recs.length rc,.slice L.a L.n L.c,.slice O.a O.n O.c,.slice P.a P.n P.c]:Array Value)[k]? :=λz=>B.out _ (l.out.trans' z.h)
  clear hI HI F n0 n1 n2 n3;cases V
  all_goals
   go_wp2_with fail;refine rX' ?_
   repeat(go_big_quiet_step(first|(go_at_call 18;with_reducible exact aQ (R.out _ (aj.h _)))))
   refine wpQuiet_nil ?_;rintro _⟨S,rfl⟩;have M:=ah (l.out.trans' S.h);have p:Hid (oJ S.w z A f.length c f):=ah (Own.ext HO.out S.h);generalize S.w=w6 at*;have ag:z<=w6.heap.size:=(by have:=M.out.b.size;have:=HZ.out;omega);clear rS c0 c1 c2 c3 S R HO D
  .have G:Hid (f++lvG now (keys.drop (k+1)) (recs.drop (k+1))=RS):=ah (by rw[<- j.out];simp);clear j;go_wp2;go_roundg U;exact⟨A,c,f,k+1,by omega,by go_num,rfl,by omega,p,G,M⟩;omega
  .have G:Hid ((f++[key])++lvG now (keys.drop (k+1)) (recs.drop (k+1))=RS):=ah (by rw[<- j.out];simp);have T:Ext w6 (w6.alloc (.cells #[.string (sB key)] 9)):=eR'.ay _;obtain⟨A7,c7,w7,t,rG,uf⟩:=VQ p.out key (by omega) ag;have pY:Hid (Ext q w7):=ah (dV (M.out.trans' T) uf (λk hk=>by have:=(Own.lt p.out k hk).1;have:=HZ.out;omega));have ai:=ah rG;have al:=ah t;have hl:(f++[key]).length=f.length+1:=(by simp);clear j T rG uf p t;go_wp2_with(at_builtin;refine dA rfl _ _ _ rfl _ _ rfl rfl _ _ al.out ?_);go_roundg U;exact⟨A7,c7,f++[key],k+1,by omega,by go_num,by rw[hl],by rw[hl];omega,by rw[hl];exact ai,G,pY⟩;omega
 .have Z:Hid (f=RS):=ah (by rw[<- HI.out,List.drop_of_length_le (show recs.length<=k by have:=N.out;omega),VR,List.append_nil]);have hx:=H.out.trans' l.out;go_wp2;go_ret;exact⟨A,f.length,c,rfl,by rw[<- Z.out];exact oJ.sts HO.out,hx⟩
theorem b3S(L:List (List Int))(A:Option Addr)(n c:Nat)(q:Option Addr)(i r:Nat)(w:World)(h:lq w ⟨A,n,c⟩ L)(j:lq w ⟨q,i,r⟩ L):
 cE' 10 #[.slice A n c,.slice q i r] w (.bool true):=by
 have s:n=L.length:=h.1.1;have t:i=L.length:=j.1.1;subst s t;have y:L.length<=9223372036854775807:=by obtain⟨_,B,l⟩:=h.1;simp only[]at B l;(try simp only[maxLen]at l);omega
 have C:=ah h;have D:=ah j;have O:(L.length != L.length)=false:=by simp
 clear h j;go_enter func10,ntmps10;go_wp2;go_loopg[13] L.length (λE f F=>∃k:Nat,k+E=L.length/\f=.int .i64 k/\Hid (Ext w F));exact⟨0,by omega,rfl,ah eR'⟩;obtain⟨k,P,rfl,d⟩:=hrel;by_cases a:k<L.length
 .obtain⟨g,rfl⟩:=gS' gk;obtain⟨b,o,rfl,m⟩:=(C.out.ext d.out).at_ a;obtain⟨Q,R,rfl,p⟩:=(D.out.ext d.out).at_ a;generalize L[k]=x at*;have H:=z0' k;have I:(k:Int)<(L.length:Int):=by omega
  have J:=bY m;have K:=bY p;have S:((sB x).toList==(sB x).toList)=true:=by simp
  have T:((sB x).toList != (sB x).toList)=false:=by simp
  clear m p;go_wp2_with fail;refine rX' ?_
  repeat(go_big_quiet_step(fail))
  refine wpQuiet_nil ?_;rintro _⟨z,rfl⟩;have M:=ah (d.out.trans' z.h);generalize z.w=w6 at*;clear J K z;go_wp2;go_roundg g;exact⟨k+1,by omega,by go_num,M⟩;omega
 .have N:=d.out;go_wp2;go_ret;exact⟨rfl,N⟩
theorem b4U(T:ak)(t:TV)(l:List Int)(a b:Int)(s:Sn)(d:SnD)(key:List Int)(r:Rc)(A1:Option Addr)(n1 c1:Nat)(w:World)(ht:aS w t T)(hl:aC w ⟨A1,n1,c1⟩ l)(hs:SnS w s d)(hk:IsB key)(hr:IsB r.2.2.1)(hm:d.keys.length<=8796093021952)(hg:Glob w):
 cE' 4 #[t.v,.slice A1 n1 c1,cfV a b,snV s,.string (sB key),rcV r] w (.bool true):=by
 obtain⟨U,A⟩:=eX' ((((tW' w t).alloc (.cells #[.int .i64 a,.int .i64 b] 28)).alloc (.cells (snC s) 32)).alloc (.cells (rcC r) 43));have R:Ext w U:=by rw[A];exact(((eR'.ay _).ay _).ay _).ay _
 have a3:U.heap.size=w.heap.size+4:=by rw[A];simp only[World.size_alloc]
 have ao:=ah a3;clear a3;have a9:=ah R;have HG:=ah (hg.ext R);have fV:Hid (∀w',Ext U w'->∀k:Nat,w'.cell? ⟨w.heap.size,k,none⟩=t.v.cells[k]?):=ah (λw' h=>aP ((((eR'.ay _).ay _).ay _).trans' (by rw[A]at h;exact h)));have aa:Hid (∀w',Ext U w'->∀k:Nat,w'.cell? ⟨w.heap.size+1,k,none⟩=(#[.int .i64 a,.int .i64 b]:Array Value)[k]?):=ah (λw' h k=>cell_of_row w' _ k _ 28 (0,0) (qJ (((eR'.ay _).ay _).trans' (by rw[A]at h;exact h))))
 have ab:Hid (∀w',Ext U w'->∀k:Nat,w'.cell? ⟨w.heap.size+2,k,none⟩=(snC s)[k]?):=ah (λw' h k=>by
  have h2:=qJ (w:=(tW' w t)) ((eR'.ay _).trans' (by rw[A]at h;exact h));simp only[World.size_alloc]at h2
  exact cell_of_row w' _ k (snC s) 32 (0,0) h2)
 have ac:Hid (∀w',Ext U w'->∀k:Nat,w'.cell? ⟨w.heap.size+3,k,none⟩=(rcC r)[k]?):=ah (λw' h k=>by
  have h2:=qJ (w:=(tW' w t).alloc (.cells #[.int .i64 a,.int .i64 b] 28)) (by rw[A]at h;exact h);simp only[World.size_alloc]at h2
  exact cell_of_row w' _ k (rcC r) 43 (0,0) h2)
 obtain⟨o,y,⟨C,D,E⟩,⟨F,G,H⟩,⟨I,J,K⟩,⟨L,M,N⟩,⟨O,m,P⟩⟩:=s;have HT:=ah (ht.aB R);have HS:=ah (hs.ext R);have HL:=ah (hl.ext R);have V:=ah hk;have W:=ah hr;have HM:=ah hm;have ad:m=d.phs.length:=hs.p.len.1;have aq:d.phs.length<=9223372036854775807:=by obtain⟨h1,h2,h3⟩:=hs.p.len;(try simp only[maxLen]at h3);omega
 obtain⟨pn,a4⟩:=eY' d.phs.length;rw[a4]at ad aq;subst ad;have bl:=ah a4;clear hg ht hs hl hk hr hm R a4;go_enter func4,ntmps4;go_wp2_with fail;rw[<- A];clear A;generalize ar:max (1:Int) (min (m:Int) 64)=q;obtain⟨W1,X⟩:=eX' (U.alloc (.cells #[.int .i64 q,.int .i64 3] 28));have af:Ext U W1:=by rw[X];exact eR'.ay _
 have ag:Hid (∀w',Ext W1 w'->∀k:Nat,w'.cell? ⟨U.heap.size,k,none⟩=(#[.int .i64 q,.int .i64 3]:Array Value)[k]?):=ah (λw' h k=>ED _ _ (by rw[X]at h;exact h) k);have gW:=ah af;rw[<- X];clear X af ar;refine(dA' l A1 n1 c1 W1 (HL.out.ext gW.out) (HG.out.ext gW.out)).mono ?_;rintro e w2⟨g,rfl,ai,a5⟩;generalize Ba l=T2 at*;obtain⟨B,Y⟩:=eX' (w2.alloc (.cells g.v.cells 26));have Z:Ext w2 B:=by rw[Y];exact eR'.ay _
 have dU:=ah (gW.out.trans' (a5.trans' Z));have UZ:Hid (∀w',Ext B w'->∀k:Nat,w'.cell? ⟨w2.heap.size,k,none⟩=g.v.cells[k]?):=ah (λw' h=>aP (by rw[Y]at h;exact h));have av:Hid (∀w',Ext B w'->∀k:Nat,w'.cell? ⟨w.heap.size+4,k,none⟩=(#[.int .i64 q,.int .i64 3]:Array Value)[k]?):=ah (λw' h=>by rw[<- ao.out];exact ag.out w' ((a5.trans' Z).trans' h));have a1:Hid (∀w',Ext B w'->aS w' g T2):=ah (λw' h=>ai.aB (Z.trans' h));have a2:Hid (∀w',Ext B w'->aS w' t T):=ah (λw' h=>HT.out.aB (dU.out.trans' h));have S:Hid (∀w',Ext B w'->SnS w' ⟨o,y,⟨C,D,E⟩,⟨F,G,H⟩,⟨I,J,K⟩,⟨L,M,N⟩,⟨O,m,P⟩⟩ d):=ah (λw' h=>HS.out.ext (dU.out.trans' h));have aw:Hid (∀w',Ext B w'->Glob w'):=ah (λw' h=>HG.out.ext (dU.out.trans' h));have RT:Hid (∀w',Ext B w'->∀k:Nat,w'.cell? ⟨w.heap.size,k,none⟩=t.v.cells[k]?):=ah (λw' h=>fV.out w' (dU.out.trans' h));have RC:Hid (∀w',Ext B w'->∀k:Nat,w'.cell? ⟨w.heap.size+1,k,none⟩=(#[.int .i64 a,.int .i64 b]:Array Value)[k]?):=ah (λw' h=>aa.out w' (dU.out.trans' h));have RS:Hid (∀w',Ext B w'->∀k:Nat,w'.cell? ⟨w.heap.size+2,k,none⟩=(#[.int .i64 o,.int .i64 y,.slice C D E,.slice F G H,.slice I J K,.slice L M N,.slice O m P]:Array Value)[k]?):=ah (λw' h=>ab.out w' (dU.out.trans' h));have RR:Hid (∀w',Ext B w'->∀k:Nat,w'.cell? ⟨w.heap.size+3,k,none⟩=(#[.int .i64 r.1,.int .i64 r.2.1,.string (sB r.2.2.1),.int .i64 r.2.2.2]:Array Value)[k]?):=ah (λw' h=>ac.out w' (dU.out.trans' h));have HB:=ah (a9.out.trans' dU.out);clear ag gW ai a5 Z fV aa ab ac HT HS HG HL dU a9;go_wp2_with fail;rw[show w2.alloc (.cells #[.slice g.s0.a g.s0.n g.s0.c,.slice g.s1.a g.s1.n g.s1.c,.slice g.s2.a g.s2.n g.s2.c,.slice g.s3.a g.s3.n g.s3.c,.slice g.s4.a g.s4.n g.s4.c,.slice g.s5.a g.s5.n g.s5.c,.slice g.s6.a g.s6.n g.s6.c,.slice g.s7.a g.s7.n g.s7.c,.slice g.s8.a g.s8.n g.s8.c,.slice g.s9.a g.s9.n g.s9.c,.slice g.s10.a g.s10.n g.s10.c,.slice g.s11.a g.s11.n g.s11.c] 26)=B from Y.symm];clear Y;refine region_x [([],0),([1,2,3,4,6,7,8],5),([],9),([10,11,12,13,14,15,17,18,19],16),([],20),([21,22,23,24,26],25),([],27),([],28),([29,30,31,32,33,35,36,37],34),([],38),([39,40,41,42,43,44,46,47,48],45),([],49)] [50,51,52] (by kernel_rfl) (by kernel_rfl) ?_;have f:Hid (Ext B B.drew):=ah eR'.dQ;have ex:∀x:Int,(x==x)=true:=λx=>by simp
 have eb:∀x:Bool,(x==x)=true:=λx=>by simp
 refine uV (by repeat(first|exact gI.nil|exact dP.zero|apply dP.succ|apply gI.cons)) (by repeat(first|exact dP.zero|apply dP.succ)) ?_;refine wpQuiet_nil ?_;go_wp2_with fail;refine Calls.mono (b2V _ (aw.out _ f.out)) ?_;rintro e u1⟨rfl,j⟩;go_wp2_with fail;refine vC j ?_;have f:=ah (f.out.trans' j);have eV:=ex (rO T a b ⟨o,y,⟨C,D,E⟩,⟨F,G,H⟩,⟨I,J,K⟩,⟨L,M,N⟩,⟨O,m,P⟩⟩ d);refine uV (by repeat(first|exact gI.nil|exact dP.zero|apply dP.succ|apply gI.cons)) (by repeat(first|exact dP.zero|apply dP.succ)) ?_;have z:∀i:aj (u1),∀k:Nat,i.w.cell? ⟨w.heap.size,k,none⟩=t.v.cells[k]? :=λi=>RT.out _ (f.out.trans' i.h)
 have Q:∀i:aj (u1),∀k:Nat,i.w.cell? ⟨w.heap.size+1,k,none⟩=(#[.int .i64 a,.int .i64 b]:Array Value)[k]? :=λi=>RC.out _ (f.out.trans' i.h)
 have a6:∀i:aj (u1),∀k:Nat,i.w.cell? ⟨w.heap.size+2,k,none⟩=(#[.int .i64 o,.int .i64 y,.slice C D E,.slice F G H,.slice I J K,.slice L M N,.slice O m P]:Array Value)[k]? :=λi=>RS.out _ (f.out.trans' i.h)
 repeat(go_big_quiet_step(fail))
 refine wpQuiet_nil ?_;clear z Q a6;go_wp2_with fail;refine Calls.mono (MZ T t a b ⟨o,y,⟨C,D,E⟩,⟨F,G,H⟩,⟨I,J,K⟩,⟨L,M,N⟩,⟨O,m,P⟩⟩ d _ (a2.out _ f.out) (S.out _ f.out)) ?_;rintro e u2⟨rfl,j⟩;go_wp2_with fail;refine vC j ?_;have f:=ah (f.out.trans' j);refine uV (by repeat(first|exact gI.nil|exact dP.zero|apply dP.succ|apply gI.cons)) (by repeat(first|exact dP.zero|apply dP.succ)) ?_;refine wpQuiet_nil ?_;go_wp2_with fail;refine Calls.mono (VU T t a b ⟨o,y,⟨C,D,E⟩,⟨F,G,H⟩,⟨I,J,K⟩,⟨L,M,N⟩,⟨O,m,P⟩⟩ d _ (a2.out _ f.out) (S.out _ f.out)) ?_;rintro e u3⟨rfl,j⟩;generalize rO T a b ⟨o,y,⟨C,D,E⟩,⟨F,G,H⟩,⟨I,J,K⟩,⟨L,M,N⟩,⟨O,m,P⟩⟩ d=va at*;go_wp2_with fail;refine vC j ?_;have f:=ah (f.out.trans' j);have bp:=ex (rO T2 q 3 ⟨o,y,⟨C,D,E⟩,⟨F,G,H⟩,⟨I,J,K⟩,⟨L,M,N⟩,⟨O,m,P⟩⟩ d);refine uV (by repeat(first|exact gI.nil|exact dP.zero|apply dP.succ|apply gI.cons)) (by repeat(first|exact dP.zero|apply dP.succ)) ?_;have z:∀i:aj (u3),∀k:Nat,i.w.cell? ⟨w2.heap.size,k,none⟩=g.v.cells[k]? :=λi=>UZ.out _ (f.out.trans' i.h)
 have Q:∀i:aj (u3),∀k:Nat,i.w.cell? ⟨w.heap.size+4,k,none⟩=(#[.int .i64 q,.int .i64 3]:Array Value)[k]? :=λi=>av.out _ (f.out.trans' i.h)
 have a6:∀i:aj (u3),∀k:Nat,i.w.cell? ⟨w.heap.size+2,k,none⟩=(#[.int .i64 o,.int .i64 y,.slice C D E,.slice F G H,.slice I J K,.slice L M N,.slice O m P]:Array Value)[k]? :=λi=>RS.out _ (f.out.trans' i.h)
 repeat(go_big_quiet_step(fail))
 refine wpQuiet_nil ?_;clear z Q a6;go_wp2_with fail;refine Calls.mono (MZ T2 g q 3 ⟨o,y,⟨C,D,E⟩,⟨F,G,H⟩,⟨I,J,K⟩,⟨L,M,N⟩,⟨O,m,P⟩⟩ d _ (a1.out _ f.out) (S.out _ f.out)) ?_;rintro e u4⟨rfl,j⟩;go_wp2_with fail;refine vC j ?_;have f:=ah (f.out.trans' j);refine uV (by repeat(first|exact gI.nil|exact dP.zero|apply dP.succ|apply gI.cons)) (by repeat(first|exact dP.zero|apply dP.succ)) ?_;refine wpQuiet_nil ?_;go_wp2_with fail;refine Calls.mono (VU T2 g q 3 ⟨o,y,⟨C,D,E⟩,⟨F,G,H⟩,⟨I,J,K⟩,⟨L,M,N⟩,⟨O,m,P⟩⟩ d _ (a1.out _ f.out) (S.out _ f.out)) ?_;rintro e u5⟨rfl,j⟩;generalize rO T2 q 3 ⟨o,y,⟨C,D,E⟩,⟨F,G,H⟩,⟨I,J,K⟩,⟨L,M,N⟩,⟨O,m,P⟩⟩ d=vb at*;go_wp2_with fail;refine vC j ?_;have f:=ah (f.out.trans' j);refine uV (by repeat(first|exact gI.nil|exact dP.zero|apply dP.succ|apply gI.cons)) (by repeat(first|exact dP.zero|apply dP.succ)) ?_;have z:∀i:aj (u5),∀k:Nat,i.w.cell? ⟨w.heap.size+2,k,none⟩=(#[.int .i64 o,.int .i64 y,.slice C D E,.slice F G H,.slice I J K,.slice L M N,.slice O m P]:Array Value)[k]? :=λi=>RS.out _ (f.out.trans' i.h)
 repeat(go_big_quiet_step(fail))
 refine wpQuiet_nil ?_;clear z;go_wp2_with fail;refine Calls.mono (b3U ⟨o,y,⟨C,D,E⟩,⟨F,G,H⟩,⟨I,J,K⟩,⟨L,M,N⟩,⟨O,m,P⟩⟩ d _ (S.out _ f.out) HM.out) ?_;rintro e u6⟨B6,k6,d6,rfl,qy,j⟩;have qA:=ah qy;clear qy;go_wp2_with fail;refine vC j ?_;have f:=ah (f.out.trans' j);refine uV (by repeat(first|exact gI.nil|exact dP.zero|apply dP.succ|apply gI.cons)) (by repeat(first|exact dP.zero|apply dP.succ)) ?_;refine wpQuiet_nil ?_;go_wp2_with fail;refine Calls.mono (b3R ⟨o,y,⟨C,D,E⟩,⟨F,G,H⟩,⟨I,J,K⟩,⟨L,M,N⟩,⟨O,m,P⟩⟩ d _ (S.out _ f.out) HM.out) ?_;rintro e u7⟨B7,k7,d7,rfl,Nz,j⟩;have aL:=ah Nz;have qA:=ah (qA.out.ext j);clear Nz;go_wp2_with fail;refine vC j ?_;have f:=ah (f.out.trans' j);refine uV (by repeat(first|exact gI.nil|exact dP.zero|apply dP.succ|apply gI.cons)) (by repeat(first|exact dP.zero|apply dP.succ)) ?_;refine wpQuiet_nil ?_;go_wp2_with fail;refine Calls.mono (b3S _ B6 k6 d6 B7 k7 d7 _ qA.out aL.out) ?_;rintro e u8⟨rfl,j⟩;go_wp2_with fail;refine vC j ?_;have f:=ah (f.out.trans' j);refine uV (by repeat(first|exact gI.nil|exact dP.zero|apply dP.succ|apply gI.cons)) (by repeat(first|exact dP.zero|apply dP.succ)) ?_;have z:∀i:aj (u8),∀k:Nat,i.w.cell? ⟨w.heap.size,k,none⟩=t.v.cells[k]? :=λi=>RT.out _ (f.out.trans' i.h)
 have Q:∀i:aj (u8),∀k:Nat,i.w.cell? ⟨w.heap.size+3,k,none⟩=(#[.int .i64 r.1,.int .i64 r.2.1,.string (sB r.2.2.1),.int .i64 r.2.2.2]:Array Value)[k]? :=λi=>RR.out _ (f.out.trans' i.h)
 repeat(go_big_quiet_step(fail))
 refine wpQuiet_nil ?_;clear z Q;go_wp2_with fail;refine Calls.mono (Hw T t key r _ (a2.out _ f.out) V.out W.out) ?_;rintro e u9⟨rfl,j⟩;go_wp2_with fail;refine vC j ?_;have f:=ah (f.out.trans' j);have bx:=eb (kR T key r);refine uV (by repeat(first|exact gI.nil|exact dP.zero|apply dP.succ|apply gI.cons)) (by repeat(first|exact dP.zero|apply dP.succ)) ?_;refine wpQuiet_nil ?_;go_wp2_with fail;refine Calls.mono (N7 T t key r _ (a2.out _ f.out) V.out W.out) ?_;rintro e al⟨rfl,j⟩;generalize kR T key r=ga at*;go_wp2_with fail;refine vC j ?_;have f:=ah (f.out.trans' j);have bz:=eb (kR T2 key r);refine uV (by repeat(first|exact gI.nil|exact dP.zero|apply dP.succ|apply gI.cons)) (by repeat(first|exact dP.zero|apply dP.succ)) ?_;have z:∀i:aj (al),∀k:Nat,i.w.cell? ⟨w2.heap.size,k,none⟩=g.v.cells[k]? :=λi=>UZ.out _ (f.out.trans' i.h)
 have Q:∀i:aj (al),∀k:Nat,i.w.cell? ⟨w.heap.size+3,k,none⟩=(#[.int .i64 r.1,.int .i64 r.2.1,.string (sB r.2.2.1),.int .i64 r.2.2.2]:Array Value)[k]? :=λi=>RR.out _ (f.out.trans' i.h)
 repeat(go_big_quiet_step(fail))
 refine wpQuiet_nil ?_;clear z Q;go_wp2_with fail;refine Calls.mono (Hw T2 g key r _ (a1.out _ f.out) V.out W.out) ?_;rintro e bA⟨rfl,j⟩;go_wp2_with fail;refine vC j ?_;have f:=ah (f.out.trans' j);refine uV (by repeat(first|exact gI.nil|exact dP.zero|apply dP.succ|apply gI.cons)) (by repeat(first|exact dP.zero|apply dP.succ)) ?_;refine wpQuiet_nil ?_;go_wp2_with fail;refine Calls.mono (N7 T2 g key r _ (a1.out _ f.out) V.out W.out) ?_;rintro e bB⟨rfl,j⟩;generalize kR T2 key r=gb at*;go_wp2_with fail;refine vC j ?_;have f:=ah (f.out.trans' j);refine aPf (by repeat(first|exact gI.nil|exact dP.zero|apply dP.succ|apply gI.cons)) ?_
 repeat(go_big_quiet_step(fail))
 refine wpQuiet_nil ?_;go_wp2;go_ret;exact⟨rfl,HB.out.trans' f.out⟩
open Go.ChangeShapes Go.WideShapes Go.ChangeAt Go.RowKit Go.Deep
theorem aSk{H:Type}{enc:TypeId×Value->H}{W:World}{c:Nat}{a:Nat->Bool}{f:Bool}{v:Value}{d:DataW H}{p:List MemPlace}{r:Reach}
 (g:Value.okWide prog W r c 9 v) (_:DataW.Trod enc prog W 0 a f 9 v d p):∃s:List Int,v=.string (sB s)/\IsB s:=by
 obtain⟨b,rfl⟩:=okWide_string underlying9 g;exact⟨nums b,by rw[FU],FQ b⟩
theorem N9:prog.cellsOf 43=4:=by kernel_rfl
theorem b3A:prog.cellsOf 28=2:=by kernel_rfl
theorem b3C:prog.cellsOf 32=7:=by kernel_rfl
theorem N8:prog.cellsOf 29=1:=by kernel_rfl
theorem b3B:prog.cellsOf 30=1:=by kernel_rfl
section
variable {H:Type}{enc:TypeId × Value→H}{W:World}{base:Nat}{spare:Nat→Bool}{held:Bool}
theorem b3F{n:Nat}{B:List Value}{x:DataW H×List MemPlace}(h:DataW.trod enc prog W base spare held n 43 B=some x):∃r:Rc,B=(rcC r).toList/\IsB r.2.2.1:=by
 obtain⟨a,l,m,o,p,q,s⟩:∃a,prog.underlying 43=some (.struct a)/\a[0]?.map (λf=>(f.type,f.offset))=some (3,0)/\a[1]?.map (λf=>(f.type,f.offset))=some (3,1)/\a[2]?.map (λf=>(f.type,f.offset))=some (9,2)/\a[3]?.map (λf=>(f.type,f.offset))=some (3,3)/\a.size=4:=⟨_,underlying43,rfl,rfl,rfl,rfl,rfl⟩;obtain⟨G,c,_,Z,C,b,d⟩:=DataW.trod_struct l h;rw[N9]at C;rw[s]at b;obtain⟨I,J,m⟩:=Option.map_eq_some_iff.1 m;obtain⟨K,L⟩:=Prod.mk.inj m;have g:=d 0 I J;rw[K,L,ou]at g;obtain⟨M,N,o⟩:=Option.map_eq_some_iff.1 o;obtain⟨O,P⟩:=Prod.mk.inj o;have i:=d 1 M N;rw[O,P,ou]at i;obtain⟨Q,R,p⟩:=Option.map_eq_some_iff.1 p;obtain⟨S,T⟩:=Prod.mk.inj p;have j:=d 2 Q R;rw[S,T,MX]at j;obtain⟨U,V,q⟩:=Option.map_eq_some_iff.1 q;obtain⟨X,Y⟩:=Prod.mk.inj q;have k:=d 3 U V;rw[X,Y,ou]at k
 match B,C with
 |[c0,c1,c2,c3],_=>
  match G,b with
  |[y0,y1,y2,y3],_=>
   replace g:DataW.trod enc prog W base spare held c 3 [c0]=some y0:=g;obtain⟨D,t,_,_⟩:=DataW.trod_int (x:=y0) underlying3 g;injection t with t _;subst t;replace i:DataW.trod enc prog W base spare held c 3 [c1]=some y1:=i;obtain⟨E,w,_,_⟩:=DataW.trod_int (x:=y1) underlying3 i;injection w with w _;subst w;replace j:DataW.trod enc prog W base spare held c 9 [c2]=some y2:=j;obtain⟨y,z,_⟩:=DataW.trod_string (x:=y2) underlying9 j;injection z with z _;subst z;replace k:DataW.trod enc prog W base spare held c 3 [c3]=some y3:=k;obtain⟨F,A,_,_⟩:=DataW.trod_int (x:=y3) underlying3 k;injection A with A _;subst A;exact⟨(D,E,nums y,F),by show _=[Value.int .i64 D,.int .i64 E,.string (sB (nums y)),.int .i64 F];rw[FU],FQ y⟩
theorem b3D{fuel:Nat}{P:List Value}{x:DataW H×List MemPlace}(h:DataW.trod enc prog W base spare held fuel 30 P=some x):∃A n c l,P=[.slice A n c]/\RcS W ⟨A,n,c⟩ l/\∀s∈l,IsB s.2.2.1:=by
 rcases open_slice underlying30 h with⟨f,Q⟩|⟨a,len,R,m,n,D,Y,f,Z,S,O,F,Q,T⟩
 .exact⟨none,0,0,[],f,⟨⟨rfl,lr' _,zl' _⟩,λi x h=>by simp at h⟩,λs g=>by simp at g⟩
 .have U:len<=m:=by rw[F];split<;>omega
  obtain⟨b,o,j⟩:=a;by_cases G:len=0
  .subst G;exact⟨_,_,_,[],f,⟨⟨rfl,by simp,O⟩,λi x h=>by simp at h⟩,λs g=>by simp at g⟩
  have k:∀i,i<len->∃r:Rc,IsB r.2.2.1/\W.cell? (((⟨b,o,j⟩:Addr).add (i*4)).add 0)=some (.int .i64 r.1)/\W.cell? (((⟨b,o,j⟩:Addr).add (i*4)).add 1)=some (.int .i64 r.2.1)/\W.cell? (((⟨b,o,j⟩:Addr).add (i*4)).add 2)=some (.string (sB r.2.2.1))/\W.cell? (((⟨b,o,j⟩:Addr).add (i*4)).add 3)=some (.int .i64 r.2.2.2):=by
   intro i p;obtain⟨V,q,I⟩:=T i (by omega);obtain⟨r,X,J⟩:=b3F I;rw[N9]at q;obtain⟨_,_,d⟩:=World.cells?_some q;rw[X]at d;have t:=d 0 (by omega);have w:=d 1 (by omega);have z:=d 2 (by omega);have B:=d 3 (by omega);simp only[List.getElem?_cons_zero,List.getElem?_cons_succ]at t w z B;exact⟨r,J,t,w,z,B⟩
  have K:j=none:=by
   obtain⟨r,_,g,_⟩:=k 0 (by omega);simpa[Addr.add]using World.cell?_spot g
  subst K;have L:∀i,i<len->∃y:Rc,(W.cell? ⟨b,o+i*4,none⟩=some (.int .i64 y.1)/\W.cell? ⟨b,o+i*4+1,none⟩=some (.int .i64 y.2.1)/\W.cell? ⟨b,o+i*4+2,none⟩=some (.string (sB y.2.2.1))/\W.cell? ⟨b,o+i*4+3,none⟩=some (.int .i64 y.2.2.2))/\IsB y.2.2.1:=by
   intro i p;obtain⟨r,J,t,w,z,B⟩:=k i p;simp only[Addr.add_mid,Nat.add_zero]at t w z B;exact⟨r,⟨t,w,z,B⟩,J⟩
  obtain⟨l,C,E⟩:=Dv len L
  exact⟨_,_,_,l,f,⟨⟨by rw[C],by rw[C];exact S,O⟩,λi x M=>⟨b,o,rfl,(E i x M).1⟩⟩,λs g=>by
   obtain⟨i,N,rfl⟩:=List.getElem_of_mem g
   exact(E i _ (List.getElem?_eq_getElem N)).2⟩
theorem b3I{v:Value}{d:DataW H}{p:List MemPlace}{r:Reach}{k:Nat}
 (C:Value.okWide prog W r k 28 v) (h:DataW.Trod enc prog W 0 spare held 28 v d p):∃a b:Int,v=cfV a b:=by
 obtain⟨c,g,o,q,s⟩:∃c,prog.underlying 28=some (.struct c)/\c[0]?.map (λf=>(f.type,f.offset))=some (3,0)/\c[1]?.map (λf=>(f.type,f.offset))=some (3,1)/\c.size=2:=⟨_,underlying28,rfl,rfl,rfl⟩;unfold Value.okWide at C;rw[g]at C;obtain⟨t,rfl,w,_⟩:=C;obtain⟨D,y⟩:=h;obtain⟨F,E,_,R,l,i,z⟩:=DataW.trod_struct g y;rw[b3A]at l;rw[s]at i;obtain⟨G,I,o⟩:=Option.map_eq_some_iff.1 o;obtain⟨J,K⟩:=Prod.mk.inj o;have m:=z 0 G I;rw[J,K,ou]at m;obtain⟨L,M,q⟩:=Option.map_eq_some_iff.1 q;obtain⟨N,O⟩:=Prod.mk.inj q;have n:=z 1 L M;rw[N,O,ou]at n;clear z;obtain⟨j⟩:=t;replace l:j.length=2:=l
 match j,l with
 |[c0,c1],_=>
  match F,i with
  |[y0,y1],_=>
   replace m:DataW.trod enc prog W 0 spare held E 3 [c0]=some y0:=m;obtain⟨P,A,_,_⟩:=DataW.trod_int (x:=y0) underlying3 m;injection A with A _;subst A;replace n:DataW.trod enc prog W 0 spare held E 3 [c1]=some y1:=n;obtain⟨Q,B,_,_⟩:=DataW.trod_int (x:=y1) underlying3 n;injection B with B _;subst B;exact⟨P,Q,rfl⟩
theorem b3M{v:Value}{d:DataW H}{p:List MemPlace}{r:Reach}{j:Nat}
 (J:Value.okWide prog W r j 43 v) (h:DataW.Trod enc prog W 0 spare held 43 v d p):∃r:Rc,v=rcV r/\IsB r.2.2.1:=by
 obtain⟨a,b,s,t,w,y,z⟩:∃a,prog.underlying 43=some (.struct a)/\a[0]?.map (λf=>(f.type,f.offset))=some (3,0)/\a[1]?.map (λf=>(f.type,f.offset))=some (3,1)/\a[2]?.map (λf=>(f.type,f.offset))=some (9,2)/\a[3]?.map (λf=>(f.type,f.offset))=some (3,3)/\a.size=4:=⟨_,underlying43,rfl,rfl,rfl,rfl,rfl⟩;unfold Value.okWide at J;rw[b]at J;obtain⟨A,rfl,B,_⟩:=J;obtain⟨K,C⟩:=h;obtain⟨O,k,_,hx,l,c,g⟩:=DataW.trod_struct b C;rw[N9]at l;rw[z]at c;obtain⟨P,Q,s⟩:=Option.map_eq_some_iff.1 s;obtain⟨R,S⟩:=Prod.mk.inj s;have m:=g 0 P Q;rw[R,S,ou]at m;obtain⟨T,U,t⟩:=Option.map_eq_some_iff.1 t;obtain⟨V,X⟩:=Prod.mk.inj t;have n:=g 1 T U;rw[V,X,ou]at n;obtain⟨Y,Z,w⟩:=Option.map_eq_some_iff.1 w;obtain⟨t2,o2⟩:=Prod.mk.inj w;have o:=g 2 Y Z;rw[t2,o2,MX]at o;obtain⟨f3,q3,y⟩:=Option.map_eq_some_iff.1 y;obtain⟨t3,o3⟩:=Prod.mk.inj y;have q:=g 3 f3 q3;rw[t3,o3,ou]at q;clear g;obtain⟨i⟩:=A;replace l:i.length=4:=l
 match i,l with
 |[c0,c1,c2,c3],_=>
  match O,c with
  |[y0,y1,y2,y3],_=>
   replace m:DataW.trod enc prog W 0 spare held k 3 [c0]=some y0:=m;obtain⟨L,D,_,_⟩:=DataW.trod_int (x:=y0) underlying3 m;injection D with D _;subst D;replace n:DataW.trod enc prog W 0 spare held k 3 [c1]=some y1:=n;obtain⟨M,E,_,_⟩:=DataW.trod_int (x:=y1) underlying3 n;injection E with E _;subst E;replace o:DataW.trod enc prog W 0 spare held k 9 [c2]=some y2:=o;obtain⟨F,G,_⟩:=DataW.trod_string (x:=y2) underlying9 o;injection G with G _;subst G;replace q:DataW.trod enc prog W 0 spare held k 3 [c3]=some y3:=q;obtain⟨N,I,_,_⟩:=DataW.trod_int (x:=y3) underlying3 q;injection I with I _;subst I;exact⟨(L,M,nums F,N),by show _=Value.agg #[Value.int .i64 L,.int .i64 M,.string (sB (nums F)),.int .i64 N];rw[FU],FQ F⟩
theorem b3J{v:Value}{d:DataW H}{p:List MemPlace}{r:Reach}{k:Nat}
 (S:Value.okWide prog W r k 32 v) (h:DataW.Trod enc prog W 0 spare held 32 v d p):∃(s:Sn)(d:SnD),v=snV s/\SnS W s d:=by
 obtain⟨a,g,z,A,B,C,D,E,F,G⟩:∃a,prog.underlying 32=some (.struct a)/\a[0]?.map (λf=>(f.type,f.offset))=some (3,0)/\a[1]?.map (λf=>(f.type,f.offset))=some (3,1)/\a[2]?.map (λf=>(f.type,f.offset))=some (29,2)/\a[3]?.map (λf=>(f.type,f.offset))=some (30,3)/\a[4]?.map (λf=>(f.type,f.offset))=some (29,4)/\a[5]?.map (λf=>(f.type,f.offset))=some (22,5)/\a[6]?.map (λf=>(f.type,f.offset))=some (22,6)/\a.size=7:=⟨_,underlying32,rfl,rfl,rfl,rfl,rfl,rfl,rfl,rfl⟩;unfold Value.okWide at S;rw[g]at S;obtain⟨I,rfl,J,_⟩:=S;obtain⟨T,K⟩:=h;obtain⟨U,c,_,hx,l,i,b⟩:=DataW.trod_struct g K;rw[b3C]at l;rw[G]at i;obtain⟨V,X,z⟩:=Option.map_eq_some_iff.1 z;obtain⟨Y,Z⟩:=Prod.mk.inj z;have m:=b 0 V X;rw[Y,Z,ou]at m;obtain⟨f1,q1,A⟩:=Option.map_eq_some_iff.1 A;obtain⟨t1,o1⟩:=Prod.mk.inj A;have n:=b 1 f1 q1;rw[t1,o1,ou]at n;obtain⟨f2,q2,B⟩:=Option.map_eq_some_iff.1 B;obtain⟨t2,o2⟩:=Prod.mk.inj B;have o:=b 2 f2 q2;rw[t2,o2,N8]at o;obtain⟨f3,q3,C⟩:=Option.map_eq_some_iff.1 C;obtain⟨t3,o3⟩:=Prod.mk.inj C;have q:=b 3 f3 q3;rw[t3,o3,b3B]at q;obtain⟨f4,q4,D⟩:=Option.map_eq_some_iff.1 D;obtain⟨t4,o4⟩:=Prod.mk.inj D;have t:=b 4 f4 q4;rw[t4,o4,N8]at t;obtain⟨f5,q5,E⟩:=Option.map_eq_some_iff.1 E;obtain⟨t5,o5⟩:=Prod.mk.inj E;have w:=b 5 f5 q5;rw[t5,o5,FV]at w;obtain⟨f6,q6,F⟩:=Option.map_eq_some_iff.1 F;obtain⟨t6,o6⟩:=Prod.mk.inj F;have y:=b 6 f6 q6;rw[t6,o6,FV]at y;clear b;obtain⟨j⟩:=I;replace l:j.length=7:=l
 match j,l with
 |[c0,c1,c2,c3,c4,c5,c6],_=>
  match U,i with
  |[y0,y1,y2,y3,y4,y5,y6],_=>
   replace m:DataW.trod enc prog W 0 spare held c 3 [c0]=some y0:=m;obtain⟨z0,L,_,_⟩:=DataW.trod_int (x:=y0) underlying3 m;injection L with L _;subst L;replace n:DataW.trod enc prog W 0 spare held c 3 [c1]=some y1:=n;obtain⟨z1,M,_,_⟩:=DataW.trod_int (x:=y1) underlying3 n;injection M with M _;subst M;replace o:DataW.trod enc prog W 0 spare held c 29 [c2]=some y2:=o;obtain⟨a2,n2,z2,l2,N,g2,b2⟩:=VK o;injection N with N _;subst N;replace q:DataW.trod enc prog W 0 spare held c 30 [c3]=some y3:=q;obtain⟨a3,n3,z3,l3,O,g3,b3⟩:=b3D q;injection O with O _;subst O;replace t:DataW.trod enc prog W 0 spare held c 29 [c4]=some y4:=t;obtain⟨a4,n4,z4,l4,P,g4,b4⟩:=VK t;injection P with P _;subst P;replace w:DataW.trod enc prog W 0 spare held c 22 [c5]=some y5:=w;obtain⟨a5,n5,z5,l5,Q,g5⟩:=FW w;injection Q with Q _;subst Q;replace y:DataW.trod enc prog W 0 spare held c 22 [c6]=some y6:=y;obtain⟨a6,n6,z6,l6,R,g6⟩:=FW y;injection R with R _;subst R;exact⟨⟨z0,z1,⟨a2,n2,z2⟩,⟨a3,n3,z3⟩,⟨a4,n4,z4⟩,⟨a5,n5,z5⟩,⟨a6,n6,z6⟩⟩,⟨l2,l3,l4,l5,l6⟩,rfl,⟨g2,g3,g4,g5,g6,b2,b4,b3⟩⟩
theorem b3K{ts:List TypeId}{ds:List (DataW H)}(w:(DataW.weightsEach prog ts ds).all (· <=reachBytes)=true){j:Nat}{s:Sn}{d:DataW H}{p:List MemPlace}(ht:ts[j]? =some 32)(M:ds[j]? =some d)(h:DataW.Trod enc prog W 0 spare held 32 (snV s) d p):s.K.n<=8796093021952:=by
 obtain⟨b,g,i,k,N⟩:∃b,prog.underlying 32=some (.struct b)/\b[2]?.map (λf=>(f.type,f.offset))=some (29,2)/\(b.toList.map (·.type))[2]? =some 29/\b.size=7:=⟨_,underlying32,rfl,rfl,rfl⟩;obtain⟨x,A⟩:=h;obtain⟨l,z,_,B,O,C,m⟩:=DataW.trod_struct g A;obtain⟨D,E,i⟩:=Option.map_eq_some_iff.1 i;obtain⟨F,G⟩:=Prod.mk.inj i;have o:=m 2 D E;rw[F,G,N8]at o;have q:d=.agg (l.map (·.1)):=congrArg Prod.fst B;cases r:l[2]? with
 |none=>rw[List.getElem?_eq_none_iff]at r;omega
 |some y=>
  rw[r]at o;have I:DataW.trod enc prog W 0 spare held z 29 (Value.slice s.K.a s.K.n s.K.c).cells.toList=some (y.1,y.2):=o;rcases b3G (d:=y.1) (p:=y.2) ⟨z,I⟩with h0|⟨es,sp,he,hn⟩
  .omega
  .have J:=DataW.weights_mem_each (P:=prog) (ts:=b.toList.map (·.type)) (ds:=l.map (·.1)) (j:=2) (d:=y.1) k (by rw[List.getElem?_map,r];rfl) ((es.length+sp.length)*16) (by rw[he];simp[DataW.weights,underlying29,b3H]);have t:=DataW.weights_mem_each (P:=prog) ht M ((es.length+sp.length)*16) (by rw[q];simp only[DataW.weights,g];exact J);have L:(es.length+sp.length)*16<=reachBytes:=of_decide_eq_true (List.all_eq_true.1 w _ t);simp only[reachBytes]at L;omega
end
end Go.Proofs.YtljilcbobhmkgaaGreatDoor
namespace Go.Proofs.YtljilcbobhmkgaaGreatDoor.lawARaw
set_option maxRecDepth 100000
open Go.ChangeShapes Go.WideShapes Go.ChangeAt Go.RowKit
theorem contract(H:Type)(enc:TypeId×Value->H)(W:World)(d:Nat)(args:Array Value)(ds E:List (DataW H))(b:List MemPlace)
 (a:∀(j:Nat)t v,Tryz.f4.params[j]? =some t->args[j]? =some v->Value.okWide prog W .any d t v)
 (F:DataW.Whole enc prog Tryz.f4.params.toList Rows.auditRawSpec.vars false W args.toList ds E b) (f:(DataW.weightsEach prog (Tryz.f4.params.toList++Rows.auditRawSpec.plain.varTypes prog) (ds++E)).all (· <=reachBytes)=true) (G:laidMetH prog Rows.auditRawRow.laid W):
 Calls prog 4 args W λe W'=>∃v,e=.returned v/\Rows.auditRawSpec.post enc prog Tryz.f4 false true false false W args v W':=by
 have g:=F;obtain⟨p,q,h,I,s,J,K⟩:=F;have w:DataW.TrodAll enc prog W 0 (λ_=>true) true Tryz.f4.params.toList args.toList ds p:=h;rw[params4]at w a f;obtain⟨x,L,d0,M,p0,q0,i,rfl,rfl,N,O⟩:=trodAll_cons w;obtain⟨y,P,d1,Q,p1,q1,rfl,rfl,rfl,R,S⟩:=trodAll_cons O;obtain⟨z,T,d2,U,p2,q2,rfl,rfl,rfl,V,X⟩:=trodAll_cons S;obtain⟨A,Y,d3,Z,p3,q3,rfl,rfl,rfl,B,r3⟩:=trodAll_cons X;obtain⟨C,a1,d4,a2,p4,q4,rfl,rfl,rfl,h4,r4⟩:=trodAll_cons r3;obtain⟨D,a5,d5,a6,p5,q5,rfl,rfl,rfl,h5,l⟩:=trodAll_cons r4;obtain⟨rfl,rfl,rfl⟩:=trodAll_nil l;obtain rfl:args= #[x,y,z,A,C,D]:=by cases args;simp_all
 obtain⟨rfl,rfl⟩:=trodVars_none I;obtain⟨t0,T0,rfl,m⟩:=Wx (a 0 26 x rfl rfl) (VX G) N;obtain⟨A1,n1,c1,l1,rfl,n⟩:=bV' (a 1 22 y rfl rfl) R;obtain⟨y2,z2,rfl⟩:=b3I (a 2 28 z rfl rfl) V;obtain⟨s3,e3,rfl,c⟩:=b3J (a 3 32 A rfl rfl) B;obtain⟨s4,rfl,o⟩:=aSk (a 4 9 C rfl rfl) h4;obtain⟨l,rfl,r⟩:=b3M (a 5 43 D rfl rfl) h5;refine(b4U T0 t0 l1 y2 z2 s3 e3 s4 l A1 n1 c1 W m n c o r (Nat.le_trans (Nat.le_of_eq c.k.1.1.symm) (b3K f (j:=3) rfl rfl B)) (VX G)).mono λe W'⟨s,hx⟩=>?_
 subst s;exact⟨_,rfl,law_post rfl (by kernel_rfl) (by rw[params4];intro t ht;simp only[List.mem_cons,List.not_mem_nil,or_false]at ht;rcases ht with rfl|rfl|rfl|rfl|rfl|rfl<;>exact⟨by kernel_rfl,of_decide_eq_true (by kernel_rfl)⟩) g hx rfl rfl⟩
theorem door_met(os:Os)(args:Array Value):laidMetH prog Rows.auditRawRow.laid ((World.doorLaid prog 400 os).forCall (λ_ _=>0) ⟨#[],args,[]⟩).memory:=
 laidMetH_of_parts3 (fuel:=8) (laidMet_of_run' 8 (by kernel_rfl) (by kernel_rfl)) (by kernel_rfl) (by kernel_rfl)
theorem lifted(os:Os)(a:os.Started)(H:Type)(enc:TypeId×Value->H):
 ReturnsInHanded {} Tryz.checked os 4 .any (λw args=>(Rows.auditRawSpec.pre enc prog Tryz.f4 [] false w args/\laidMetH prog Rows.auditRawRow.laid w)/\sizedMet enc prog Tryz.f4 (OpenSpec.ofChange Rows.auditRawSpec) false w args)
  (Rows.auditRawSpec.post enc prog Tryz.f4 false true false false):=by
 refine returnsInHanded_of_change_and (C:=Tryz.checked) (X:=λw _=>laidMetH prog Rows.auditRawRow.laid w) (λ_ _ _ g h=>h.of_heap g) own a (by kernel_rfl) func4
  (ChangeSpec.witness_shaped (enc:=enc) (C:=Tryz.checked) (os:=os) (X:=λw _=>laidMetH prog Rows.auditRawRow.laid w) false (World.doorLaid prog 400 os) #[.agg #[.slice none 0 0,.slice none 0 0,.slice none 0 0,.slice none 0 0,.slice none 0 0,.slice none 0 0,.slice none 0 0,.slice none 0 0,.slice none 0 0,.slice none 0 0,.slice none 0 0,.slice none 0 0],.slice none 0 0,.agg #[.int .i64 0,.int .i64 0],.agg #[.int .i64 0,.int .i64 0,.slice none 0 0,.slice none 0 0,.slice none 0 0,.slice none 0 0,.slice none 0 0],.string ⟨#[]⟩,.agg #[.int .i64 0,.int .i64 0,.string ⟨#[]⟩,.int .i64 0]] 8 rfl (World.shaped_of_RefB (by kernel_rfl) (by kernel_rfl)) (by kernel_rfl) (by kernel_rfl) (by kernel_rfl) (door_met os _)) ?_
 intro W c args i j b d k _ f l _;exact contract H enc W c args i j b d k f l
theorem b0m:joinedFacts Tryz.pinned.checked.prog 4 Tryz.f4 Rows.auditRawSpec Rows.auditRawRow=true:=by kernel_rfl
theorem b0o:Tryz.pinned.checked.prog.funcNamed Rows.auditRawRow.func=some 4:=by kernel_rfl
theorem said:Rows.AuditRawSaid:=
 OpenClaim.holds_of_wide 4 Tryz.f4 rfl rfl rfl rfl rfl rfl rfl ⟨rfl,rfl,rfl,rfl,rfl⟩ rfl rfl rfl rfl rfl b0o func4 b0m
  (of_decide_eq_true (by kernel_rfl)) (by unfold Func.isWrapper;first|(rw[pP' (by decide+kernel)];kernel_rfl)|(rw[nN' (by decide+kernel)];exact⟨rfl,rfl⟩))
  (λc a H b _=>lifted c a H b)
theorem plain(f:FuncId)(a:Func)(c:Tryz.pinned.checked.prog.funcNamed "namedesk/namedesklaw34.AuditRaw" =some f)(b:Tryz.pinned.checked.prog.funcs[f]? =some a):
 false=Tryz.pinned.checked.prog.looks []/\∀(j:Nat)t,a.params[j]? =some t->Tryz.pinned.checked.prog.wantsStandIn t=false:=by
 obtain rfl:f=4:=Option.some.inj ((show prog.funcNamed "namedesk/namedesklaw34.AuditRaw" =some 4 by kernel_rfl).symm.trans c) |>.symm;obtain rfl:a=Tryz.f4:=(Option.some.inj (func4.symm.trans b)).symm;refine⟨by kernel_rfl,λj t ht=>?_⟩;rw[params4]at ht;have ht:=Array.mem_of_getElem? ht;simp only[List.mem_toArray,List.mem_cons,List.not_mem_nil,or_false]at ht;rcases ht with rfl|rfl|rfl|rfl|rfl|rfl
 .exact(show prog.wantsStandIn 26=false by kernel_rfl)
 .exact(show prog.wantsStandIn 22=false by kernel_rfl)
 .exact(show prog.wantsStandIn 28=false by kernel_rfl)
 .exact(show prog.wantsStandIn 32=false by kernel_rfl)
 .exact(show prog.wantsStandIn 9=false by kernel_rfl)
 .exact(show prog.wantsStandIn 43=false by kernel_rfl)
theorem card:Rows.AuditRawCardSaid:=
 Claim7.holds_tied_plain_at .later [] _ _ _ _ said (λ_ h=>by cases h) (by kernel_rfl) (λ_ h=>by cases h) auditRaw_row_tie rfl ⟨rfl,rfl⟩ (by kernel_rfl) rfl plain (by kernel_rfl)
#print axioms card
end Go.Proofs.YtljilcbobhmkgaaGreatDoor.lawARaw
