/- Part Bw34. -/
import Derived.Test.YtljilcbobhmkgaaGreatDoorBw33
import Derived.SizedLaws
open Go.Proofs.Tryz
namespace Go.Proofs.YtljilcbobhmkgaaGreatDoor
set_option maxHeartbeats 25600000
set_option maxRecDepth 100000
open Go.RowKit
theorem VU(T:ak)(t:TV)(a b:Int)(s:Sn)(d:SnD)(w:World)(ht:aS w t T)(hs:SnS w s d):cE' 9 #[t.v,cfV a b,snV s] w (.int .i64 (rO T a b s d)):=by
 obtain⟨O,M⟩:=eX' (((tW' w t).alloc (.cells #[.int .i64 a,.int .i64 b] 28)).alloc (.cells (snC s) 32));have Y:Ext w O:=by rw[M];exact((eR'.ay _).ay _).ay _
 have C:=ah Y;have HT:=ah (ht.aB Y);have fV:Hid (∀w',Ext O w'->∀k:Nat,w'.cell? ⟨w.heap.size,k,none⟩=t.v.cells[k]?):=ah (λw' h=>aP (((eR'.ay _).ay _).trans' (by rw[M]at h;exact h)));have a6:Hid (∀w',Ext O w'->∀k:Nat,w'.cell? ⟨w.heap.size+1,k,none⟩=(#[.int .i64 a,.int .i64 b]:Array Value)[k]?):=ah (λw' h k=>cell_of_row w' _ k _ 28 (0,0) (qJ ((eR'.ay _).trans' (by rw[M]at h;exact h))))
 have H:Hid (∀w',Ext O w'->∀k:Nat,w'.cell? ⟨w.heap.size+2,k,none⟩=(snC s)[k]?):=ah (λw' h k=>by
  have V:=qJ (w:=(tW' w t)) (by rw[M]at h;exact h);simp only[World.size_alloc]at V
  exact cell_of_row w' _ k (snC s) 32 (0,0) V)
 have G:=ah (hs.ext Y);have C1:=ah (b3V a b s d O G.out);have C2:Hid (∀w',Ext O w'->cE' 29 #[.slice s.K.a s.K.n s.K.c] w' (.bool (asN d.keys))):=ah (λw' h=>VT d.keys s.K.a s.K.n s.K.c w' (G.out.k.ext h) G.out.kb);have C3:Hid (∀w',Ext O w'->cE' 29 #[.slice s.L.a s.L.n s.L.c] w' (.bool (asN d.locks))):=ah (λw' h=>VT d.locks s.L.a s.L.n s.L.c w' (G.out.l.ext h) G.out.lb)
 have HL:Hid (shB a b d=true->d.keys.length=d.recs.length/\(d.phs.length:Int)=a):=ah (λJ=>by
  unfold shB at J;simp only[aT,au]at J
  exact⟨J.2.1,J.2.2.2.1⟩)
 have D4:Hid (gnG T a (d.keys.drop 0) (d.recs.drop 0)=gnG T a d.keys d.recs):=rfl;have D5:Hid ((d.owns.drop 0).all (uo a d.phs)=ownB a d.phs d.owns):=rfl;have qw:Hid (((d.phs.drop 0).any λy=>decide (5=y))=d.phs.any λy=>decide (5=y)):=rfl;have ba:Hid (s.K.n=d.keys.length):=ah G.out.k.1.1
 have P:Hid (rO T a b s d=if shB a b d=false then 1 else if(asN d.keys&&asN d.locks)=false then 2
  else if((decide (0<=s.now)&&decide (s.now<=1073741824))&&(decide (0<=s.cnt)&&decide (s.cnt<=b)))=false then 3 else if gnG T a d.keys d.recs=false then 4 else if ownB a d.phs d.owns=false then 5
  else if(!(d.phs.any λy=>decide (5=y))&& !decide (s.cnt=d.keys.length))=true then 6 else 0):=rfl
 generalize shB a b d=v1 at*;generalize asN d.keys=v2 at*;generalize asN d.locks=v3 at*;generalize gnG T a d.keys d.recs=v4 at*;generalize ownB a d.phs d.owns=v5 at*;generalize(d.phs.any λy=>decide (5=y))=v6 at*;generalize rO T a b s d=RS at*;obtain⟨f,i,bb,m,g⟩:=d;obtain⟨R,D,⟨ka,kn,kc⟩,⟨ra,rn,rc⟩,⟨la,ln,lc⟩,⟨oa,on,oc⟩,⟨pa,pn,pc⟩⟩:=s;simp only[]at P H C1 C2 C3 HL D4 D5 qw ba;have bc:kn=f.length:=G.out.k.1.1;have bd:rn=i.length:=G.out.r.1.1;have be:on=m.length:=G.out.o.len.1;have bf:pn=g.length:=G.out.p.len.1;subst bc bd be bf;have ci:i.length<=9223372036854775807:=by obtain⟨h1,V,W⟩:=G.out.r.1;simp only[]at h1 V W;(try simp only[maxLen]at W);omega
 have cj:m.length<=9223372036854775807:=by obtain⟨h1,V,W⟩:=G.out.o.len;simp only[]at h1 V W;(try simp only[maxLen]at W);omega
 have ck:g.length<=9223372036854775807:=by obtain⟨h1,V,W⟩:=G.out.p.len;simp only[]at h1 V W;(try simp only[maxLen]at W);omega
 obtain⟨b1,h1⟩:=eY' (decide (R<0));obtain⟨b2,V⟩:=eY' (decide (1073741824<R));obtain⟨b3,W⟩:=eY' (decide (D<0));obtain⟨b4,h4⟩:=eY' (decide (b<D))
 have HR:Hid (((decide (0<=R)&&decide (R<=1073741824))&&(decide (0<=D)&&decide (D<=b)))= !(b1||b2||b3||b4)):=ah (by
  rw[<- h1,<- V,<- W,<- h4,Bool.eq_iff_iff];simp only[aT,Bool.not_eq_true',oF',au,aA]
  omega)
 rw[HR.out]at P;clear hs ht Y HR;go_enter func9,ntmps9;go_wp2_with fail;rw[<- M];refine C1.out.mono ?_;rintro e w1⟨rfl,J⟩;have gW:=ah J;have Z:=H.out _ J;clear J M C1;cases v1 with
 |false=>
  have B:Hid (RS=1):=ah (by rw[P.out];rfl);have E:=C.out.trans' gW.out;clear P;go_wp2;go_ret;exact⟨by rw[B.out];rfl,E⟩
 |true=>
 go_wp2_with fail;refine(C2.out _ gW.out).mono ?_;rintro e w2⟨rfl,J⟩;have a0:=ah (gW.out.trans' J);have bi:=H.out _ a0.out;clear J Z;cases v2 with
 |false=>
  have B:Hid (RS=2):=ah (by rw[P.out];rfl);have E:=C.out.trans' a0.out;clear P;go_wp2;go_ret;exact⟨by rw[B.out];rfl,E⟩
 |true=>
 go_wp2_with fail;refine(C3.out _ a0.out).mono ?_;rintro e w3⟨rfl,J⟩;have dU:=ah (a0.out.trans' J);have bj:=H.out _ dU.out;have bl:=a6.out _ dU.out;clear J bi;cases v3 with
 |false=>
  have B:Hid (RS=2):=ah (by rw[P.out];rfl);have E:=C.out.trans' dU.out;clear P;go_wp2;go_ret;exact⟨by rw[B.out];rfl,E⟩
 |true=>
 have a9:(b1||b2||b3||b4)=true/\(b1=true\/b1=false/\b2=true\/b1=false/\b2=false/\b3=true\/b1=false/\b2=false/\b3=false/\b4=true)\/b1=false/\b2=false/\b3=false/\b4=false:=by cases b1<;>cases b2<;>cases b3<;>cases b4<;>simp
 rcases a9 with⟨ho,a9⟩|⟨rfl,rfl,rfl,rfl⟩
 .have B:Hid (RS=3):=ah (by rw[P.out,ho];rfl);have E:=C.out.trans' dU.out;clear P ho;rcases a9 with rfl|⟨rfl,rfl⟩|⟨rfl,rfl,rfl⟩|⟨rfl,rfl,rfl,rfl⟩
  all_goals
   go_wp2;go_ret;exact⟨by rw[B.out];rfl,E⟩
 obtain⟨bm,bq⟩:Hid (f.length=i.length)/\Hid ((g.length:Int)=a):=⟨ah (by first|exact(HL.out rfl).1|exact(HL.out trivial).1),ah (by first|exact(HL.out rfl).2|exact(HL.out trivial).2)⟩;have a1:Hid (RS=if v4=false then 4 else if v5=false then 5 else if(!v6&& !decide (D=f.length))=true then 6 else 0):=ah (by rw[P.out];rfl);clear P HL;go_wp2_with fail;clear bj bl;go_loopg[53] i.length (λgh bs wx=>∃k:Nat,k+gh=i.length/\bs=.int .i64 k/\Hid (gnG T a (f.drop k) (i.drop k)=v4)/\Hid (Ext O wx));exact⟨0,by omega,rfl,D4,dU⟩;obtain⟨k,hk,rfl,N,F⟩:=hrel;by_cases A:k<i.length
 .obtain⟨g2,rfl⟩:=gS' gk;have aa:k<f.length:=by rw[bm.out];exact A
  obtain⟨br,or,rfl,n0,n1,n2,n3⟩:=RcS.at_ (G.out.r.ext F.out) A;obtain⟨bk,ok,rfl,aq⟩:=(G.out.k.ext F.out).at_ aa;have hI:=N.out;rw[drop_at f k aa,drop_at i k A,gnG]at hI;have j:=ah hI;have bt:=ah (G.out.kb _ (gM' aa));have bu:=ah (G.out.rb _ (gM' A));generalize f[k]=key at*;generalize i[k]=r at*;have ar:=z0' k;have av:(k:Int)<(i.length:Int):=by omega
  have cl:(k:Int)<(f.length:Int):=by omega
  obtain⟨X,a2⟩:=eX' (wr.alloc (.cells #[.int .i64 r.1,.int .i64 r.2.1,.string (sB r.2.2.1),.int .i64 r.2.2.2] 43));have ab:Ext wr X:=by rw[a2];exact eR'.ay _
  have dS:=ah (F.out.trans' ab);have bv:Hid (∀w',Ext X w'->∀k:Nat,w'.cell? ⟨wr.heap.size,k,none⟩=(rcC r)[k]?):=ah (λw' h k=>ED _ _ (by rw[a2]at h;exact h) k);have bw:=ah (aY (bg ab) aq);obtain⟨gb,ac⟩:=eY' (kR T key r);have a3:Hid (∀w',Ext X w'->cE' 16 #[t.v,.string (sB key),rcV r] w' (.bool gb)):=ah (λw' h=>by rw[<- ac];exact N7 T t key r w' (HT.out.aB (dS.out.trans' h)) bt.out bu.out);rw[ac]at j;clear hI N ac aq ab;go_wp2_with fail;rw[<- a2];clear a2 n0 n1 n2 n3;have rT:∀z:aj X,∀k:Nat,z.w.cell? ⟨w.heap.size,k,none⟩=t.v.cells[k]? :=λz=>fV.out _ (dS.out.trans' z.h)
  have rC:∀z:aj X,∀k:Nat,z.w.cell? ⟨w.heap.size+1,k,none⟩=(#[.int .i64 a,.int .i64 b]:Array Value)[k]? :=λz=>a6.out _ (dS.out.trans' z.h)
  have Z:∀z:aj X,∀k:Nat,z.w.cell? ⟨w.heap.size+2,k,none⟩=(#[.int .i64 R,.int .i64 D,.slice (some ⟨bk,ok,none⟩) f.length kc,.slice (some ⟨br,or,none⟩) i.length rc,.slice la ln lc,.slice oa m.length oc,.slice pa g.length pc]:Array Value)[k]? :=λz=>H.out _ (dS.out.trans' z.h)
  have r5:∀z:aj X,∀k:Nat,z.w.cell? ⟨wr.heap.size,k,none⟩=(#[.int .i64 r.1,.int .i64 r.2.1,.string (sB r.2.2.1),.int .i64 r.2.2.2]:Array Value)[k]? :=λz=>bv.out _ z.h
  have cK:∀z:aj X,z.w.cell? ⟨bk,ok+k,none⟩=some (.string (sB key)):=bY bw.out;cases gb with
  |false=>
   have B:Hid (RS=4):=ah (by rw[a1.out,(show v4=false by rw[<- j.out];rfl)];rfl);clear j;refine rX' ?_
   repeat(go_big_quiet_step(first|(go_at_call 16;with_reducible exact aQ (a3.out _ (aj.h _)))))
   refine wpQuiet_nil ?_;rintro _⟨z,rfl⟩;have E:=C.out.trans' (dS.out.trans' z.h);generalize z.w=w6 at*;clear rT rC Z r5 cK z a3;go_wp2;go_ret;exact⟨by rw[B.out];rfl,E⟩
  |true=>
   obtain⟨bo,dW⟩:=eY' (decide (a<=r.2.1));have cm:=ah dW;rw[dW]at j;refine rX' ?_
   repeat(go_big_quiet_step(first|(go_at_call 16;with_reducible exact aQ (a3.out _ (aj.h _)))))
   refine wpQuiet_nil ?_;rintro _⟨z,rfl⟩;have eY:=ah (dS.out.trans' z.h);generalize z.w=w6 at*;clear rT rC Z r5 cK z a3;cases bo with
   |true=>
    have B:Hid (RS=4):=ah (by rw[a1.out,(show v4=false by rw[<- j.out];rfl)];rfl);have E:=C.out.trans' eY.out;clear j;go_wp2;go_ret;exact⟨by rw[B.out];rfl,E⟩
   |false=>
    have HN:Hid (gnG T a (f.drop (k+1)) (i.drop (k+1))=v4):=ah (by rw[<- j.out];simp);clear j;go_wp2;go_roundg g2;exact⟨k+1,by omega,by go_num,HN,eY⟩;omega
 .obtain rfl:v4=true:=by
   rw[<- N.out,List.drop_of_length_le (show i.length<=k by omega)];cases f.drop k<;>rfl
  have S:Hid (RS=if v5=false then 5 else if(!v6&& !decide (D=f.length))=true then 6 else 0):=ah (by rw[a1.out];rfl);have Z:=H.out _ F.out;have jC:=ah F.out;clear a1 D4 N F;go_wp2_with fail;clear Z A hk;go_loopg[78] m.length (λgh bx wx=>∃k:Nat,k+gh=m.length/\bx=.int .i64 k/\Hid ((m.drop k).all (uo a g)=v5)/\Hid (Ext O wx));exact⟨0,by omega,rfl,D5,jC⟩;obtain⟨k,hk,rfl,N,F⟩:=hrel;have rC:=a6.out _ F.out;have Z:=H.out _ F.out;by_cases A:k<m.length
  .obtain⟨g2,rfl⟩:=gS' gk;obtain⟨bo,oo,rfl,cn⟩:=(G.out.o.ext F.out).at_ A;have hI:=N.out;rw[VO A]at hI;have j:=ah hI;generalize m[k]=ow at*;have ar:=z0' k;have av:(k:Int)<(m.length:Int):=(by omega);clear N hI;by_cases hw:0<=ow/\ow<a
   case neg=>
    have HB:Hid ((decide ((0:Int)<=ow)&&decide (ow<=a-1))=false):=ah (by rw[aF',aA,aA];omega)
    have B:Hid (RS=5):=ah (by
     have h5:v5=false:=by rw[<- j.out,uo,HB.out];rfl
     rw[S.out,h5];rfl)
    have E:=C.out.trans' F.out;clear j HB;by_cases hn:ow<0
    .have d1:decide (ow<0)=true:=dt' hn;clear hw hn;go_wp2;go_ret;exact⟨by rw[B.out];rfl,E⟩
    .have d1:decide (ow<0)=false:=df' hn;have d2:decide (a<=ow)=true:=dT';clear hw hn;go_wp2;go_ret;exact⟨by rw[B.out];rfl,E⟩
   have HB:Hid ((decide ((0:Int)<=ow)&&decide (ow<=a-1))=true):=ah (by rw[dt' hw.1,dt' (by omega)];rfl);obtain⟨q,rfl⟩:=iN' ow;have hq:q<g.length:=(by have:=bq.out;omega);obtain⟨bp,op,rfl,bz⟩:=(G.out.p.ext F.out).at_ hq;have e0:g.getD ((q:Int)).toNat 0=g[q]:=(by simp[List.getD_eq_getElem?_getD,hq]);have I:Hid (((decide (2<=g[q])&&decide (g[q]<=6))&&(m.drop (k+1)).all (uo a g))=v5):=ah (by rw[<- j.out,uo,HB.out,e0];simp);have co:=z0' q;have cp:(q:Int)<(g.length:Int):=(by omega);have d1:decide ((q:Int)<0)=false:=dF';have d2:decide (a<=(q:Int))=false:=dF';clear e0 j HB;generalize g[q]=ph at*;obtain⟨c1,e1⟩:=eY' (decide (ph<2));obtain⟨c2,e2⟩:=eY' (decide (6<ph))
   have HC:Hid ((decide (2<=ph)&&decide (ph<=6))= !(c1||c2)):=ah (by
    rw[<- e1,<- e2,Bool.eq_iff_iff];simp only[aT,Bool.not_eq_true',oF',au,aA]
    omega)
   rw[HC.out]at I;clear HC hw;rcases(by cases c1<;>cases c2<;>simp:c1=true\/(c1=false/\c2=true)\/(c1=false/\c2=false))with rfl|⟨rfl,rfl⟩|⟨rfl,rfl⟩
   .have B:Hid (RS=5):=ah (by
     have h5:v5=false:=by rw[<- I.out];rfl
     rw[S.out,h5];rfl)
    have E:=C.out.trans' F.out;clear I;go_wp2;go_ret;exact⟨by rw[B.out];rfl,E⟩
   .have B:Hid (RS=5):=ah (by
     have h5:v5=false:=by rw[<- I.out];rfl
     rw[S.out,h5];rfl)
    have E:=C.out.trans' F.out;clear I;go_wp2;go_ret;exact⟨by rw[B.out];rfl,E⟩
   .have HN:Hid ((m.drop (k+1)).all (uo a g)=v5):=ah (by rw[<- I.out];rfl);clear I;go_wp2;go_roundg g2;exact⟨k+1,by omega,by go_num,HN,F⟩;omega
  .obtain rfl:v5=true:=by rw[<- N.out,List.drop_of_length_le (by omega)];rfl
   have U:Hid (RS=if(!v6&& !decide (D=f.length))=true then 6 else 0):=ah (by rw[S.out];rfl);have dS:=ah F.out;clear S D5 N F rC;go_wp2_with fail;clear Z A hk;go_loopg[110] g.length (λgh bB wx=>∃k:Nat,k+gh=g.length/\bB=.int .i64 k/\Hid (((g.drop k).any λy=>decide (5=y))=v6)/\Hid (Ext O wx));exact⟨0,by omega,rfl,qw,dS⟩;obtain⟨k,hk,rfl,N,F⟩:=hrel;by_cases A:k<g.length
   .obtain⟨g2,rfl⟩:=gS' gk;obtain⟨bp,op,rfl,bz⟩:=(G.out.p.ext F.out).at_ A;have hI:=N.out;rw[VW A]at hI;have j:=ah hI;generalize g[k]=ph at*;have ar:=z0' k;have av:(k:Int)<(g.length:Int):=(by omega);clear N hI;by_cases e5:ph=5
    .have d1:(ph==5)=true:=by rw[bq'];exact e5
     have B:Hid (RS=0):=ah (by
      have h6:v6=true:=by rw[<- j.out,dt' e5.symm];rfl
      rw[U.out,h6];rfl)
     have E:=C.out.trans' F.out;clear j e5;go_wp2;go_ret;exact⟨by rw[B.out];rfl,E⟩
    .have d1:(ph==5)=false:=(by rw[aH];exact e5);have HN:Hid (((g.drop (k+1)).any λy=>decide (5=y))=v6):=ah (by rw[<- j.out,df' (λh=>e5 h.symm)];rfl);clear j e5;go_wp2;go_roundg g2;exact⟨k+1,by omega,by go_num,HN,F⟩;omega
   .obtain rfl:v6=false:=by rw[<- N.out,List.drop_of_length_le (by omega)];rfl
    have Z:=H.out _ F.out;have E:=C.out.trans' F.out;by_cases hc:D=(f.length:Int)
    .have e1:(D != (f.length:Int))=false:=(by rw[hc];simp);have B:Hid (RS=0):=ah (by rw[U.out,dt' hc];rfl);clear U hc;go_wp2;go_ret;exact⟨by rw[B.out];rfl,E⟩
    .have e1:(D != (f.length:Int))=true:=(by rw[bne_iff_ne];exact hc);have B:Hid (RS=6):=ah (by rw[U.out,df' hc];rfl);clear U hc;go_wp2;go_ret;exact⟨by rw[B.out];rfl,E⟩
open Go.ChangeShapes Go.WideShapes Go.ChangeAt Go.RowKit Go.Deep
theorem Jh:prog.cellsOf 80=2:=by kernel_rfl
theorem FV:prog.cellsOf 22=1:=by kernel_rfl
theorem Bh:prog.cellsOf 23=1:=by kernel_rfl
theorem F8:prog.cellsOf 24=1:=by kernel_rfl
theorem Yx:prog.cellsOf 26=12:=by kernel_rfl
theorem Dv{α:Type}{Q:Nat->α->Prop}:∀n:Nat,(∀i,i<n->∃x,Q i x)->∃l:List α,l.length=n/\∀(i:Nat)x,l[i]? =some x->Q i x
 |0,_=>⟨[],rfl,λi x h=>by simp at h⟩
 |n+1,h=>by
  obtain⟨l,b,d⟩:=Dv n λi c=>h i (by omega)
  obtain⟨x,f⟩:=h n (by omega);refine⟨l++[x],by simp[b],λi y a=>?_⟩;have c:i<(l++[x]).length:=(List.getElem?_eq_some_iff.1 a).1;rw[lA',List.length_singleton,b]at c;by_cases g:i<n
  .rw[List.getElem?_append_left (by omega)]at a;exact d i y a
  .have e:i=l.length:=by omega
   subst e;rw[List.getElem?_append_right (lr' _),Nat.sub_self,List.getElem?_cons_zero]at a;injection a with a;subst a;rw[b];exact f
section
variable {H:Type}{enc:TypeId × Value→H}{W:World}{base:Nat}{spare:Nat→Bool}{held:Bool}
theorem OO{n:Nat}{p:List Value}{x:DataW H×List MemPlace}(h:DataW.trod enc prog W base spare held n 73 p=some x):∃y:Sp,p=[.int .i64 y.lo,.int .i64 y.hi,.int .i64 y.val]:=by
 obtain⟨a,c,d,g,i,j⟩:∃a,prog.underlying 73=some (.struct a)/\a[0]?.map (λf=>(f.type,f.offset))=some (3,0)/\a[1]?.map (λf=>(f.type,f.offset))=some (3,1)/\a[2]?.map (λf=>(f.type,f.offset))=some (3,2)/\a.size=3:=⟨_,underlying73,rfl,rfl,rfl,rfl⟩;obtain⟨r,S,_,T,q,b,k⟩:=DataW.trod_struct c h;rw[Bz]at q;rw[j]at b;obtain⟨s,t,d⟩:=Option.map_eq_some_iff.1 d;obtain⟨w,z,g⟩:=Option.map_eq_some_iff.1 g;obtain⟨A,B,i⟩:=Option.map_eq_some_iff.1 i;obtain⟨C,D⟩:=Prod.mk.inj d;obtain⟨E,F⟩:=Prod.mk.inj g;obtain⟨G,I⟩:=Prod.mk.inj i
 match p,q with
 |[c0,c1,c2],_=>
  have l:=k 0 s t;have m:=k 1 w z;have o:=k 2 A B;rw[C,D,ou]at l;rw[E,F,ou]at m;rw[G,I,ou]at o;simp only[List.drop_zero,List.drop_succ_cons,List.take_succ_cons,List.take_zero]at l m o
  match r,b with
  |[y0,y1,y2],_=>
   obtain⟨J,K,_,_⟩:=DataW.trod_int (x:=y0) underlying3 l;obtain⟨L,M,_,_⟩:=DataW.trod_int (x:=y1) underlying3 m;obtain⟨N,O,_,_⟩:=DataW.trod_int (x:=y2) underlying3 o;injection K with P;injection M with Q;injection O with R;exact⟨⟨J,L,N⟩,by rw[P,Q,R]⟩
theorem FW{fuel:Nat}{q:List Value}{x:DataW H×List MemPlace}(h:DataW.trod enc prog W base spare held fuel 22 q=some x):∃A n c l,q=[.slice A n c]/\aC W ⟨A,n,c⟩ l:=by
 rcases open_ints underlying22 underlying3 ou h with⟨f,r⟩|⟨a,len,s,o,f,_,C,t,w,r,d,y⟩
 .exact⟨none,0,0,[],f,aC.nil_ _⟩
 .have z:len<=o.length:=by rw[w];split<;>omega
  refine⟨_,_,_,o.take len,f,⟨by simp;omega,by simp;omega,t⟩,λi x g=>?_⟩;have B:i<len:=by have:=(List.getElem?_eq_some_iff.1 g).1;simp at this;omega
  have p:=d i (by omega);obtain⟨b,m,k⟩:=a;have j:k=none:=by simpa[Addr.add]using World.cell?_spot (d 0 (by omega))
  subst j;refine⟨b,m,rfl,?_⟩;rw[Addr.add_mid]at p;rw[p];rw[List.getElem?_take_of_lt B]at g;simp[List.getD,g]
theorem Qe{n:Nat}{m:List Value}{x:DataW H×List MemPlace}(h:DataW.trod enc prog W base spare held n 80 m=some x):
 ∃y:Mp,∃za zn zc,m=[.int .i64 y.lo,.slice za zn zc]/\aC W ⟨za,zn,zc⟩ y.to:=by
 obtain⟨a,c,d,g,i⟩:∃a,prog.underlying 80=some (.struct a)/\a[0]?.map (λf=>(f.type,f.offset))=some (3,0)/\a[1]?.map (λf=>(f.type,f.offset))=some (22,1)/\a.size=2:=⟨_,underlying80,rfl,rfl,rfl⟩;obtain⟨q,K,_,L,o,b,p⟩:=DataW.trod_struct c h;rw[Jh]at o;rw[i]at b;obtain⟨r,s,d⟩:=Option.map_eq_some_iff.1 d;obtain⟨t,w,g⟩:=Option.map_eq_some_iff.1 g;obtain⟨z,A⟩:=Prod.mk.inj d;obtain⟨B,C⟩:=Prod.mk.inj g
 match m,o with
 |[c0,c1],_=>
  have j:=p 0 r s;have k:=p 1 t w;rw[z,A,ou]at j;rw[B,C,FV]at k;simp only[List.drop_zero,List.drop_succ_cons,List.take_succ_cons,List.take_zero]at j k
  match q,b with
  |[y0,y1],_=>
   obtain⟨D,E,_,_⟩:=DataW.trod_int (x:=y0) underlying3 j;obtain⟨za,zn,zc,l,F,G⟩:=FW (x:=y1) k;injection E with I;injection F with J;exact⟨⟨D,l⟩,za,zn,zc,by rw[I,J],G⟩
theorem Bl{fuel:Nat}{K:List Value}{x:DataW H×List MemPlace}(h:DataW.trod enc prog W base spare held fuel 23 K=some x):∃A n c l,K=[.slice A n c]/\bK W ⟨A,n,c⟩ l:=by
 rcases open_slice underlying23 h with⟨g,L⟩|⟨a,len,M,m,n,D,T,g,U,N,G,p,L,I⟩
 .exact⟨none,0,0,[],g,bK.nil_ _⟩
 .have O:len<=m:=by rw[p];split<;>omega
  obtain⟨b,o,P⟩:=a;by_cases q:len=0
  .subst q;exact⟨_,_,_,[],g,⟨rfl,by simp,G⟩,λi x h=>by simp at h⟩
  have r:P=none:=by
   obtain⟨s,f,j⟩:=I 0 (by omega);obtain⟨y,t⟩:=OO j;rw[Bz]at f;obtain⟨_,_,d⟩:=World.cells?_some f;rw[t]at d;have J:=d 0 (by omega);simp only[List.getElem?_cons_zero]at J;have Q:=World.cell?_spot J;simpa[Addr.add]using Q
  subst r;have w:∀i,i<len->∃y:Sp,W.cell? ⟨b,o+i*3,none⟩=some (.int .i64 y.lo)/\W.cell? ⟨b,o+i*3+1,none⟩=some (.int .i64 y.hi)/\W.cell? ⟨b,o+i*3+2,none⟩=some (.int .i64 y.val):=by
   intro i R;obtain⟨s,f,j⟩:=I i (by omega);obtain⟨y,t⟩:=OO j;rw[Bz]at f;obtain⟨_,_,d⟩:=World.cells?_some f;rw[t]at d;have z:=d 0 (by omega);have B:=d 1 (by omega);have C:=d 2 (by omega);simp only[List.getElem?_cons_zero,List.getElem?_cons_succ]at z B C;simp only[Addr.add_mid,Nat.add_zero]at z B C;exact⟨y,z,B,C⟩
  obtain⟨l,k,E⟩:=Dv len w;refine⟨_,_,_,l,g,⟨by rw[k],by rw[k];exact N,G⟩,λi x F=>?_⟩;have S:=E i x F;exact⟨b,o,rfl,S⟩
theorem Fa{fuel:Nat}{N:List Value}{x:DataW H×List MemPlace}(h:DataW.trod enc prog W base spare held fuel 24 N=some x):∃A n c l,N=[.slice A n c]/\dh W ⟨A,n,c⟩ l:=by
 rcases open_slice underlying24 h with⟨g,O⟩|⟨a,len,P,m,n,D,Y,g,Z,Q,K,z,O,L⟩
 .exact⟨none,0,0,[],g,dh.nil_ _⟩
 .have R:len<=m:=by rw[z];split<;>omega
  obtain⟨b,o,S⟩:=a;by_cases B:len=0
  .subst B;exact⟨_,_,_,[],g,⟨rfl,by simp,K⟩,λi x h=>by simp at h⟩
  have C:S=none:=by
   obtain⟨E,f,j⟩:=L 0 (by omega);obtain⟨y,k,p,q,F,r⟩:=Qe j;rw[Jh]at f;obtain⟨_,_,d⟩:=World.cells?_some f;rw[F]at d;have M:=d 0 (by omega);simp only[List.getElem?_cons_zero]at M;have T:=World.cell?_spot M;simpa[Addr.add]using T
  subst C;have G:∀i,i<len->∃y:Mp,∃k p q,W.cell? ⟨b,o+i*2,none⟩=some (.int .i64 y.lo)/\W.cell? ⟨b,o+i*2+1,none⟩=some (.slice k p q)/\aC W ⟨k,p,q⟩ y.to:=by
   intro i U;obtain⟨E,f,j⟩:=L i (by omega);obtain⟨y,k,p,q,F,r⟩:=Qe j;rw[Jh]at f;obtain⟨_,_,d⟩:=World.cells?_some f;rw[F]at d;have s:=d 0 (by omega);have t:=d 1 (by omega);simp only[List.getElem?_cons_zero,List.getElem?_cons_succ]at s t;simp only[Addr.add_mid,Nat.add_zero]at s t;exact⟨y,k,p,q,s,t,r⟩
  obtain⟨l,w,I⟩:=Dv len G;refine⟨_,_,_,l,g,⟨by rw[w],by rw[w];exact Q,K⟩,λi x J=>?_⟩;have V:=I i x J;obtain⟨k,p,q,s,t,X⟩:=V;exact⟨b,o,k,p,q,rfl,s,t,X⟩
theorem Wx{v:Value}{d:DataW H}{p:List MemPlace}{r:Reach}{s:Nat}
 (hv:Value.okWide prog W r s 26 v) (hg:Glob W) (h:DataW.Trod enc prog W 0 spare held 26 v d p):∃(t:TV)(T:ak),v=t.v/\aS W t T:=by
 obtain⟨a,n,I,J,K,L,M,N,O,P,Q,R,j,k,S⟩:∃a,prog.underlying 26=some (.struct a)/\a[0]?.map (λf=>(f.type,f.offset))=some (23,0)/\a[1]?.map (λf=>(f.type,f.offset))=some (23,1)/\a[2]?.map (λf=>(f.type,f.offset))=some (23,2)/\a[3]?.map (λf=>(f.type,f.offset))=some (23,3)/\a[4]?.map (λf=>(f.type,f.offset))=some (23,4)/\a[5]?.map (λf=>(f.type,f.offset))=some (23,5)/\a[6]?.map (λf=>(f.type,f.offset))=some (23,6)/\a[7]?.map (λf=>(f.type,f.offset))=some (24,7)/\a[8]?.map (λf=>(f.type,f.offset))=some (24,8)/\a[9]?.map (λf=>(f.type,f.offset))=some (24,9)/\a[10]?.map (λf=>(f.type,f.offset))=some (22,10)/\a[11]?.map (λf=>(f.type,f.offset))=some (24,11)/\a.size=12:=⟨_,underlying26,rfl,rfl,rfl,rfl,rfl,rfl,rfl,rfl,rfl,rfl,rfl,rfl,rfl⟩;unfold Value.okWide at hv;rw[n]at hv;obtain⟨U,rfl,V,_⟩:=hv;obtain⟨b2,X⟩:=h;obtain⟨xs,c,_,hx,w,o,b⟩:=DataW.trod_struct n X;rw[Yx]at w;rw[S]at o;obtain⟨f0,q0,I⟩:=Option.map_eq_some_iff.1 I;obtain⟨t0,o0⟩:=Prod.mk.inj I;have x:=b 0 f0 q0;rw[t0,o0,Bh]at x;obtain⟨f1,q1,J⟩:=Option.map_eq_some_iff.1 J;obtain⟨t1,o1⟩:=Prod.mk.inj J;have y:=b 1 f1 q1;rw[t1,o1,Bh]at y;obtain⟨f2,q2,K⟩:=Option.map_eq_some_iff.1 K;obtain⟨t2,o2⟩:=Prod.mk.inj K;have z:=b 2 f2 q2;rw[t2,o2,Bh]at z;obtain⟨f3,q3,L⟩:=Option.map_eq_some_iff.1 L;obtain⟨t3,o3⟩:=Prod.mk.inj L;have A:=b 3 f3 q3;rw[t3,o3,Bh]at A;obtain⟨f4,q4,M⟩:=Option.map_eq_some_iff.1 M;obtain⟨t4,o4⟩:=Prod.mk.inj M;have B:=b 4 f4 q4;rw[t4,o4,Bh]at B;obtain⟨f5,q5,N⟩:=Option.map_eq_some_iff.1 N;obtain⟨t5,o5⟩:=Prod.mk.inj N;have C:=b 5 f5 q5;rw[t5,o5,Bh]at C;obtain⟨f6,q6,O⟩:=Option.map_eq_some_iff.1 O;obtain⟨t6,o6⟩:=Prod.mk.inj O;have D:=b 6 f6 q6;rw[t6,o6,Bh]at D;obtain⟨f7,q7,P⟩:=Option.map_eq_some_iff.1 P;obtain⟨t7,o7⟩:=Prod.mk.inj P;have E:=b 7 f7 q7;rw[t7,o7,F8]at E;obtain⟨f8,q8,Q⟩:=Option.map_eq_some_iff.1 Q;obtain⟨t8,o8⟩:=Prod.mk.inj Q;have F:=b 8 f8 q8;rw[t8,o8,F8]at F;obtain⟨f9,q9,R⟩:=Option.map_eq_some_iff.1 R;obtain⟨t9,o9⟩:=Prod.mk.inj R;have G:=b 9 f9 q9;rw[t9,o9,F8]at G;obtain⟨Y,Z,j⟩:=Option.map_eq_some_iff.1 j;obtain⟨aa,ab⟩:=Prod.mk.inj j;have g:=b 10 Y Z;rw[aa,ab,FV]at g;obtain⟨ac,ad,k⟩:=Option.map_eq_some_iff.1 k;obtain⟨ae,af⟩:=Prod.mk.inj k;have i:=b 11 ac ad;rw[ae,af,F8]at i;clear b;obtain⟨q⟩:=U;replace w:q.length=12:=w
 match q,w with
 |[c0,c1,c2,c3,c4,c5,c6,c7,c8,c9,c10,c11],_=>
  match xs,o with
  |[y0,y1,y2,y3,y4,y5,y6,y7,y8,y9,y10,y11],_=>
   replace x:DataW.trod enc prog W 0 spare held c 23 [c0]=some y0:=x;obtain⟨a0,n0,z0,l0,e0,g0⟩:=Bl x;injection e0 with e0 _;subst e0;replace y:DataW.trod enc prog W 0 spare held c 23 [c1]=some y1:=y;obtain⟨a1,n1,z1,l1,e1,g1⟩:=Bl y;injection e1 with e1 _;subst e1;replace z:DataW.trod enc prog W 0 spare held c 23 [c2]=some y2:=z;obtain⟨a2,n2,z2,l2,e2,g2⟩:=Bl z;injection e2 with e2 _;subst e2;replace A:DataW.trod enc prog W 0 spare held c 23 [c3]=some y3:=A;obtain⟨a3,n3,z3,l3,e3,g3⟩:=Bl A;injection e3 with e3 _;subst e3;replace B:DataW.trod enc prog W 0 spare held c 23 [c4]=some y4:=B;obtain⟨a4,n4,z4,l4,e4,g4⟩:=Bl B;injection e4 with e4 _;subst e4;replace C:DataW.trod enc prog W 0 spare held c 23 [c5]=some y5:=C;obtain⟨a5,n5,z5,l5,e5,g5⟩:=Bl C;injection e5 with e5 _;subst e5;replace D:DataW.trod enc prog W 0 spare held c 23 [c6]=some y6:=D;obtain⟨a6,n6,z6,l6,e6,g6⟩:=Bl D;injection e6 with e6 _;subst e6;replace E:DataW.trod enc prog W 0 spare held c 24 [c7]=some y7:=E;obtain⟨a7,n7,z7,l7,e7,g7⟩:=Fa E;injection e7 with e7 _;subst e7;replace F:DataW.trod enc prog W 0 spare held c 24 [c8]=some y8:=F;obtain⟨a8,n8,z8,l8,e8,g8⟩:=Fa F;injection e8 with e8 _;subst e8;replace G:DataW.trod enc prog W 0 spare held c 24 [c9]=some y9:=G;obtain⟨a9,n9,z9,l9,e9,g9⟩:=Fa G;injection e9 with e9 _;subst e9;replace g:DataW.trod enc prog W 0 spare held c 22 [c10]=some y10:=g;obtain⟨aw,ax,az,aD,l,aE⟩:=FW g;injection l with l _;subst l;replace i:DataW.trod enc prog W 0 spare held c 24 [c11]=some y11:=i;obtain⟨aL,aM,aR,aW,m,b0⟩:=Fa i;injection m with m _;subst m;exact⟨⟨⟨a0,n0,z0⟩,⟨a1,n1,z1⟩,⟨a2,n2,z2⟩,⟨a3,n3,z3⟩,⟨a4,n4,z4⟩,⟨a5,n5,z5⟩,⟨a6,n6,z6⟩,⟨a7,n7,z7⟩,⟨a8,n8,z8⟩,⟨a9,n9,z9⟩,⟨aw,ax,az⟩,⟨aL,aM,aR⟩⟩,⟨l0,l1,l2,l3,l4,l5,l6,l7,l8,l9,aD,aW⟩,rfl,⟨g0,g1,g2,g3,g4,g5,g6,g7,g8,g9,aE,b0,hg⟩⟩
end
theorem MX:prog.cellsOf 9=1:=by kernel_rfl
section
variable {H:Type}{enc:TypeId × Value→H}{W:World}{base:Nat}{spare:Nat→Bool}{held:Bool}
theorem VK{fuel:Nat}{K:List Value}{x:DataW H×List MemPlace}(h:DataW.trod enc prog W base spare held fuel 29 K=some x):∃A n c l,K=[.slice A n c]/\lq W ⟨A,n,c⟩ l/\∀s∈l,IsB s:=by
 rcases open_slice underlying29 h with⟨f,L⟩|⟨a,len,M,m,n,D,R,f,S,N,G,t,L,O⟩
 .exact⟨none,0,0,[],f,⟨⟨rfl,lr' _,zl' _⟩,λi x h=>by simp at h⟩,λs d=>by simp at d⟩
 .have P:len<=m:=by rw[t];split<;>omega
  obtain⟨b,o,I⟩:=a;by_cases w:len=0
  .subst w;exact⟨_,_,_,[],f,⟨⟨rfl,by simp,G⟩,λi x h=>by simp at h⟩,λs d=>by simp at d⟩
  have g:∀i,i<len->∃s:ByteArray,W.cell? (((⟨b,o,I⟩:Addr).add (i*1)).add 0)=some (.string s):=by
   intro i j;obtain⟨Q,k,z⟩:=O i (by omega);obtain⟨s,d,_⟩:=DataW.trod_string underlying9 z;rw[MX]at k;obtain⟨_,_,p⟩:=World.cells?_some k;rw[d]at p;have J:=p 0 (by omega);simp only[List.getElem?_cons_zero]at J;exact⟨s,J⟩
  have B:I=none:=by
   obtain⟨s,d⟩:=g 0 (by omega);simpa[Addr.add]using World.cell?_spot d
  subst B;have C:∀i,i<len->∃y:List Int,W.cell? ⟨b,o+i,none⟩=some (.string (sB y))/\IsB y:=by
   intro i j;obtain⟨s,d⟩:=g i j;simp only[Addr.add_mid,Nat.add_zero,Nat.mul_one]at d;exact⟨nums s,by rw[FU];exact d,FQ s⟩
  obtain⟨l,q,r⟩:=Dv len C
  exact⟨_,_,_,l,f,⟨⟨by rw[q],by rw[q];exact N,G⟩,λi x E=>⟨b,o,rfl,(r i x E).1⟩⟩,λs d=>by
   obtain⟨i,F,rfl⟩:=List.getElem_of_mem d
   exact(r i _ (List.getElem?_eq_getElem F)).2⟩
end
theorem b3H:prog.bytesOf 9=16:=by kernel_rfl
section
variable {H:Type}{enc:TypeId × Value→H}{W:World}{spare:Nat→Bool}{held:Bool}
theorem b3G{A:Option Addr}{n c:Nat}{d:DataW H}{p:List MemPlace}(h:DataW.Trod enc prog W 0 spare held 29 (.slice A n c) d p):n=0\/∃es sp:List (DataW H),d=.slice es sp/\es.length=n:=by
 obtain⟨f,i⟩:=h;rcases open_slice underlying29 i with⟨b,g⟩|⟨a,len,j,m,l,D,o,b,q,r,s,k,g,t⟩
 .simp[Value.cells]at b;exact .inl b.2.1
 .simp[Value.cells]at b;obtain⟨rfl,rfl,rfl⟩:=b;exact .inr ⟨_,_,congrArg Prod.fst g,by simp⟩
end
end Go.Proofs.YtljilcbobhmkgaaGreatDoor
