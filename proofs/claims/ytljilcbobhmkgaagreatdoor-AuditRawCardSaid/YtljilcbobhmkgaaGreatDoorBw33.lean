/- Part Bw33. -/
import Derived.Test.YtljilcbobhmkgaaGreatDoorBw32
open Go.Proofs.Tryz
namespace Go.Proofs.YtljilcbobhmkgaaGreatDoor
set_option maxHeartbeats 25600000
set_option maxRecDepth 100000
open Go.RowKit
variable (t:TV)(T:ak)(c:Int)(w:World)
def RcS(w:World)(s:SV)(l:List Rc):Prop:=wG s l.length/\∀i x,l[i]? =some x->∃b o,s.a=some ⟨b,o,none⟩/\w.cell? ⟨b,o+i*4,none⟩=some (.int .i64 x.1)/\w.cell? ⟨b,o+i*4+1,none⟩=some (.int .i64 x.2.1)/\w.cell? ⟨b,o+i*4+2,none⟩=some (.string (sB x.2.2.1))/\w.cell? ⟨b,o+i*4+3,none⟩=some (.int .i64 x.2.2.2)
theorem RcS.ext{w w':World}{s:SV}{l:List Rc}(h:RcS w s l)(a:Ext w w'):RcS w' s l:=
 ⟨h.1,λi x c=>by obtain⟨b,o,d,f,g,j,k⟩:=h.2 i x c;exact⟨b,o,d,aY (bg a) f,aY (bg a) g,aY (bg a) j,aY (bg a) k⟩⟩
theorem RcS.at_{w:World}{A:Option Addr}{n c:Nat}{l:List Rc}(h:RcS w ⟨A,n,c⟩ l){i:Nat}(a:i<l.length):∃b o,A=some ⟨b,o,none⟩/\w.cell? ⟨b,o+i*4,none⟩=some (.int .i64 l[i].1)/\w.cell? ⟨b,o+i*4+1,none⟩=some (.int .i64 l[i].2.1)/\w.cell? ⟨b,o+i*4+2,none⟩=some (.string (sB l[i].2.2.1))/\w.cell? ⟨b,o+i*4+3,none⟩=some (.int .i64 l[i].2.2.2):=h.2 i _ (List.getElem?_eq_getElem a)
structure Sn where
 now:Int
 cnt:Int
 K:SV
 R:SV
 L:SV
 O:SV
 P:SV
structure SnD where
 keys:List (List Int)
 recs:List Rc
 locks:List (List Int)
 owns:List Int
 phs:List Int
abbrev snC(s:Sn):Array Value:= #[.int .i64 s.now,.int .i64 s.cnt,.slice s.K.a s.K.n s.K.c,.slice s.R.a s.R.n s.R.c,.slice s.L.a s.L.n s.L.c,.slice s.O.a s.O.n s.O.c,.slice s.P.a s.P.n s.P.c]
abbrev snV(s:Sn):Value:=.agg (snC s)
structure SnS(w:World)(s:Sn)(d:SnD):Prop where
 k:lq w s.K d.keys
 r:RcS w s.R d.recs
 l:lq w s.L d.locks
 o:aC w s.O d.owns
 p:aC w s.P d.phs
 kb:∀x∈d.keys,IsB x
 lb:∀x∈d.locks,IsB x
 rb:∀x∈d.recs,IsB x.2.2.1
theorem SnS.ext{w w':World}{s:Sn}{d:SnD}(h:SnS w s d)(a:Ext w w'):SnS w' s d:=⟨h.k.ext a,h.r.ext a,h.l.ext a,h.o.ext a,h.p.ext a,h.kb,h.lb,h.rb⟩
def uo(a:Int)(phs:List Int)(o:Int):Bool:=(decide (0<=o)&&decide (o<=a-1))&&(decide (2<=phs.getD o.toNat 0)&&decide (phs.getD o.toNat 0<=6))
def ownB(a:Int)(phs owns:List Int):Bool:=owns.all (uo a phs)
theorem VO{α:Type}{p:α->Bool}{L:List α}{k:Nat}(a:k<L.length):(L.drop k).all p=(p L[k]&&(L.drop (k+1)).all p):=by
 rw[drop_at L k a,List.all_cons]
theorem b2b(a b:Int)(s:Sn)(d:SnD)(w:World)(N:SnS w s d)(U:1<=a/\a<=64)(V:(d.phs.length:Int)=a):cE' 26 #[cfV a b,snV s] w (.bool (ownB a d.phs d.owns)):=by
 obtain⟨n,c⟩:=eX' ((w.alloc (.cells #[.int .i64 a,.int .i64 b] 28)).alloc (.cells (snC s) 32));have r:Ext w n:=by rw[c];exact(eR'.ay _).ay _
 have f:=ah r;have D:Hid (∀w',Ext n w'->∀k:Nat,w'.cell? ⟨w.heap.size,k,none⟩=(#[.int .i64 a,.int .i64 b]:Array Value)[k]?):=ah (λw' h=>aP ((eR'.ay _).trans' (by rw[c]at h;exact h)));have t:Hid (∀w',Ext n w'->∀k:Nat,w'.cell? ⟨w.heap.size+1,k,none⟩=(snC s)[k]?):=ah (λw' h k=>cell_of_row w' _ k (snC s) 32 (0,0) (qJ (by rw[c]at h;exact h)));have C:=ah N.o;have l:=ah N.p;have O:Hid (ownB a d.phs d.owns=d.owns.all (uo a d.phs)):=rfl;have W:=ah U;have x:=ah V;obtain⟨P,Q,E,owns,phs⟩:=d;obtain⟨X,Y,K,R,L,⟨oa,Z,oc⟩,⟨pa,pn,pc⟩⟩:=s;simp only[]at C l O x t;have F:Z=owns.length:=C.out.len.1;have G:pn=phs.length:=l.out.len.1;subst F G;have a1:owns.length<=9223372036854775807:=by obtain⟨h1,h2,h3⟩:=C.out.len;(try simp only[maxLen]at h3);omega
 generalize ownB a phs owns=RS at*;obtain⟨a3,a4⟩:=U;clear N r V;go_enter func26,ntmps26;go_wp2_with fail;rw[<- c];clear c;go_loopg[10] owns.length (λgh H wx=>∃k:Nat,k+gh=owns.length/\H=.int .i64 k/\Hid ((owns.drop k).all (uo a phs)=RS)/\Hid (Ext n wx));exact⟨0,by omega,rfl,ah O.out.symm,ah eR'⟩;obtain⟨k,hk,rfl,I,j⟩:=hrel;have rC:=D.out _ j.out;have rS:=t.out _ j.out;by_cases y:k<owns.length
 .obtain⟨g2,rfl⟩:=gS' gk;obtain⟨bo,oo,rfl,a9⟩:=(C.out.ext (f.out.trans' j.out)).at_ y;have hI:=I.out;rw[VO y]at hI;have i:=ah hI;generalize owns[k]=ow at*;have aa:=z0' k;have ab:(k:Int)<(owns.length:Int):=by omega
  clear I hI;by_cases J:0<=ow/\ow<a
  case neg=>
   have z:Hid ((decide ((0:Int)<=ow)&&decide (ow<=a-1))=false):=ah (by rw[aF',aA,aA];omega);have A:Hid (RS=false):=ah (by rw[<- i.out,uo,z.out];rfl);have B:=f.out.trans' j.out;clear J i;go_wp2_with fail;refine(zQ ow 0 (a-1) wr).mono ?_;rintro e w4⟨rfl,rfl⟩;rw[z.out];go_wp2;go_ret;exact⟨by rw[A.out];rfl,B⟩
  have z:Hid ((decide ((0:Int)<=ow)&&decide (ow<=a-1))=true):=ah (by rw[dt' J.1,dt' (by omega)];rfl);obtain⟨q,rfl⟩:=iN' ow;have S:q<phs.length:=by have:=x.out;omega
  obtain⟨bp,op,rfl,ad⟩:=(l.out.ext (f.out.trans' j.out)).at_ S;have T:phs.getD ((q:Int)).toNat 0=phs[q]:=by simp[List.getD_eq_getElem?_getD,S]
  have g:Hid (((decide (2<=phs[q])&&decide (phs[q]<=6))&&(owns.drop (k+1)).all (uo a phs))=RS):=ah (by rw[<- i.out,uo,z.out,T];simp);have ae:(q:Int)<(phs.length:Int):=by omega
  clear T i;generalize phs[q]=ph at*;obtain⟨M,m⟩:=eY' (decide (2<=ph)&&decide (ph<=6));have gK:=ah m;rw[m]at g;clear m J;go_wp2_with fail;refine(zQ q 0 (a-1) wr).mono ?_;rintro e w4⟨rfl,rfl⟩;rw[z.out];go_wp2_with fail;refine(zQ ph 2 6 wr).mono ?_;rintro e w5⟨rfl,rfl⟩;rw[gK.out];cases M with
  |true=>
   have HN:Hid ((owns.drop (k+1)).all (uo a phs)=RS):=ah (by rw[<- g.out];simp);clear g;go_wp2;go_roundg g2;exact⟨k+1,by omega,by go_num,HN,j⟩;omega
  |false=>
   have A:Hid (RS=false):=ah (by rw[<- g.out];rfl);have B:=f.out.trans' j.out;clear g;go_wp2;go_ret;exact⟨by rw[A.out];rfl,B⟩
 .have A:Hid (RS=true):=ah (by rw[<- I.out,List.drop_of_length_le (by omega)];rfl);have B:=f.out.trans' j.out;go_wp2;go_ret;exact⟨by rw[A.out];rfl,B⟩
noncomputable def gnG(T:ak)(a:Int):List (List Int)->List Rc->Bool
 |k::ks,r::rs=>(kR T k r&& !decide (a<=r.2.1))&&gnG T a ks rs
 |_,_=>true
theorem b2d(t:TV)(a b:Int)(s:Sn)(d:SnD)(w:World)(ht:aS w t T)(hs:SnS w s d)(hl:d.keys.length=d.recs.length):cE' 25 #[t.v,cfV a b,snV s] w (.bool (gnG T a d.keys d.recs)):=by
 obtain⟨p,g⟩:=eX' (((tW' w t).alloc (.cells #[.int .i64 a,.int .i64 b] 28)).alloc (.cells (snC s) 32));have j:Ext w p:=by rw[g];exact((eR'.ay _).ay _).ay _
 have q:=ah j;have HT:=ah (ht.aB j);have fV:Hid (∀w',Ext p w'->∀k:Nat,w'.cell? ⟨w.heap.size,k,none⟩=t.v.cells[k]?):=ah (λw' h=>aP (((eR'.ay _).ay _).trans' (by rw[g]at h;exact h)));have M:Hid (∀w',Ext p w'->∀k:Nat,w'.cell? ⟨w.heap.size+1,k,none⟩=(#[.int .i64 a,.int .i64 b]:Array Value)[k]?):=ah (λw' h k=>cell_of_row w' _ k _ 28 (0,0) (qJ ((eR'.ay _).trans' (by rw[g]at h;exact h))))
 have D:Hid (∀w',Ext p w'->∀k:Nat,w'.cell? ⟨w.heap.size+2,k,none⟩=(snC s)[k]?):=ah (λw' h k=>by
  have I:=qJ (w:=(tW' w t)) (by rw[g]at h;exact h);simp only[World.size_alloc]at I
  exact cell_of_row w' _ k (snC s) 32 (0,0) I)
 have x:=ah (hs.ext j);have E:=ah hl;have HD:Hid (gnG T a d.keys d.recs=gnG T a (d.keys.drop 0) (d.recs.drop 0)):=rfl;generalize gnG T a d.keys d.recs=RS at*;obtain⟨keys,recs,N,a4,am⟩:=d;obtain⟨Q,R,⟨ka,kn,kc⟩,⟨ra,rn,rc⟩,L,O,P⟩:=s;simp only[]at E HD D;have S:kn=keys.length:=x.out.k.1.1;have U:rn=recs.length:=x.out.r.1.1;subst S U;have ar:recs.length<=9223372036854775807:=by obtain⟨h1,I,h3⟩:=x.out.r.1;simp only[]at h1 I h3;(try simp only[maxLen]at h3);omega
 clear hs j hl ht;go_enter func25,ntmps25;go_wp2_with fail;rw[<- g];clear g;go_loopg[12] recs.length (λgh V wx=>∃k:Nat,k+gh=recs.length/\V=.int .i64 k/\Hid (gnG T a (keys.drop k) (recs.drop k)=RS)/\Hid (Ext p wx));exact⟨0,by omega,rfl,ah HD.out.symm,ah eR'⟩;obtain⟨k,hk,rfl,W,J⟩:=hrel;by_cases l:k<recs.length
 .obtain⟨g2,rfl⟩:=gS' gk;have y:k<keys.length:=by rw[E.out];exact l
  obtain⟨br,or,rfl,n0,n1,n2,n3⟩:=RcS.at_ (x.out.r.ext J.out) l;obtain⟨bk,ok,rfl,F⟩:=(x.out.k.ext J.out).at_ y;have hI:=W.out;rw[drop_at keys k y,drop_at recs k l,gnG]at hI;have f:=ah hI;have X:=ah (x.out.kb _ (gM' y));have Y:=ah (x.out.rb _ (gM' l));generalize keys[k]=key at*;generalize recs[k]=r at*;have b0:=z0' k;have b1:(k:Int)<(recs.length:Int):=by omega
  have b2:(k:Int)<(keys.length:Int):=by omega
  obtain⟨i,m⟩:=eX' (wr.alloc (.cells #[.int .i64 r.1,.int .i64 r.2.1,.string (sB r.2.2.1),.int .i64 r.2.2.2] 43));have A:Ext wr i:=by rw[m];exact eR'.ay _
  have C:=ah (J.out.trans' A);have Z:Hid (∀w',Ext i w'->∀k:Nat,w'.cell? ⟨wr.heap.size,k,none⟩=(rcC r)[k]?):=ah (λw' h k=>ED _ _ (by rw[m]at h;exact h) k);have a0:=ah (aY (bg A) F);obtain⟨K,B⟩:=eY' (kR T key r);have o:Hid (∀w',Ext i w'->cE' 15 #[t.v,.string (sB key),rcV r] w' (.bool K)):=ah (λw' h=>by rw[<- B];exact Hw T t key r w' (HT.out.aB (C.out.trans' h)) X.out Y.out);rw[B]at f;clear hI W B F A;go_wp2_with fail;rw[<- m];clear m n0 n1 n2 n3;have rT:∀z:aj i,∀k:Nat,z.w.cell? ⟨w.heap.size,k,none⟩=t.v.cells[k]? :=λz=>fV.out _ (C.out.trans' z.h)
  have rC:∀z:aj i,∀k:Nat,z.w.cell? ⟨w.heap.size+1,k,none⟩=(#[.int .i64 a,.int .i64 b]:Array Value)[k]? :=λz=>M.out _ (C.out.trans' z.h)
  have rS:∀z:aj i,∀k:Nat,z.w.cell? ⟨w.heap.size+2,k,none⟩=(#[.int .i64 Q,.int .i64 R,.slice (some ⟨bk,ok,none⟩) keys.length kc,.slice (some ⟨br,or,none⟩) recs.length rc,.slice L.a L.n L.c,.slice O.a O.n O.c,.slice P.a P.n P.c]:Array Value)[k]? :=λz=>D.out _ (C.out.trans' z.h)
  have r5:∀z:aj i,∀k:Nat,z.w.cell? ⟨wr.heap.size,k,none⟩=(#[.int .i64 r.1,.int .i64 r.2.1,.string (sB r.2.2.1),.int .i64 r.2.2.2]:Array Value)[k]? :=λz=>Z.out _ z.h
  have cK:∀z:aj i,z.w.cell? ⟨bk,ok+k,none⟩=some (.string (sB key)):=bY a0.out;cases K with
  |false=>
   have G:Hid (RS=false):=ah (by rw[<- f.out];rfl);clear f;refine rX' ?_
   repeat(go_big_quiet_step(first|(go_at_call 15;with_reducible exact aQ (o.out _ (aj.h _)))))
   refine wpQuiet_nil ?_;rintro _⟨z,rfl⟩;have H:=q.out.trans' (C.out.trans' z.h);generalize z.w=w6 at*;clear rT rC rS r5 cK z o;go_wp2;go_ret;exact⟨by rw[G.out];rfl,H⟩
  |true=>
   obtain⟨bo,dW⟩:=eY' (decide (a<=r.2.1));have b3:=ah dW;rw[dW]at f;refine rX' ?_
   repeat(go_big_quiet_step(first|(go_at_call 15;with_reducible exact aQ (o.out _ (aj.h _)))))
   refine wpQuiet_nil ?_;rintro _⟨z,rfl⟩;have eY:=ah (C.out.trans' z.h);generalize z.w=w6 at*;clear rT rC rS r5 cK z o;cases bo with
   |true=>
    have G:Hid (RS=false):=ah (by rw[<- f.out];rfl);have H:=q.out.trans' eY.out;clear f;go_wp2;go_ret;exact⟨by rw[G.out];rfl,H⟩
   |false=>
    have HN:Hid (gnG T a (keys.drop (k+1)) (recs.drop (k+1))=RS):=ah (by rw[<- f.out];simp);clear f;go_wp2;go_roundg g2;exact⟨k+1,by omega,by go_num,HN,eY⟩;omega
 .have G:Hid (RS=true):=ah (by
   rw[<- W.out,List.drop_of_length_le (show recs.length<=k by omega)]
   cases keys.drop k<;>rfl)
  have H:=q.out.trans' J.out;go_wp2;go_ret;exact⟨by rw[G.out];rfl,H⟩
def phP(p:Int):Bool:= !(decide (0<=p)&&decide (p<=7))
def shB(a b:Int)(d:SnD):Bool:=decide (cfE a b=0)&&(decide (d.keys.length=d.recs.length)&&(decide (d.locks.length=d.owns.length)&&(decide ((d.phs.length:Int)=a)&& !d.phs.any phP)))
noncomputable def rO(T:ak)(a b:Int)(s:Sn)(d:SnD):Int:=
 if shB a b d=false then 1 else if(asN d.keys&&asN d.locks)=false then 2
 else if((decide (0<=s.now)&&decide (s.now<=1073741824))&&(decide (0<=s.cnt)&&decide (s.cnt<=b)))=false then 3 else if gnG T a d.keys d.recs=false then 4 else if ownB a d.phs d.owns=false then 5
 else if(!(d.phs.any λy=>decide (5=y))&& !decide (s.cnt=d.keys.length))=true then 6 else 0
theorem b2X:cE' 56 (#[.int .i64 c]++ #[]) w (.bool (phP c)):=by
 have a:Hid (phP c= !(decide (0<=c)&&decide (c<=7))):=rfl;go_enter func56,ntmps56;go_wp2_with fail;refine(zQ c 0 7 w).mono ?_;rintro e d⟨rfl,rfl⟩;generalize(decide (0<=c)&&decide (c<=7))=b at*;cases b
 all_goals
  go_wp2;go_ret;exact⟨by rw[a.out];rfl,eR'⟩
theorem b2Z(a b:Int)(s:Sn)(d:SnD)(w:World)(V:SnS w s d):cE' 22 #[cfV a b,snV s] w (.bool (shB a b d)):=by
 obtain⟨z,m⟩:=eX' ((w.alloc (.cells #[.int .i64 a,.int .i64 b] 28)).alloc (.cells (snC s) 32));have A:Ext w z:=by rw[m];exact(eR'.ay _).ay _
 have L:=ah A;have M:Hid (∀w',Ext z w'->∀k:Nat,w'.cell? ⟨w.heap.size,k,none⟩=(#[.int .i64 a,.int .i64 b]:Array Value)[k]?):=ah (λw' h=>aP ((eR'.ay _).trans' (by rw[m]at h;exact h)));have H:Hid (∀w',Ext z w'->∀k:Nat,w'.cell? ⟨w.heap.size+1,k,none⟩=(snC s)[k]?):=ah (λw' h k=>cell_of_row w' _ k (snC s) 32 (0,0) (qJ (by rw[m]at h;exact h)));have C:=ah (V.ext A);have I:Hid (shB a b d=(decide (cfE a b=0)&&(decide (d.keys.length=d.recs.length)&&(decide (d.locks.length=d.owns.length)&&(decide ((d.phs.length:Int)=a)&& !d.phs.any phP))))):=rfl;generalize shB a b d=RS at*;obtain⟨i,j,c,g,f⟩:=d;obtain⟨W,X,⟨ka,Y,kc⟩,⟨ra,Z,rc⟩,⟨la,ln,lc⟩,⟨oa,on,oc⟩,⟨pa,pn,pc⟩⟩:=s;simp only[]at I H;have N:Y=i.length:=C.out.k.1.1;have O:Z=j.length:=C.out.r.1.1;have P:ln=c.length:=C.out.l.1.1;have Q:on=g.length:=C.out.o.len.1;have R:pn=f.length:=C.out.p.len.1;subst N O P Q R;have HP:=ah (λw'(h:Ext z w')=>EG 56 #[] phP f pa f.length pc w' (C.out.p.ext h) Tryz.call56 (λx _ S _=>b2X x S));have J:=ah (λw'=>b2B a b w');generalize cfE a b=ce at*;clear V A;go_enter func22,ntmps22;go_wp2_with fail;rw[<- m];refine(J.out z).mono ?_;rintro e w1⟨v,rfl,y⟩;have gW:=ah y;have rC:=M.out _ y;have rS:=H.out _ y;have K:=L.out.trans' y;clear y m J;by_cases D:ce=0
 case neg=>
  have e0:(ce != 0)=true:=bN' D;have B:Hid (RS=false):=ah (by rw[I.out,df' D];rfl);clear D I;go_wp2;go_ret;exact⟨by rw[B.out];rfl,K⟩
 have e0:(ce != 0)=false:=bZ' D;have n:Hid (RS=(decide (i.length=j.length)&&(decide (c.length=g.length)&&(decide ((f.length:Int)=a)&& !f.any phP)))):=ah (by rw[I.out,dt' D];rfl);clear D I;by_cases E:i.length=j.length
 case neg=>
  have e1:(i.length==j.length)=false:=by rw[aH];exact E
  have e2:((i.length:Int)==(j.length:Int))=false:=bF';have B:Hid (RS=false):=ah (by rw[n.out,df' E];rfl);clear E n;go_wp2;go_ret;exact⟨by rw[B.out];rfl,K⟩
 have e1:(i.length==j.length)=true:=by rw[bq'];exact E
 have e2:((i.length:Int)==(j.length:Int))=true:=by rw[bq'];omega
 have q:Hid (RS=(decide (c.length=g.length)&&(decide ((f.length:Int)=a)&& !f.any phP))):=ah (by rw[n.out,dt' E];rfl);clear E n;by_cases F:c.length=g.length
 case neg=>
  have e3:(c.length==g.length)=false:=by rw[aH];exact F
  have e4:((c.length:Int)==(g.length:Int))=false:=bF';have B:Hid (RS=false):=ah (by rw[q.out,df' F];rfl);clear F q;go_wp2;go_ret;exact⟨by rw[B.out];rfl,K⟩
 have e3:(c.length==g.length)=true:=by rw[bq'];exact F
 have e4:((c.length:Int)==(g.length:Int))=true:=by rw[bq'];omega
 have t:Hid (RS=(decide ((f.length:Int)=a)&& !f.any phP)):=ah (by rw[q.out,dt' F];rfl);clear F q;by_cases G:(f.length:Int)=a
 case neg=>
  have e5:((f.length:Int)==a)=false:=by rw[aH];exact G
  have B:Hid (RS=false):=ah (by rw[t.out,df' G];rfl);clear G t;go_wp2;go_ret;exact⟨by rw[B.out];rfl,K⟩
 have e5:((f.length:Int)==a)=true:=by rw[bq'];exact G
 have T:Hid (RS= !f.any phP):=ah (by rw[t.out,dt' G];rfl);clear G t;go_wp2_with fail;refine(HP.out _ gW.out).mono ?_;rintro e w2⟨rfl,y⟩;have U:=K.trans' y;clear y rC rS;generalize f.any phP=bb at*;cases bb
 all_goals
  go_wp2;go_ret;exact⟨by rw[T.out];rfl,U⟩
theorem MZ(t:TV)(a b:Int)(s:Sn)(d:SnD)(w:World)(ht:aS w t T)(hs:SnS w s d):cE' 8 #[t.v,cfV a b,snV s] w (.int .i64 (rO T a b s d)):=by
 obtain⟨A,r⟩:=eX' (((tW' w t).alloc (.cells #[.int .i64 a,.int .i64 b] 28)).alloc (.cells (snC s) 32));have C:Ext w A:=by rw[r];exact((eR'.ay _).ay _).ay _
 have m:=ah C;have HT:=ah (ht.aB C);have fV:Hid (∀w',Ext A w'->∀k:Nat,w'.cell? ⟨w.heap.size,k,none⟩=t.v.cells[k]?):=ah (λw' h=>aP (((eR'.ay _).ay _).trans' (by rw[r]at h;exact h)));have J:Hid (∀w',Ext A w'->∀k:Nat,w'.cell? ⟨w.heap.size+1,k,none⟩=(#[.int .i64 a,.int .i64 b]:Array Value)[k]?):=ah (λw' h k=>cell_of_row w' _ k _ 28 (0,0) (qJ ((eR'.ay _).trans' (by rw[r]at h;exact h))))
 have q:Hid (∀w',Ext A w'->∀k:Nat,w'.cell? ⟨w.heap.size+2,k,none⟩=(snC s)[k]?):=ah (λw' h k=>by
  have I:=qJ (w:=(tW' w t)) (by rw[r]at h;exact h);simp only[World.size_alloc]at I
  exact cell_of_row w' _ k (snC s) 32 (0,0) I)
 have B:=ah (hs.ext C);have V:=ah (b2Z a b s d A B.out);have C2:Hid (∀w',Ext A w'->cE' 23 #[.slice s.K.a s.K.n s.K.c] w' (.bool (asN d.keys))):=ah (λw' h=>VN d.keys s.K.a s.K.n s.K.c w' (B.out.k.ext h) B.out.kb);have C3:Hid (∀w',Ext A w'->cE' 23 #[.slice s.L.a s.L.n s.L.c] w' (.bool (asN d.locks))):=ah (λw' h=>VN d.locks s.L.a s.L.n s.L.c w' (B.out.l.ext h) B.out.lb)
 have Q:Hid (shB a b d=true->∀w',Ext A w'->cE' 25 #[t.v,cfV a b,snV s] w' (.bool (gnG T a d.keys d.recs))):=ah (λf w' h=>b2d T t a b s d w' (HT.out.aB h) (B.out.ext h) (by
  unfold shB at f;simp only[aT,au]at f
  exact f.2.1))
 have S:Hid (shB a b d=true->∀w',Ext A w'->cE' 26 #[cfV a b,snV s] w' (.bool (ownB a d.phs d.owns))):=ah (λf w' h=>by
  unfold shB at f;simp only[aT,au]at f;have E:1<=a/\a<=64:=by
   have G:=f.1;unfold cfE at G;split at G
   .cases G
   .omega
  exact b2b a b s d w' (B.out.ext h) E f.2.2.2.1)
 have C6:Hid (∀w',Ext A w'->cE' 27 #[.slice s.P.a s.P.n s.P.c,.int .i64 5] w' (.bool (d.phs.any λy=>decide (5=y)))):=ah (λw' h=>b2T 5 d.phs s.P.a s.P.n s.P.c w' (B.out.p.ext h));have M:Hid (s.K.n=d.keys.length):=ah B.out.k.1.1
 have g:Hid (rO T a b s d=if shB a b d=false then 1 else if(asN d.keys&&asN d.locks)=false then 2
  else if((decide (0<=s.now)&&decide (s.now<=1073741824))&&(decide (0<=s.cnt)&&decide (s.cnt<=b)))=false then 3 else if gnG T a d.keys d.recs=false then 4 else if ownB a d.phs d.owns=false then 5
  else if(!(d.phs.any λy=>decide (5=y))&& !decide (s.cnt=d.keys.length))=true then 6 else 0):=rfl
 generalize shB a b d=v1 at*;generalize asN d.keys=v2 at*;generalize asN d.locks=v3 at*;generalize gnG T a d.keys d.recs=v4 at*;generalize ownB a d.phs d.owns=v5 at*;generalize(d.phs.any λy=>decide (5=y))=v6 at*;generalize rO T a b s d=RS at*;obtain⟨H,z,⟨ka,kn,kc⟩,R,⟨la,ln,lc⟩,O,⟨pa,pn,pc⟩⟩:=s;simp only[]at g q V C2 C3 Q S C6 M;obtain⟨b1,G⟩:=eY' (decide (0<=H)&&decide (H<=1073741824));obtain⟨b2,I⟩:=eY' (decide (0<=z)&&decide (z<=b));rw[G,I]at g;have H1:=ah G;have H2:=ah I;have W:=M.out;subst W;clear hs ht C G I B HT;go_enter func8,ntmps8;go_wp2_with fail;rw[<- r];refine V.out.mono ?_;rintro e w1⟨rfl,f⟩;have X:=ah f;have rS:=q.out _ f;clear f r V;cases v1 with
 |false=>
  have j:Hid (RS=1):=ah (by rw[g.out];rfl);have o:=m.out.trans' X.out;clear g;go_wp2;go_ret;exact⟨by rw[j.out];rfl,o⟩
 |true=>
 replace Q:=ah (Q.out rfl);replace S:=ah (S.out rfl);go_wp2_with fail;refine(C2.out _ X.out).mono ?_;rintro e w2⟨rfl,f⟩;have D:=ah (X.out.trans' f);have Y:=q.out _ D.out;clear f rS;cases v2 with
 |false=>
  have j:Hid (RS=2):=ah (by rw[g.out];rfl);have o:=m.out.trans' D.out;clear g;go_wp2;go_ret;exact⟨by rw[j.out];rfl,o⟩
 |true=>
 go_wp2_with fail;refine(C3.out _ D.out).mono ?_;rintro e w3⟨rfl,f⟩;have F:=ah (D.out.trans' f);have Z:=q.out _ F.out;have a0:=J.out _ F.out;clear f Y;cases v3 with
 |false=>
  have j:Hid (RS=2):=ah (by rw[g.out];rfl);have o:=m.out.trans' F.out;clear g;go_wp2;go_ret;exact⟨by rw[j.out];rfl,o⟩
 |true=>
 go_wp2_with fail;refine(zQ H 0 1073741824 w3).mono ?_;rintro e w4⟨rfl,rfl⟩;rw[H1.out];cases b1 with
 |false=>
  have j:Hid (RS=3):=ah (by rw[g.out];rfl);have o:=m.out.trans' F.out;clear g;go_wp2;go_ret;exact⟨by rw[j.out];rfl,o⟩
 |true=>
 go_wp2_with fail;refine(zQ z 0 b w3).mono ?_;rintro e w4⟨rfl,rfl⟩;rw[H2.out];cases b2 with
 |false=>
  have j:Hid (RS=3):=ah (by rw[g.out];rfl);have o:=m.out.trans' F.out;clear g;go_wp2;go_ret;exact⟨by rw[j.out];rfl,o⟩
 |true=>
 have gV:=fV.out _ F.out;go_wp2_with fail;refine(Q.out _ F.out).mono ?_;rintro e w4⟨rfl,f⟩;have N:=ah (F.out.trans' f);have a1:=q.out _ N.out;have a2:=J.out _ N.out;clear f Z a0 gV;cases v4 with
 |false=>
  have j:Hid (RS=4):=ah (by rw[g.out];rfl);have o:=m.out.trans' N.out;clear g;go_wp2;go_ret;exact⟨by rw[j.out];rfl,o⟩
 |true=>
 go_wp2_with fail;refine(S.out _ N.out).mono ?_;rintro e w5⟨rfl,f⟩;have U:=ah (N.out.trans' f);have a3:=q.out _ U.out;clear f a1 a2;cases v5 with
 |false=>
  have j:Hid (RS=5):=ah (by rw[g.out];rfl);have o:=m.out.trans' U.out;clear g;go_wp2;go_ret;exact⟨by rw[j.out];rfl,o⟩
 |true=>
 go_wp2_with fail;refine(C6.out _ U.out).mono ?_;rintro e w6⟨rfl,f⟩;have eY:=ah (U.out.trans' f);have am:=q.out _ eY.out;have o:=m.out.trans' eY.out;clear f a3;cases v6 with
 |true=>
  have j:Hid (RS=0):=ah (by rw[g.out];rfl);clear g;go_wp2;go_ret;exact⟨by rw[j.out];rfl,o⟩
 |false=>
  by_cases E:z=(d.keys.length:Int)
  .have e1:(z != (d.keys.length:Int))=false:=by rw[E];simp
   have j:Hid (RS=0):=ah (by rw[g.out,dt' E];rfl);clear g E;go_wp2;go_ret;exact⟨by rw[j.out];rfl,o⟩
  .have e1:(z != (d.keys.length:Int))=true:=by rw[bne_iff_ne];exact E
   have j:Hid (RS=6):=ah (by rw[g.out,df' E];rfl);clear g E;go_wp2;go_ret;exact⟨by rw[j.out];rfl,o⟩
theorem b2e:Hl [[97],[98]] [0,1] [[98],[97]]=[0,1]:=by decide+kernel
theorem b2f:rO BL 1 1 ⟨0,0,⟨none,0,0⟩,⟨none,0,0⟩,⟨none,0,0⟩,⟨none,0,0⟩,⟨none,0,0⟩⟩ ⟨[],[],[],[],[0]⟩=0:=by decide+kernel
theorem b2h:kR BL [97] (2,0,[97],0)=true:=by decide+kernel
theorem b2c{T:ak}{a b:Int}{s s':Sn}{d:SnD}(c:s.now=s'.now)(f:s.cnt=s'.cnt):rO T a b s d=rO T a b s' d:=by unfold rO;rw[c,f]
theorem b2i(P:SV):rO BL 1 1 ⟨0,0,⟨none,0,0⟩,⟨none,0,0⟩,⟨none,0,0⟩,⟨none,0,0⟩,P⟩ ⟨[],[],[],[],[0]⟩=0:=(b2c (s':=⟨0,0,⟨none,0,0⟩,⟨none,0,0⟩,⟨none,0,0⟩,⟨none,0,0⟩,⟨none,0,0⟩⟩) rfl rfl).trans b2f
theorem b2V(A:Glob w):cE' 13 #[] w (.bool true):=by
 have t:=ah A;have C:(⟨#[97]⟩:ByteArray)=sB [97]:=rfl;have D:(⟨#[98]⟩:ByteArray)=sB [98]:=rfl;obtain⟨n,a⟩:=eX' (((w.alloc (.cells #[.string (sB [97]),.string (sB [98])] 9)).alloc (.cells #[.int .i64 0,.int .i64 1] 3)).alloc (.cells #[.string (sB [98]),.string (sB [97])] 9));have g:Ext w n:=by rw[a];exact((eR'.ay _).ay _).ay _
 have E:=ah g
 have o:=ah (b0K [[97],[98]] [0,1] [[98],[97]] (some ⟨w.heap.size,0,none⟩) 2 2 (some ⟨w.heap.size+1,0,none⟩) 2 2 (some ⟨w.heap.size+2,0,none⟩) 2 2 n
  (by rw[a];exact(VI w [97] [98]).ext ((eR'.ay _).ay _))
  (by
   have h:=(VJ (w.alloc (.cells #[.string (sB [97]),.string (sB [98])] 9)) 0 1).ext (eR'.ay (.cells #[.string (sB [98]),.string (sB [97])] 9));simp only[World.size_alloc]at h
   rw[a];exact h)
  (by
   have h:=VI ((w.alloc (.cells #[.string (sB [97]),.string (sB [98])] 9)).alloc (.cells #[.int .i64 0,.int .i64 1] 3)) [98] [97];simp only[World.size_alloc]at h
   rw[a];exact h)
  (by unfold IsB;decide) (by unfold IsB;decide) (by decide) (by decide))
 rw[b2e]at o;clear A g;go_enter func13,ntmps13;go_wp2_with fail;rw[<- a];clear a;refine o.out.mono ?_;rintro e p⟨B,k,d,rfl,q,b⟩;have F:k=2:=q.len.1;subst F;have r:=ah (E.out.trans' b);have s:=ah q;have c:Ext p (p.alloc (.cells #[.int .i64 0,.int .i64 1] 3)):=eR'.ay _;have G:=ah (r.out.trans' c);clear q b o;go_wp2_with fail;refine(Wh [0,1] [0,1] B 2 d _ 2 2 _ (s.out.ext c) (VJ p 0 1)).mono ?_;rintro e j⟨rfl,b⟩;have H:=ah (G.out.trans' b);rw[show jA [0,1] [0,1]=true from rfl];clear b c;have l:Ext j (j.alloc (.cells #[.int .i64 0] 3)):=eR'.ay _;have y:=ah (H.out.trans' l)
 have f:=ah (MZ BL Iz 1 1 ⟨0,0,⟨none,0,0⟩,⟨none,0,0⟩,⟨none,0,0⟩,⟨none,0,0⟩,⟨some ⟨j.heap.size,0,none⟩,1,1⟩⟩ ⟨[],[],[],[],[0]⟩ (j.alloc (.cells #[.int .i64 0] 3)) (NK (t.out.ext y.out))
  ⟨⟨⟨rfl,lr' _,by simp only[maxLen];omega⟩,λi x h=>by simp at h⟩,⟨⟨rfl,lr' _,by simp only[maxLen];omega⟩,λi x h=>by simp at h⟩,⟨⟨rfl,lr' _,by simp only[maxLen];omega⟩,λi x h=>by simp at h⟩,aC.nil_ _,iJ j 0,λx h=>by simp at h,λx h=>by simp at h,λx h=>by simp at h⟩)
 rw[b2i]at f;clear l;go_wp2_with fail;refine f.out.mono ?_;rintro e I⟨rfl,b⟩;have z:=ah (y.out.trans' b);have m:=ah (Hw BL Iz [97] (2,0,[97],0) I (NK (t.out.ext z.out)) (by unfold IsB;decide) (by unfold IsB;decide));rw[b2h]at m;clear b f;go_wp2_with fail;refine m.out.mono ?_;rintro e K⟨rfl,b⟩;have J:=z.out.trans' b;clear b;go_wp2;go_ret;exact⟨rfl,J⟩
theorem b34(a b:Int)(w:World):cE' 58 #[cfV a b] w (.int .i64 (cfE a b)):=by
 have h:Ext w (w.alloc (.cells #[.int .i64 a,.int .i64 b] 28)):=eR'.ay _;obtain⟨c,i⟩:=eY' (decide (a<1));obtain⟨d,j⟩:=eY' (decide (64<a));obtain⟨f,k⟩:=eY' (decide (b<1));obtain⟨g,l⟩:=eY' (decide (64<b))
 have m:Hid (cfE a b=if(c||d||f||g)=true then 3 else 0):=ah (by
  rw[<- i,<- j,<- k,<- l,cfE]
  simp only[oT',au,or_assoc])
 cases c<;>cases d<;>cases f<;>cases g
 all_goals
  go_enter func58,ntmps58;go_wp2;go_ret;exact⟨by rw[m.out];rfl,h⟩
def CP(r:Rc)(now:Int):Bool:=(r.1==2)||((r.1==1)&&decide (now<r.2.2.2))
theorem VP(r:Rc)(a:Int)(w:World):(cE' 30 #[rcV r,.int .i64 a] w (.bool (CP r a)))/\cE' 18 #[rcV r,.int .i64 a] w (.bool (CP r a)):=by
 obtain⟨s,o,c,d⟩:=r;have i:Ext w (w.alloc (.cells #[.int .i64 s,.int .i64 o,.string (sB c),.int .i64 d] 43)):=eR'.ay _;obtain⟨f,j⟩:=eY' (s==2);obtain⟨g,k⟩:=eY' (s==1);obtain⟨h,l⟩:=eY' (decide (a<d));have m:Hid (CP (s,o,c,d) a=(f||(g&&h))):=ah (by rw[<- j,<- k,<- l];rfl);refine⟨?_,?_⟩<;>cases f<;>cases g<;>cases h
 all_goals
  first
   |go_enter func30,ntmps30
   |go_enter func18,ntmps18
  go_wp2;go_ret;exact⟨by rw[m.out];rfl,i⟩
theorem b2u(r:Rc)(w:World)(R:IsB r.2.2.1):cE' 45 #[rcV r] w (.bool (nK r)):=by
 obtain⟨s,o,a,d⟩:=r;simp only[]at R;have p:Ext w (w.alloc (.cells #[.int .i64 s,.int .i64 o,.string (sB a),.int .i64 d] 43)):=eR'.ay _;have K:((sB a).size:Int)=(a.length:Int):=by rw[rH]
 have t:=sO a;by_cases x:s=0/\o=0/\a=[]/\d=0
 .obtain⟨rfl,rfl,rfl,rfl⟩:=x;go_enter func45,ntmps45;go_wp2;go_ret;exact⟨rfl,p⟩
 .have b:Hid (nK (s,o,a,d)=(!(decide (o<0)||decide (64<=o)||a.isEmpty||decide (63<a.length))&&if s=1 then decide (1<=d)&&decide (d<=1073741824)else if s=2 then d==0 else false)):=ah (by
   unfold nK;simp only[];have:(s==0&&o==0&&a.isEmpty&&d==0)=false:=by
    rw[<- Bool.not_eq_true];intro h;simp only[aT,bq',List.isEmpty_iff]at h;exact x ⟨h.1.1.1,h.1.1.2,h.1.2,h.2⟩
   rw[this,Bool.false_or])
  have L:(∃c f,decide (o<0)=c/\decide (64<=o)=f/\((c=true)\/(c=false/\f=true)\/(c=false/\f=false))):=⟨_,_,rfl,rfl,by cases decide (o<0)<;>cases decide (64<=o)<;>simp⟩;obtain⟨c,f,E,M,y⟩:=L;rw[E,M]at b;cases k:a.isEmpty with
  |true=>
   rw[k]at t b;have F:decide ((a.length:Int)<1)=true:=(by rw[List.isEmpty_iff.1 k];rfl);have G:(s==0)=false\/(o==0)=false\/(d==0)=false:=by
    have N:a=[]:=List.isEmpty_iff.1 k;by_cases I:s=0
    .by_cases E:o=0
     .exact .inr (.inr (by rw[aH];exact λh=>x ⟨I,E,N,h⟩))
     .exact .inr (.inl (by rw[aH];exact E))
    .exact .inl (by rw[aH];exact I)
   have g:Hid (nK (s,o,a,d)=false):=ah (by rw[b.out];cases c<;>cases f<;>rfl);clear x b k;rcases G with z|z|z<;>rcases y with rfl|⟨rfl,rfl⟩|⟨rfl,rfl⟩
   all_goals
    go_enter func45,ntmps45;go_wp2;go_ret;exact⟨by rw[g.out];rfl,p⟩
  |false=>
   rw[k]at t b;have F:decide ((a.length:Int)<1)=false:=(by cases a with|nil=>cases k|cons _ _=>simp only[List.length_cons];rw[aA];omega);have H:∃l,decide (63<a.length)=l/\decide ((63:Int)<(a.length:Int))=l:=⟨_,rfl,by rw[decide_eq_decide];omega⟩;obtain⟨l,O,P⟩:=H;rw[O]at b;have m:(∃A B,(s==1)=true/\(s==2)=false/\decide (1<=d)=A/\decide (d<=1073741824)=B/\Hid ((if s=1 then decide (1<=d)&&decide (d<=1073741824)else if s=2 then d==0 else false)=(A&&B)))\/(s==1)=false/\((∃C,(s==2)=true/\(d==0)=C/\Hid ((if s=1 then decide (1<=d)&&decide (d<=1073741824)else if s=2 then d==0 else false)=C))\/(s==2)=false/\Hid ((if s=1 then decide (1<=d)&&decide (d<=1073741824)else if s=2 then d==0 else false)=false)):=by
    by_cases i:s=1
    .exact .inl ⟨_,_,by rw[bq'];exact i,by rw[i];rfl,rfl,rfl,ah (by rw[pP' i])⟩
    .refine .inr ⟨by rw[aH];exact i,?_⟩;by_cases q:s=2
     .exact .inl ⟨_,by rw[bq'];exact q,rfl,ah (by rw[nN' i,pP' q])⟩
     .exact .inr ⟨by rw[aH];exact q,ah (by rw[nN' i,nN' q])⟩
   obtain⟨J,D⟩:∃J,(if s=1 then decide (1<=d)&&decide (d<=1073741824)else if s=2 then d==0 else false)=J:=⟨_,rfl⟩;rw[D]at m b;have n:((c||f||false||l)=true/\(c=true\/c=false/\f=true\/c=false/\f=false/\l=true))\/(c=false/\f=false/\l=false):=(by cases c<;>cases f<;>cases l<;>simp);clear x k D y;rcases n with⟨y,n⟩|⟨rfl,rfl,rfl⟩
   .have g:Hid (nK (s,o,a,d)=false):=ah (by rw[b.out,y];rfl);clear b m y;rcases n with rfl|⟨rfl,rfl⟩|⟨rfl,rfl,rfl⟩
    all_goals
     go_enter func45,ntmps45;go_wp2;go_ret;exact⟨by rw[g.out];rfl,p⟩
   .rcases m with⟨A,B,i,Q,S,T,j⟩|⟨i,⟨C,q,U,j⟩|⟨q,j⟩⟩
    .have g:Hid (nK (s,o,a,d)=(A&&B)):=ah (by rw[b.out,j.out];rfl);clear b j;cases A<;>cases B
     all_goals
      go_enter func45,ntmps45;go_wp2;go_ret;exact⟨by rw[g.out];rfl,p⟩
    .have g:Hid (nK (s,o,a,d)=C):=ah (by rw[b.out,j.out];rfl);clear b j;cases C
     all_goals
      go_enter func45,ntmps45;go_wp2;go_ret;exact⟨by rw[g.out];rfl,p⟩
    .have g:Hid (nK (s,o,a,d)=false):=ah (by rw[b.out,j.out];rfl);clear b j;go_enter func45,ntmps45;go_wp2;go_ret;exact⟨by rw[g.out];rfl,p⟩
theorem N7(t:TV)(key:List Int)(r:Rc)(w:World)(ht:aS w t T)(hk:IsB key)(N:IsB r.2.2.1):cE' 16 #[t.v,.string (sB key),rcV r] w (.bool (kR T key r)):=by
 obtain⟨o,d⟩:=eX' ((w.alloc (.cells #[.slice t.s0.a t.s0.n t.s0.c,.slice t.s1.a t.s1.n t.s1.c,.slice t.s2.a t.s2.n t.s2.c,.slice t.s3.a t.s3.n t.s3.c,.slice t.s4.a t.s4.n t.s4.c,.slice t.s5.a t.s5.n t.s5.c,.slice t.s6.a t.s6.n t.s6.c,.slice t.s7.a t.s7.n t.s7.c,.slice t.s8.a t.s8.n t.s8.c,.slice t.s9.a t.s9.n t.s9.c,.slice t.s10.a t.s10.n t.s10.c,.slice t.s11.a t.s11.n t.s11.c] 26)).alloc (.cells (rcC r) 43));have s:Ext w o:=by rw[d];exact(eR'.ay _).ay _
 have g:=ah s;have X:=ah (ht.aB s);have Y:Hid (∀w',Ext o w'->∀k:Nat,w'.cell? ⟨w.heap.size,k,none⟩=t.v.cells[k]?):=ah (λw' h=>aP ((eR'.ay _).trans' (by rw[d]at h;exact h)));have x:Hid (∀w',Ext o w'->∀k:Nat,w'.cell? ⟨w.heap.size+1,k,none⟩=(rcC r)[k]?):=ah (λw' h k=>cell_of_row w' _ k (rcC r) 43 (0,0) (qJ (by rw[d]at h;exact h)));have E:=ah (b2u r o N);have Z:Hid (∀w',Ext o w'->cE' 46 #[t.v] w' (.int .i64 (jK T))):=ah (λw' h=>Nh t T w' (X.out.aB h));have CC:Hid (∀w',Ext o w'->Calls prog 47 #[t.v,.string (sB r.2.2.1)] w' (Ht w' (mF T r.2.2.1))):=ah (λw' h=>aZJ T t r.2.2.1 w' (X.out.aB h) N);have y:=ah (VE (T:=T) N);have z:Hid (kR T key r=(nK r&&(!(r.1==0)&&((jK T==0)&&((mF T r.2.2.1).2==0&&(decide ((mF T r.2.2.1).1.1=r.2.2.1)&&decide ((mF T r.2.2.1).1.2.2=key))))))):=rfl;generalize mF T r.2.2.1=C at*;generalize jK T=cn at*;obtain⟨b,F⟩:=C;simp only[]at y z;clear ht s;go_enter func16,ntmps16;go_wp2_with fail;rw[<- d];refine E.out.mono ?_;rintro e w1⟨rfl,i⟩;have K:=ah i;have jY:=Y.out w1 i;have P:=x.out w1 i;clear i d E;cases B:nK r with
 |false=>
  have j:Hid (kR T key r=false):=ah (by rw[z.out,B];rfl);have p:=g.out.trans' K.out;clear B z;go_wp2;go_ret;exact⟨by rw[j.out];rfl,p⟩
 |true=>
  by_cases L:r.1=0
  .have G:(r.1==0)=true:=by rw[bq'];exact L
   have j:Hid (kR T key r=false):=ah (by rw[z.out,B,G];rfl);have p:=g.out.trans' K.out;clear B z L;go_wp2;go_ret;exact⟨by rw[j.out];rfl,p⟩
  have G:(r.1==0)=false:=by rw[aH];exact L
  have l:Hid (kR T key r=((cn==0)&&(F==0&&(decide (b.1=r.2.2.1)&&decide (b.2.2=key))))):=ah (by rw[z.out,B,G];rfl);clear B z L;go_wp2_with fail;refine(Z.out _ K.out).mono ?_;rintro e w2⟨rfl,H⟩;have f:=ah (K.out.trans' H);have fJ:=Y.out w2 f.out;have Q:=x.out w2 f.out;clear H jY P Z;by_cases D:cn=0
  case neg=>
   have R:(cn != 0)=true:=bN' D;have e3:(cn==0)=false:=(by rw[aH];exact D);have j:Hid (kR T key r=false):=ah (by rw[l.out,e3];rfl);have p:=g.out.trans' f.out;clear D l;go_wp2;go_ret;exact⟨by rw[j.out];rfl,p⟩
  have R:(cn != 0)=false:=bZ' D;have m:Hid (kR T key r=(F==0&&(decide (b.1=r.2.2.1)&&decide (b.2.2=key)))):=ah (by rw[l.out,D];rfl);clear D l;go_wp2_with fail;refine(CC.out _ f.out).mono ?_;rintro e q⟨rfl,I⟩;obtain⟨S,A⟩:=eX' (q.alloc (.cells #[.string (sB b.1),.string (sB b.2.1),.string (sB b.2.2)] 84));have J:Ext q S:=by rw[A];exact eR'.ay _
  have jC:=ah (f.out.trans' (I.trans' J));have U:Hid (∀k:Nat,S.cell? ⟨q.heap.size,k,none⟩=(#[.string (sB b.1),.string (sB b.2.1),.string (sB b.2.2)]:Array Value)[k]?):=ah (λk=>by rw[A];exact World.cell?_alloc_new q _ _ k);have p:=g.out.trans' jC.out;have a7:=x.out S jC.out;have a8:=U.out;have q1:=rJ y.out.1 N;have q2:=rJ y.out.2.2 hk;have HV:=ah A;clear I J fJ Q CC;by_cases M:F=0
  .have W:(F==0)=true:=by rw[bq'];exact M
   have j:Hid (kR T key r=(decide (b.1=r.2.2.1)&&decide (b.2.2=key))):=ah (by rw[m.out,W];rfl);generalize decide (b.1=r.2.2.1)=b1 at*;generalize decide (b.2.2=key)=b2 at*;clear M m R G;cases b1<;>cases b2
   all_goals
    go_wp2_with(refine wpList_store_row rfl _ _ _ rfl q.heap.size _ rfl rfl 84 og (heap_alloc_new q _) (by kernel_rfl) rfl (qI _ _ _) ?_;rw[World.setRow_alloc_new,<- A];clear A);go_ret;exact⟨by rw[j.out];rfl,p⟩
  .have W:(F==0)=false:=by rw[aH];exact M
   have j:Hid (kR T key r=false):=ah (by rw[m.out,W];rfl);clear M m R G;go_wp2_with(refine wpList_store_row rfl _ _ _ rfl q.heap.size _ rfl rfl 84 og (heap_alloc_new q _) (by kernel_rfl) rfl (qI _ _ _) ?_;rw[World.setRow_alloc_new,<- A];clear A);go_ret;exact⟨by rw[j.out];rfl,p⟩
theorem VT(L:List (List Int))(A:Option Addr)(n c:Nat)(w:World)(h:lq w ⟨A,n,c⟩ L)(N:∀x∈L,IsB x):
 cE' 29 #[.slice A n c] w (.bool (asN L)):=by
 obtain⟨t,k,l⟩:=h.1;simp only at t k l;subst t;have O:L.length<=9223372036854775807:=by have:=Nat.le_trans k l;simp only[maxLen]at this;omega
 have H:=ah h;have q:=ah N;clear h N;go_enter func29,ntmps29;go_wp2;go_loopg[3] L.length (λy P Q=>∃j:Nat,j+y=L.length/\P=.int .i64 ((j+1:Nat):Int)/\Hid (asG L y (j+1)=asN L)/\Hid (Ext w Q));exact⟨0,by omega,by go_num,ah rfl,ah eR'⟩;obtain⟨j,hj,rfl,B,r⟩:=hrel;have R:(0:Int)<=((j+1:Nat):Int):=aZ _;by_cases m:j+1<L.length
 .obtain⟨C,rfl⟩:=gS' gk;have d:=B.out;rw[asG,dif_pos m]at d;obtain⟨D,E,rfl,F⟩:=(H.out.ext r.out).at_ (i:=j) (by omega);obtain⟨T,U,V,G⟩:=(H.out.ext r.out).at_ m;cases V;have I:=Vz (q.out _ (gM' m)) (q.out _ (gM' (show j<L.length by omega)));have o:=rJ (q.out _ (gM' m)) (q.out _ (gM' (show j<L.length by omega)));simp only[Nat.add_sub_cancel]at d;have p:=ah d;clear d;generalize L[j]=a at*;generalize L[j+1]=b at*;have W:∀z:aj wr,z.w.cell? ⟨D,E+j,none⟩=some (.string (sB a)):=bY F;have X:∀z:aj wr,z.w.cell? ⟨D,E+(j+1),none⟩=some (.string (sB b)):=bY G;have Y:((j+1:Nat):Int)-1=(j:Int):=by omega
  have Z:=z0' j;have a0:((j+1:Nat):Int)<(L.length:Int):=by omega
  have a1:(j:Int)<(L.length:Int):=by omega
  clear F G;have s:(Op.bytesLess (sB b).toList (sB a).toList=true/\Hid (asN L=false))\/(Op.bytesLess (sB b).toList (sB a).toList=false/\(((sB b).toList==(sB a).toList)=true/\Hid (asN L=false)\/((sB b).toList==(sB a).toList)=false/\Hid (asG L C (j+1+1)=asN L))):=by
   rw[I,o];have d:=p.out;cases J:ltS b a with
   |true=>exact .inl ⟨rfl,ah (by rw[<- d,Vy J];rfl)⟩
   |false=>
    by_cases e:b=a
    .exact .inr ⟨rfl,.inl ⟨dt' e,ah (by rw[<- d,e,Hf];rfl)⟩⟩
    .refine .inr ⟨rfl,.inr ⟨df' e,ah ?_⟩⟩;cases K:ltS a b with
     |true=>rw[<- d,K];rfl
     |false=>exact absurd (MV J K) e
  clear I o p;rcases s with⟨b1,f⟩|⟨b1,⟨b2,f⟩|⟨b2,f⟩⟩
  all_goals
   go_wp2_with fail;refine rX' ?_
   repeat(go_big_quiet_step(fail))
   refine wpQuiet_nil ?_;rintro _⟨z,rfl⟩;have M:=ah (r.out.trans' z.h);generalize z.w=w6 at*;clear W X z;go_wp2_with fail
   first
    |(go_roundg C;exact⟨j+1,by omega,by go_num,f,M⟩;omega)
    |(go_ret;exact⟨by rw[f.out];rfl,M.out⟩)
 .have f:Hid (asN L=true):=ah (by
   rw[<- B.out];cases gk with
   |zero=>rfl
   |succ g=>rw[asG,dif_neg m])
  have hx:=r.out;go_wp2;go_ret;exact⟨by rw[f.out];rfl,hx⟩
theorem VW{α:Type}{p:α->Bool}{L:List α}{k:Nat}(a:k<L.length):(L.drop k).any p=(p L[k]||(L.drop (k+1)).any p):=by
 rw[drop_at L k a,List.any_cons]
theorem b3W(p:Int):phP p=(decide (p<0)||decide (7<p)):=by
 unfold phP;by_cases a:p<0<;>by_cases b:7<p
 .omega
 .rw[df' (show ¬ 0<=p by omega),dt' a];rfl
 .rw[dt' (show 0<=p by omega),df' (show ¬p<=7 by omega),df' a,dt' b];rfl
 .rw[dt' (show 0<=p by omega),dt' (show p<=7 by omega),df' a,df' b];rfl
theorem b3V(a b:Int)(s:Sn)(d:SnD)(w:World)(hs:SnS w s d):cE' 28 #[cfV a b,snV s] w (.bool (shB a b d)):=by
 obtain⟨E,q⟩:=eX' ((w.alloc (.cells #[.int .i64 a,.int .i64 b] 28)).alloc (.cells (snC s) 32));have F:Ext w E:=by rw[q];exact(eR'.ay _).ay _
 have z:=ah F;have Q:Hid (∀w',Ext E w'->∀k:Nat,w'.cell? ⟨w.heap.size,k,none⟩=(#[.int .i64 a,.int .i64 b]:Array Value)[k]?):=ah (λw' h=>aP ((eR'.ay _).trans' (by rw[q]at h;exact h)));have J:Hid (∀w',Ext E w'->∀k:Nat,w'.cell? ⟨w.heap.size+1,k,none⟩=(snC s)[k]?):=ah (λw' h k=>cell_of_row w' _ k (snC s) 32 (0,0) (qJ (by rw[q]at h;exact h)));have G:=ah (hs.ext F);have K:Hid (shB a b d=(decide (cfE a b=0)&&(decide (d.keys.length=d.recs.length)&&(decide (d.locks.length=d.owns.length)&&(decide ((d.phs.length:Int)=a)&& !d.phs.any phP))))):=rfl;generalize shB a b d=RS at*;obtain⟨i,j,c,g,f⟩:=d;obtain⟨a5,a6,⟨ka,kn,kc⟩,⟨ra,rn,rc⟩,⟨la,ln,lc⟩,⟨oa,on,oc⟩,⟨pa,pn,pc⟩⟩:=s;simp only[]at K J;have R:kn=i.length:=G.out.k.1.1;have S:rn=j.length:=G.out.r.1.1;have T:ln=c.length:=G.out.l.1.1;have U:on=g.length:=G.out.o.len.1;have V:pn=f.length:=G.out.p.len.1;subst R S T U V;have ac:f.length<=9223372036854775807:=by obtain⟨t,x,A⟩:=G.out.p.len;simp only[]at t x A;(try simp only[maxLen]at A);omega
 have L:=ah (λw'=>b34 a b w');generalize cfE a b=ce at*;clear hs F;go_enter func28,ntmps28;go_wp2_with fail;rw[<- q];refine(L.out E).mono ?_;rintro e w1⟨rfl,M⟩;have gW:=ah M;have rC:=Q.out _ M;have rS:=J.out _ M;have y:=z.out.trans' M;clear M q L;by_cases I:ce=0
 case neg=>
  have e0:(ce != 0)=true:=bN' I;have m:Hid (RS=false):=ah (by rw[K.out,df' I];rfl);clear I K;go_wp2;go_ret;exact⟨by rw[m.out];rfl,y⟩
 have e0:(ce != 0)=false:=bZ' I;have B:Hid (RS=(decide (i.length=j.length)&&(decide (c.length=g.length)&&(decide ((f.length:Int)=a)&& !f.any phP)))):=ah (by rw[K.out,dt' I];rfl);clear I K;by_cases t:i.length=j.length
 case neg=>
  have e1:(i.length==j.length)=false:=by rw[aH];exact t
  have e2:((i.length:Int)==(j.length:Int))=false:=bF';have W:((i.length:Int) != (j.length:Int))=true:=by rw[bne_iff_ne];omega
  have X:(i.length != j.length)=true:=by rw[bne_iff_ne];omega
  have m:Hid (RS=false):=ah (by rw[B.out,df' t];rfl);clear t B;go_wp2;go_ret;exact⟨by rw[m.out];rfl,y⟩
 have e1:(i.length==j.length)=true:=by rw[bq'];exact t
 have e2:((i.length:Int)==(j.length:Int))=true:=by rw[bq'];omega
 have W:((i.length:Int) != (j.length:Int))=false:=by rw[bne_eq_false_iff_eq];omega
 have X:(i.length != j.length)=false:=by rw[bne_eq_false_iff_eq];omega
 have C:Hid (RS=(decide (c.length=g.length)&&(decide ((f.length:Int)=a)&& !f.any phP))):=ah (by rw[B.out,dt' t];rfl);clear t B;by_cases x:c.length=g.length
 case neg=>
  have e3:(c.length==g.length)=false:=by rw[aH];exact x
  have e4:((c.length:Int)==(g.length:Int))=false:=bF';have Y:((c.length:Int) != (g.length:Int))=true:=by rw[bne_iff_ne];omega
  have Z:(c.length != g.length)=true:=by rw[bne_iff_ne];omega
  have m:Hid (RS=false):=ah (by rw[C.out,df' x];rfl);clear x C;go_wp2;go_ret;exact⟨by rw[m.out];rfl,y⟩
 have e3:(c.length==g.length)=true:=by rw[bq'];exact x
 have e4:((c.length:Int)==(g.length:Int))=true:=by rw[bq'];omega
 have Y:((c.length:Int) != (g.length:Int))=false:=by rw[bne_eq_false_iff_eq];omega
 have Z:(c.length != g.length)=false:=by rw[bne_eq_false_iff_eq];omega
 have D:Hid (RS=(decide ((f.length:Int)=a)&& !f.any phP)):=ah (by rw[C.out,dt' x];rfl);clear x C;by_cases A:(f.length:Int)=a
 case neg=>
  have e5:((f.length:Int)==a)=false:=by rw[aH];exact A
  have a0:((f.length:Int) != (a:Int))=true:=by rw[bne_iff_ne];omega
  have m:Hid (RS=false):=ah (by rw[D.out,df' A];rfl);clear A D;go_wp2;go_ret;exact⟨by rw[m.out];rfl,y⟩
 have e5:((f.length:Int)==a)=true:=by rw[bq'];exact A
 have a0:((f.length:Int) != (a:Int))=false:=by rw[bne_eq_false_iff_eq];omega
 have H:Hid (RS= !f.any phP):=ah (by rw[D.out,dt' A];rfl);clear A D;go_wp2_with fail;clear rC rS;go_loopg[39] f.length (λgh a1 wx=>∃k:Nat,k+gh=f.length/\a1=.int .i64 k/\Hid ((f.drop k).any phP=f.any phP)/\Hid (Ext E wx));exact⟨0,by omega,rfl,ah rfl,gW⟩;obtain⟨k,hk,rfl,HI,N⟩:=hrel;by_cases O:k<f.length
 .obtain⟨g2,rfl⟩:=gS' gk;obtain⟨bp,op,rfl,aw⟩:=(G.out.p.ext N.out).at_ O;have hI:=HI.out;rw[VW O,b3W]at hI;generalize f[k]=ph at*;have ax:=z0' k;have az:(k:Int)<(f.length:Int):=by omega
  obtain⟨P,t⟩:=eY' (decide (ph<0));obtain⟨b2,x⟩:=eY' (decide (7<ph));rw[t,x]at hI;have n:=ah hI;clear hI HI;rcases(by cases P<;>cases b2<;>simp:P=true\/(P=false/\b2=true)\/(P=false/\b2=false))with rfl|⟨rfl,rfl⟩|⟨rfl,rfl⟩
  .have m:Hid (RS=false):=ah (by rw[H.out,<- n.out];rfl);have y:=z.out.trans' N.out;clear n;go_wp2;go_ret;exact⟨by rw[m.out];rfl,y⟩
  .have m:Hid (RS=false):=ah (by rw[H.out,<- n.out];rfl);have y:=z.out.trans' N.out;clear n;go_wp2;go_ret;exact⟨by rw[m.out];rfl,y⟩
  .have HN:Hid ((f.drop (k+1)).any phP=f.any phP):=ah (by rw[<- n.out];rfl);clear n;go_wp2;go_roundg g2;exact⟨k+1,by omega,by go_num,HN,N⟩;omega
 .have m:Hid (RS=true):=ah (by rw[H.out,<- HI.out,List.drop_of_length_le (by omega)];rfl);have y:=z.out.trans' N.out;go_wp2;go_ret;exact⟨by rw[m.out];rfl,y⟩
end Go.Proofs.YtljilcbobhmkgaaGreatDoor
