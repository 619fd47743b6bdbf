/- Part Bz33. -/
import Derived.Test.YtpmgophlhmcogaaGreatDoorBz32
open Go.Proofs.Tryz
namespace Go.Proofs.YtpmgophlhmcogaaGreatDoor
set_option maxHeartbeats 25600000
set_option maxRecDepth 100000
open Go.RowKit
def RcS(w:World)(s:SV)(l:List Rc):Prop:=oq s l.length/\∀i x,l[i]? =some x->∃b o,s.a=some ⟨b,o,none⟩/\w.cell? ⟨b,o+i*4,none⟩=some (.int .i64 x.1)/\w.cell? ⟨b,o+i*4+1,none⟩=some (.int .i64 x.2.1)/\w.cell? ⟨b,o+i*4+2,none⟩=some (.string (sB x.2.2.1))/\w.cell? ⟨b,o+i*4+3,none⟩=some (.int .i64 x.2.2.2)
theorem RcS.ext{w w':World}{s:SV}{l:List Rc}(h:RcS w s l)(a:Ext w w'):RcS w' s l:=
 ⟨h.1,λi x c=>by obtain⟨b,o,d,f,g,j,k⟩:=h.2 i x c;exact⟨b,o,d,dh (dG a) f,dh (dG a) g,dh (dG a) j,dh (dG a) k⟩⟩
theorem RcS.at_{w:World}{A:Option Addr}{n c:Nat}{l:List Rc}(h:RcS w ⟨A,n,c⟩ l){i:Nat}(a:i<l.length):∃b o,A=some ⟨b,o,none⟩/\w.cell? ⟨b,o+i*4,none⟩=some (.int .i64 l[i].1)/\w.cell? ⟨b,o+i*4+1,none⟩=some (.int .i64 l[i].2.1)/\w.cell? ⟨b,o+i*4+2,none⟩=some (.string (sB l[i].2.2.1))/\w.cell? ⟨b,o+i*4+3,none⟩=some (.int .i64 l[i].2.2.2):=h.2 i _ (List.getElem?_eq_getElem a)
structure Sn where
 now:Int
 cnt:Int
 K:SV
 R:SV
 L:SV
 O:SV
 P:SV
structure SnD where
 keys:List (List Int)
 recs:List Rc
 locks:List (List Int)
 owns:List Int
 phs:List Int
abbrev snC(s:Sn):Array Value:= #[.int .i64 s.now,.int .i64 s.cnt,.slice s.K.a s.K.n s.K.c,.slice s.R.a s.R.n s.R.c,.slice s.L.a s.L.n s.L.c,.slice s.O.a s.O.n s.O.c,.slice s.P.a s.P.n s.P.c]
abbrev snV(s:Sn):Value:=.agg (snC s)
structure SnS(w:World)(s:Sn)(d:SnD):Prop where
 k:fP w s.K d.keys
 r:RcS w s.R d.recs
 l:fP w s.L d.locks
 o:au w s.O d.owns
 p:au w s.P d.phs
 kb:∀x∈d.keys,IsB x
 lb:∀x∈d.locks,IsB x
 rb:∀x∈d.recs,IsB x.2.2.1
theorem SnS.ext{w w':World}{s:Sn}{d:SnD}(h:SnS w s d)(a:Ext w w'):SnS w' s d:=⟨h.k.ext a,h.r.ext a,h.l.ext a,h.o.ext a,h.p.ext a,h.kb,h.lb,h.rb⟩
def uJ(a:Int)(phs:List Int)(o:Int):Bool:=(decide (0<=o)&&decide (o<=a-1))&&(decide (2<=phs.getD o.toNat 0)&&decide (phs.getD o.toNat 0<=6))
def ownB(a:Int)(phs owns:List Int):Bool:=owns.all (uJ a phs)
theorem Ti{α:Type}{p:α->Bool}{L:List α}{k:Nat}(a:k<L.length):(L.drop k).all p=(p L[k]&&(L.drop (k+1)).all p):=by
 rw[drop_at L k a,List.all_cons]
theorem Tj(a b:Int)(s:Sn)(d:SnD)(w:World)(N:SnS w s d)(U:1<=a/\a<=64)(V:(d.phs.length:Int)=a):cE' 37 #[cfV a b,snV s] w (.bool (ownB a d.phs d.owns)):=by
 obtain⟨n,c⟩:=eX' ((w.alloc (.cells #[.int .i64 a,.int .i64 b] 38)).alloc (.cells (snC s) 41));have r:Ext w n:=by rw[c];exact(eR'.aA _).aA _
 have f:=ah r;have D:Hid (∀w',Ext n w'->∀k:Nat,w'.cell? ⟨w.heap.size,k,none⟩=(#[.int .i64 a,.int .i64 b]:Array Value)[k]?):=ah (λw' h=>aO ((eR'.aA _).trans' (by rw[c]at h;exact h)));have t:Hid (∀w',Ext n w'->∀k:Nat,w'.cell? ⟨w.heap.size+1,k,none⟩=(snC s)[k]?):=ah (λw' h k=>cell_of_row w' _ k (snC s) 41 (0,0) (sN (by rw[c]at h;exact h)));have C:=ah N.o;have l:=ah N.p;have O:Hid (ownB a d.phs d.owns=d.owns.all (uJ a d.phs)):=rfl;have W:=ah U;have x:=ah V;obtain⟨P,Q,E,owns,phs⟩:=d;obtain⟨X,Y,K,R,L,⟨oa,Z,oc⟩,⟨pa,pn,pc⟩⟩:=s;simp only[]at C l O x t;have F:Z=owns.length:=C.out.len.1;have G:pn=phs.length:=l.out.len.1;subst F G;have a1:owns.length<=9223372036854775807:=by obtain⟨h1,h2,h3⟩:=C.out.len;(try simp only[maxLen]at h3);omega
 generalize ownB a phs owns=RS at*;obtain⟨a3,a4⟩:=U;clear N r V;go_enter func37,ntmps37;go_wp2_with fail;rw[<- c];clear c;go_loopg[10] owns.length (λgh H wx=>∃k:Nat,k+gh=owns.length/\H=.int .i64 k/\Hid ((owns.drop k).all (uJ a phs)=RS)/\Hid (Ext n wx));exact⟨0,by omega,rfl,ah O.out.symm,ah eR'⟩;obtain⟨k,hk,rfl,I,j⟩:=hrel;have rC:=D.out _ j.out;have rS:=t.out _ j.out;by_cases y:k<owns.length
 .obtain⟨g2,rfl⟩:=gS' gk;obtain⟨bo,oo,rfl,a9⟩:=(C.out.ext (f.out.trans' j.out)).at_ y;have hI:=I.out;rw[Ti y]at hI;have i:=ah hI;generalize owns[k]=ow at*;have aa:=z0' k;have ab:(k:Int)<(owns.length:Int):=by omega
  clear I hI;by_cases J:0<=ow/\ow<a
  case neg=>
   have z:Hid ((decide ((0:Int)<=ow)&&decide (ow<=a-1))=false):=ah (by rw[aF',bf,bf];omega);have A:Hid (RS=false):=ah (by rw[<- i.out,uJ,z.out];rfl);have B:=f.out.trans' j.out;clear J i;go_wp2_with fail;refine(sO ow 0 (a-1) wr).mono ?_;rintro e w4⟨rfl,rfl⟩;rw[z.out];go_wp2;go_ret;exact⟨by rw[A.out];rfl,B⟩
  have z:Hid ((decide ((0:Int)<=ow)&&decide (ow<=a-1))=true):=ah (by rw[dt' J.1,dt' (by omega)];rfl);obtain⟨q,rfl⟩:=iN' ow;have S:q<phs.length:=by have:=x.out;omega
  obtain⟨bp,op,rfl,ad⟩:=(l.out.ext (f.out.trans' j.out)).at_ S;have T:phs.getD ((q:Int)).toNat 0=phs[q]:=by simp[List.getD_eq_getElem?_getD,S]
  have g:Hid (((decide (2<=phs[q])&&decide (phs[q]<=6))&&(owns.drop (k+1)).all (uJ a phs))=RS):=ah (by rw[<- i.out,uJ,z.out,T];simp);have ae:(q:Int)<(phs.length:Int):=by omega
  clear T i;generalize phs[q]=ph at*;obtain⟨M,m⟩:=eY' (decide (2<=ph)&&decide (ph<=6));have ni:=ah m;rw[m]at g;clear m J;go_wp2_with fail;refine(sO q 0 (a-1) wr).mono ?_;rintro e w4⟨rfl,rfl⟩;rw[z.out];go_wp2_with fail;refine(sO ph 2 6 wr).mono ?_;rintro e w5⟨rfl,rfl⟩;rw[ni.out];cases M with
  |true=>
   have HN:Hid ((owns.drop (k+1)).all (uJ a phs)=RS):=ah (by rw[<- g.out];simp);clear g;go_wp2;go_roundg g2;exact⟨k+1,by omega,by go_num,HN,j⟩;omega
  |false=>
   have A:Hid (RS=false):=ah (by rw[<- g.out];rfl);have B:=f.out.trans' j.out;clear g;go_wp2;go_ret;exact⟨by rw[A.out];rfl,B⟩
 .have A:Hid (RS=true):=ah (by rw[<- I.out,List.drop_of_length_le (by omega)];rfl);have B:=f.out.trans' j.out;go_wp2;go_ret;exact⟨by rw[A.out];rfl,B⟩
noncomputable def gnG(T:aj)(a:Int):List (List Int)->List Rc->Bool
 |k::ks,r::rs=>(nG T k r&& !decide (a<=r.2.1))&&gnG T a ks rs
 |_,_=>true
theorem Tn(T:aj)(t:TV)(a b:Int)(s:Sn)(d:SnD)(w:World)(ht:aN w t T)(hs:SnS w s d)(hl:d.keys.length=d.recs.length):cE' 36 #[t.v,cfV a b,snV s] w (.bool (gnG T a d.keys d.recs)):=by
 obtain⟨p,g⟩:=eX' (((tW' w t).alloc (.cells #[.int .i64 a,.int .i64 b] 38)).alloc (.cells (snC s) 41));have j:Ext w p:=by rw[g];exact((eR'.aA _).aA _).aA _
 have q:=ah j;have HT:=ah (ht.ay j);have iC:Hid (∀w',Ext p w'->∀k:Nat,w'.cell? ⟨w.heap.size,k,none⟩=t.v.cells[k]?):=ah (λw' h=>aO (((eR'.aA _).aA _).trans' (by rw[g]at h;exact h)));have M:Hid (∀w',Ext p w'->∀k:Nat,w'.cell? ⟨w.heap.size+1,k,none⟩=(#[.int .i64 a,.int .i64 b]:Array Value)[k]?):=ah (λw' h k=>cell_of_row w' _ k _ 38 (0,0) (sN ((eR'.aA _).trans' (by rw[g]at h;exact h))))
 have D:Hid (∀w',Ext p w'->∀k:Nat,w'.cell? ⟨w.heap.size+2,k,none⟩=(snC s)[k]?):=ah (λw' h k=>by
  have I:=sN (w:=(tW' w t)) (by rw[g]at h;exact h);simp only[World.size_alloc]at I
  exact cell_of_row w' _ k (snC s) 41 (0,0) I)
 have x:=ah (hs.ext j);have E:=ah hl;have HD:Hid (gnG T a d.keys d.recs=gnG T a (d.keys.drop 0) (d.recs.drop 0)):=rfl;generalize gnG T a d.keys d.recs=RS at*;obtain⟨keys,recs,N,a4,am⟩:=d;obtain⟨Q,R,⟨ka,kn,kc⟩,⟨ra,rn,rc⟩,L,O,P⟩:=s;simp only[]at E HD D;have S:kn=keys.length:=x.out.k.1.1;have U:rn=recs.length:=x.out.r.1.1;subst S U;have ar:recs.length<=9223372036854775807:=by obtain⟨h1,I,h3⟩:=x.out.r.1;simp only[]at h1 I h3;(try simp only[maxLen]at h3);omega
 clear hs j hl ht;go_enter func36,ntmps36;go_wp2_with fail;rw[<- g];clear g;go_loopg[12] recs.length (λgh V wx=>∃k:Nat,k+gh=recs.length/\V=.int .i64 k/\Hid (gnG T a (keys.drop k) (recs.drop k)=RS)/\Hid (Ext p wx));exact⟨0,by omega,rfl,ah HD.out.symm,ah eR'⟩;obtain⟨k,hk,rfl,W,J⟩:=hrel;by_cases l:k<recs.length
 .obtain⟨g2,rfl⟩:=gS' gk;have y:k<keys.length:=by rw[E.out];exact l
  obtain⟨br,or,rfl,n0,n1,n2,n3⟩:=RcS.at_ (x.out.r.ext J.out) l;obtain⟨bk,ok,rfl,F⟩:=(x.out.k.ext J.out).at_ y;have hI:=W.out;rw[drop_at keys k y,drop_at recs k l,gnG]at hI;have f:=ah hI;have X:=ah (x.out.kb _ (gM' y));have Y:=ah (x.out.rb _ (gM' l));generalize keys[k]=key at*;generalize recs[k]=r at*;have aV:=z0' k;have aZ:(k:Int)<(recs.length:Int):=by omega
  have b0:(k:Int)<(keys.length:Int):=by omega
  obtain⟨i,m⟩:=eX' (wr.alloc (.cells #[.int .i64 r.1,.int .i64 r.2.1,.string (sB r.2.2.1),.int .i64 r.2.2.2] 43));have A:Ext wr i:=by rw[m];exact eR'.aA _
  have C:=ah (J.out.trans' A);have Z:Hid (∀w',Ext i w'->∀k:Nat,w'.cell? ⟨wr.heap.size,k,none⟩=(rcC r)[k]?):=ah (λw' h k=>SC _ _ (by rw[m]at h;exact h) k);have a0:=ah (dh (dG A) F);obtain⟨K,B⟩:=eY' (nG T key r);have o:Hid (∀w',Ext i w'->cE' 19 #[t.v,.string (sB key),rcV r] w' (.bool K)):=ah (λw' h=>by rw[<- B];exact IV T t key r w' (HT.out.ay (C.out.trans' h)) X.out Y.out);rw[B]at f;clear hI W B F A;go_wp2_with fail;rw[<- m];clear m n0 n1 n2 n3;have rT:∀z:ak i,∀k:Nat,z.w.cell? ⟨w.heap.size,k,none⟩=t.v.cells[k]? :=λz=>iC.out _ (C.out.trans' z.h)
  have rC:∀z:ak i,∀k:Nat,z.w.cell? ⟨w.heap.size+1,k,none⟩=(#[.int .i64 a,.int .i64 b]:Array Value)[k]? :=λz=>M.out _ (C.out.trans' z.h)
  have rS:∀z:ak i,∀k:Nat,z.w.cell? ⟨w.heap.size+2,k,none⟩=(#[.int .i64 Q,.int .i64 R,.slice (some ⟨bk,ok,none⟩) keys.length kc,.slice (some ⟨br,or,none⟩) recs.length rc,.slice L.a L.n L.c,.slice O.a O.n O.c,.slice P.a P.n P.c]:Array Value)[k]? :=λz=>D.out _ (C.out.trans' z.h)
  have r5:∀z:ak i,∀k:Nat,z.w.cell? ⟨wr.heap.size,k,none⟩=(#[.int .i64 r.1,.int .i64 r.2.1,.string (sB r.2.2.1),.int .i64 r.2.2.2]:Array Value)[k]? :=λz=>Z.out _ z.h
  have cK:∀z:ak i,z.w.cell? ⟨bk,ok+k,none⟩=some (.string (sB key)):=dJ a0.out;cases K with
  |false=>
   have G:Hid (RS=false):=ah (by rw[<- f.out];rfl);clear f;refine rX' ?_
   repeat(go_big_quiet_step(first|(go_at_call 19;with_reducible exact aI (o.out _ (ak.h _)))))
   refine wpQuiet_nil ?_;rintro _⟨z,rfl⟩;have H:=q.out.trans' (C.out.trans' z.h);generalize z.w=w6 at*;clear rT rC rS r5 cK z o;go_wp2;go_ret;exact⟨by rw[G.out];rfl,H⟩
  |true=>
   obtain⟨bo,nS⟩:=eY' (decide (a<=r.2.1));have b1:=ah nS;rw[nS]at f;refine rX' ?_
   repeat(go_big_quiet_step(first|(go_at_call 19;with_reducible exact aI (o.out _ (ak.h _)))))
   refine wpQuiet_nil ?_;rintro _⟨z,rfl⟩;have iK:=ah (C.out.trans' z.h);generalize z.w=w6 at*;clear rT rC rS r5 cK z o;cases bo with
   |true=>
    have G:Hid (RS=false):=ah (by rw[<- f.out];rfl);have H:=q.out.trans' iK.out;clear f;go_wp2;go_ret;exact⟨by rw[G.out];rfl,H⟩
   |false=>
    have HN:Hid (gnG T a (keys.drop (k+1)) (recs.drop (k+1))=RS):=ah (by rw[<- f.out];simp);clear f;go_wp2;go_roundg g2;exact⟨k+1,by omega,by go_num,HN,iK⟩;omega
 .have G:Hid (RS=true):=ah (by
   rw[<- W.out,List.drop_of_length_le (show recs.length<=k by omega)]
   cases keys.drop k<;>rfl)
  have H:=q.out.trans' J.out;go_wp2;go_ret;exact⟨by rw[G.out];rfl,H⟩
def phP(p:Int):Bool:= !(decide (0<=p)&&decide (p<=7))
def shB(a b:Int)(d:SnD):Bool:=decide (cfE a b=0)&&(decide (d.keys.length=d.recs.length)&&(decide (d.locks.length=d.owns.length)&&(decide ((d.phs.length:Int)=a)&& !d.phs.any phP)))
noncomputable def sQ(T:aj)(a b:Int)(s:Sn)(d:SnD):Int:=
 if shB a b d=false then 1 else if(asN d.keys&&asN d.locks)=false then 2
 else if((decide (0<=s.now)&&decide (s.now<=1073741824))&&(decide (0<=s.cnt)&&decide (s.cnt<=b)))=false then 3 else if gnG T a d.keys d.recs=false then 4 else if ownB a d.phs d.owns=false then 5
 else if(!(d.phs.any λy=>decide (5=y))&& !decide (s.cnt=d.keys.length))=true then 6 else 0
theorem Td(c:Int)(w:World):cE' 54 (#[.int .i64 c]++ #[]) w (.bool (phP c)):=by
 have a:Hid (phP c= !(decide (0<=c)&&decide (c<=7))):=rfl;go_enter func54,ntmps54;go_wp2_with fail;refine(sO c 0 7 w).mono ?_;rintro e d⟨rfl,rfl⟩;generalize(decide (0<=c)&&decide (c<=7))=b at*;cases b
 all_goals
  go_wp2;go_ret;exact⟨by rw[a.out];rfl,eR'⟩
theorem Tf(a b:Int)(s:Sn)(d:SnD)(w:World)(V:SnS w s d):cE' 34 #[cfV a b,snV s] w (.bool (shB a b d)):=by
 obtain⟨z,m⟩:=eX' ((w.alloc (.cells #[.int .i64 a,.int .i64 b] 38)).alloc (.cells (snC s) 41));have A:Ext w z:=by rw[m];exact(eR'.aA _).aA _
 have L:=ah A;have M:Hid (∀w',Ext z w'->∀k:Nat,w'.cell? ⟨w.heap.size,k,none⟩=(#[.int .i64 a,.int .i64 b]:Array Value)[k]?):=ah (λw' h=>aO ((eR'.aA _).trans' (by rw[m]at h;exact h)));have H:Hid (∀w',Ext z w'->∀k:Nat,w'.cell? ⟨w.heap.size+1,k,none⟩=(snC s)[k]?):=ah (λw' h k=>cell_of_row w' _ k (snC s) 41 (0,0) (sN (by rw[m]at h;exact h)));have C:=ah (V.ext A);have I:Hid (shB a b d=(decide (cfE a b=0)&&(decide (d.keys.length=d.recs.length)&&(decide (d.locks.length=d.owns.length)&&(decide ((d.phs.length:Int)=a)&& !d.phs.any phP))))):=rfl;generalize shB a b d=RS at*;obtain⟨i,j,c,g,f⟩:=d;obtain⟨W,X,⟨ka,Y,kc⟩,⟨ra,Z,rc⟩,⟨la,ln,lc⟩,⟨oa,on,oc⟩,⟨pa,pn,pc⟩⟩:=s;simp only[]at I H;have N:Y=i.length:=C.out.k.1.1;have O:Z=j.length:=C.out.r.1.1;have P:ln=c.length:=C.out.l.1.1;have Q:on=g.length:=C.out.o.len.1;have R:pn=f.length:=C.out.p.len.1;subst N O P Q R;have HP:=ah (λw'(h:Ext z w')=>xP 54 #[] phP f pa f.length pc w' (C.out.p.ext h) Tryz.call54 (λx _ S _=>Td x S));have J:=ah (λw'=>SN a b w');generalize cfE a b=ce at*;clear V A;go_enter func34,ntmps34;go_wp2_with fail;rw[<- m];refine(J.out z).mono ?_;rintro e w1⟨v,rfl,y⟩;have gU:=ah y;have rC:=M.out _ y;have rS:=H.out _ y;have K:=L.out.trans' y;clear y m J;by_cases D:ce=0
 case neg=>
  have e0:(ce != 0)=true:=bN' D;have B:Hid (RS=false):=ah (by rw[I.out,df' D];rfl);clear D I;go_wp2;go_ret;exact⟨by rw[B.out];rfl,K⟩
 have e0:(ce != 0)=false:=bZ' D;have n:Hid (RS=(decide (i.length=j.length)&&(decide (c.length=g.length)&&(decide ((f.length:Int)=a)&& !f.any phP)))):=ah (by rw[I.out,dt' D];rfl);clear D I;by_cases E:i.length=j.length
 case neg=>
  have e1:(i.length==j.length)=false:=by rw[aP];exact E
  have e2:((i.length:Int)==(j.length:Int))=false:=bF';have B:Hid (RS=false):=ah (by rw[n.out,df' E];rfl);clear E n;go_wp2;go_ret;exact⟨by rw[B.out];rfl,K⟩
 have e1:(i.length==j.length)=true:=by rw[bq'];exact E
 have e2:((i.length:Int)==(j.length:Int))=true:=by rw[bq'];omega
 have q:Hid (RS=(decide (c.length=g.length)&&(decide ((f.length:Int)=a)&& !f.any phP))):=ah (by rw[n.out,dt' E];rfl);clear E n;by_cases F:c.length=g.length
 case neg=>
  have e3:(c.length==g.length)=false:=by rw[aP];exact F
  have e4:((c.length:Int)==(g.length:Int))=false:=bF';have B:Hid (RS=false):=ah (by rw[q.out,df' F];rfl);clear F q;go_wp2;go_ret;exact⟨by rw[B.out];rfl,K⟩
 have e3:(c.length==g.length)=true:=by rw[bq'];exact F
 have e4:((c.length:Int)==(g.length:Int))=true:=by rw[bq'];omega
 have t:Hid (RS=(decide ((f.length:Int)=a)&& !f.any phP)):=ah (by rw[q.out,dt' F];rfl);clear F q;by_cases G:(f.length:Int)=a
 case neg=>
  have e5:((f.length:Int)==a)=false:=by rw[aP];exact G
  have B:Hid (RS=false):=ah (by rw[t.out,df' G];rfl);clear G t;go_wp2;go_ret;exact⟨by rw[B.out];rfl,K⟩
 have e5:((f.length:Int)==a)=true:=by rw[bq'];exact G
 have T:Hid (RS= !f.any phP):=ah (by rw[t.out,dt' G];rfl);clear G t;go_wp2_with fail;refine(HP.out _ gU.out).mono ?_;rintro e w2⟨rfl,y⟩;have U:=K.trans' y;clear y rC rS;generalize f.any phP=bb at*;cases bb
 all_goals
  go_wp2;go_ret;exact⟨by rw[T.out];rfl,U⟩
theorem Tv(T:aj)(t:TV)(a b:Int)(s:Sn)(d:SnD)(w:World)(ht:aN w t T)(hs:SnS w s d):cE' 14 #[t.v,cfV a b,snV s] w (.int .i64 (sQ T a b s d)):=by
 obtain⟨A,r⟩:=eX' (((tW' w t).alloc (.cells #[.int .i64 a,.int .i64 b] 38)).alloc (.cells (snC s) 41));have C:Ext w A:=by rw[r];exact((eR'.aA _).aA _).aA _
 have m:=ah C;have HT:=ah (ht.ay C);have iC:Hid (∀w',Ext A w'->∀k:Nat,w'.cell? ⟨w.heap.size,k,none⟩=t.v.cells[k]?):=ah (λw' h=>aO (((eR'.aA _).aA _).trans' (by rw[r]at h;exact h)));have J:Hid (∀w',Ext A w'->∀k:Nat,w'.cell? ⟨w.heap.size+1,k,none⟩=(#[.int .i64 a,.int .i64 b]:Array Value)[k]?):=ah (λw' h k=>cell_of_row w' _ k _ 38 (0,0) (sN ((eR'.aA _).trans' (by rw[r]at h;exact h))))
 have q:Hid (∀w',Ext A w'->∀k:Nat,w'.cell? ⟨w.heap.size+2,k,none⟩=(snC s)[k]?):=ah (λw' h k=>by
  have I:=sN (w:=(tW' w t)) (by rw[r]at h;exact h);simp only[World.size_alloc]at I
  exact cell_of_row w' _ k (snC s) 41 (0,0) I)
 have B:=ah (hs.ext C);have V:=ah (Tf a b s d A B.out);have C2:Hid (∀w',Ext A w'->cE' 35 #[.slice s.K.a s.K.n s.K.c] w' (.bool (asN d.keys))):=ah (λw' h=>IX d.keys s.K.a s.K.n s.K.c w' (B.out.k.ext h) B.out.kb);have C3:Hid (∀w',Ext A w'->cE' 35 #[.slice s.L.a s.L.n s.L.c] w' (.bool (asN d.locks))):=ah (λw' h=>IX d.locks s.L.a s.L.n s.L.c w' (B.out.l.ext h) B.out.lb)
 have Q:Hid (shB a b d=true->∀w',Ext A w'->cE' 36 #[t.v,cfV a b,snV s] w' (.bool (gnG T a d.keys d.recs))):=ah (λf w' h=>Tn T t a b s d w' (HT.out.ay h) (B.out.ext h) (by
  unfold shB at f;simp only[aQ,aW]at f
  exact f.2.1))
 have S:Hid (shB a b d=true->∀w',Ext A w'->cE' 37 #[cfV a b,snV s] w' (.bool (ownB a d.phs d.owns))):=ah (λf w' h=>by
  unfold shB at f;simp only[aQ,aW]at f;have E:1<=a/\a<=64:=by
   have G:=f.1;unfold cfE at G;split at G
   .cases G
   .omega
  exact Tj a b s d w' (B.out.ext h) E f.2.2.2.1)
 have C6:Hid (∀w',Ext A w'->cE' 38 #[.slice s.P.a s.P.n s.P.c,.int .i64 5] w' (.bool (d.phs.any λy=>decide (5=y)))):=ah (λw' h=>SY 5 d.phs s.P.a s.P.n s.P.c w' (B.out.p.ext h));have M:Hid (s.K.n=d.keys.length):=ah B.out.k.1.1
 have g:Hid (sQ T a b s d=if shB a b d=false then 1 else if(asN d.keys&&asN d.locks)=false then 2
  else if((decide (0<=s.now)&&decide (s.now<=1073741824))&&(decide (0<=s.cnt)&&decide (s.cnt<=b)))=false then 3 else if gnG T a d.keys d.recs=false then 4 else if ownB a d.phs d.owns=false then 5
  else if(!(d.phs.any λy=>decide (5=y))&& !decide (s.cnt=d.keys.length))=true then 6 else 0):=rfl
 generalize shB a b d=v1 at*;generalize asN d.keys=v2 at*;generalize asN d.locks=v3 at*;generalize gnG T a d.keys d.recs=v4 at*;generalize ownB a d.phs d.owns=v5 at*;generalize(d.phs.any λy=>decide (5=y))=v6 at*;generalize sQ T a b s d=RS at*;obtain⟨H,z,⟨ka,kn,kc⟩,R,⟨la,ln,lc⟩,O,⟨pa,pn,pc⟩⟩:=s;simp only[]at g q V C2 C3 Q S C6 M;obtain⟨b1,G⟩:=eY' (decide (0<=H)&&decide (H<=1073741824));obtain⟨b2,I⟩:=eY' (decide (0<=z)&&decide (z<=b));rw[G,I]at g;have H1:=ah G;have H2:=ah I;have W:=M.out;subst W;clear hs ht C G I B HT;go_enter func14,ntmps14;go_wp2_with fail;rw[<- r];refine V.out.mono ?_;rintro e w1⟨rfl,f⟩;have X:=ah f;have rS:=q.out _ f;clear f r V;cases v1 with
 |false=>
  have j:Hid (RS=1):=ah (by rw[g.out];rfl);have o:=m.out.trans' X.out;clear g;go_wp2;go_ret;exact⟨by rw[j.out];rfl,o⟩
 |true=>
 replace Q:=ah (Q.out rfl);replace S:=ah (S.out rfl);go_wp2_with fail;refine(C2.out _ X.out).mono ?_;rintro e w2⟨rfl,f⟩;have D:=ah (X.out.trans' f);have Y:=q.out _ D.out;clear f rS;cases v2 with
 |false=>
  have j:Hid (RS=2):=ah (by rw[g.out];rfl);have o:=m.out.trans' D.out;clear g;go_wp2;go_ret;exact⟨by rw[j.out];rfl,o⟩
 |true=>
 go_wp2_with fail;refine(C3.out _ D.out).mono ?_;rintro e w3⟨rfl,f⟩;have F:=ah (D.out.trans' f);have Z:=q.out _ F.out;have a0:=J.out _ F.out;clear f Y;cases v3 with
 |false=>
  have j:Hid (RS=2):=ah (by rw[g.out];rfl);have o:=m.out.trans' F.out;clear g;go_wp2;go_ret;exact⟨by rw[j.out];rfl,o⟩
 |true=>
 go_wp2_with fail;refine(sO H 0 1073741824 w3).mono ?_;rintro e w4⟨rfl,rfl⟩;rw[H1.out];cases b1 with
 |false=>
  have j:Hid (RS=3):=ah (by rw[g.out];rfl);have o:=m.out.trans' F.out;clear g;go_wp2;go_ret;exact⟨by rw[j.out];rfl,o⟩
 |true=>
 go_wp2_with fail;refine(sO z 0 b w3).mono ?_;rintro e w4⟨rfl,rfl⟩;rw[H2.out];cases b2 with
 |false=>
  have j:Hid (RS=3):=ah (by rw[g.out];rfl);have o:=m.out.trans' F.out;clear g;go_wp2;go_ret;exact⟨by rw[j.out];rfl,o⟩
 |true=>
 have lK:=iC.out _ F.out;go_wp2_with fail;refine(Q.out _ F.out).mono ?_;rintro e w4⟨rfl,f⟩;have N:=ah (F.out.trans' f);have a1:=q.out _ N.out;have a2:=J.out _ N.out;clear f Z a0 lK;cases v4 with
 |false=>
  have j:Hid (RS=4):=ah (by rw[g.out];rfl);have o:=m.out.trans' N.out;clear g;go_wp2;go_ret;exact⟨by rw[j.out];rfl,o⟩
 |true=>
 go_wp2_with fail;refine(S.out _ N.out).mono ?_;rintro e w5⟨rfl,f⟩;have U:=ah (N.out.trans' f);have a3:=q.out _ U.out;clear f a1 a2;cases v5 with
 |false=>
  have j:Hid (RS=5):=ah (by rw[g.out];rfl);have o:=m.out.trans' U.out;clear g;go_wp2;go_ret;exact⟨by rw[j.out];rfl,o⟩
 |true=>
 go_wp2_with fail;refine(C6.out _ U.out).mono ?_;rintro e w6⟨rfl,f⟩;have iK:=ah (U.out.trans' f);have am:=q.out _ iK.out;have o:=m.out.trans' iK.out;clear f a3;cases v6 with
 |true=>
  have j:Hid (RS=0):=ah (by rw[g.out];rfl);clear g;go_wp2;go_ret;exact⟨by rw[j.out];rfl,o⟩
 |false=>
  by_cases E:z=(d.keys.length:Int)
  .have e1:(z != (d.keys.length:Int))=false:=by rw[E];simp
   have j:Hid (RS=0):=ah (by rw[g.out,dt' E];rfl);clear g E;go_wp2;go_ret;exact⟨by rw[j.out];rfl,o⟩
  .have e1:(z != (d.keys.length:Int))=true:=by rw[bne_iff_ne];exact E
   have j:Hid (RS=6):=ah (by rw[g.out,df' E];rfl);clear g E;go_wp2;go_ret;exact⟨by rw[j.out];rfl,o⟩
theorem Tq:lC [[97],[98]] [0,1] [[98],[97]]=[0,1]:=by decide+kernel
theorem Tt:sQ vI 1 1 ⟨0,0,⟨none,0,0⟩,⟨none,0,0⟩,⟨none,0,0⟩,⟨none,0,0⟩,⟨none,0,0⟩⟩ ⟨[],[],[],[],[0]⟩=0:=by decide+kernel
theorem Tz:nG vI [97] (2,0,[97],0)=true:=by decide+kernel
theorem Tm{T:aj}{a b:Int}{s s':Sn}{d:SnD}(c:s.now=s'.now)(f:s.cnt=s'.cnt):sQ T a b s d=sQ T a b s' d:=by unfold sQ;rw[c,f]
theorem TA(P:SV):sQ vI 1 1 ⟨0,0,⟨none,0,0⟩,⟨none,0,0⟩,⟨none,0,0⟩,⟨none,0,0⟩,P⟩ ⟨[],[],[],[],[0]⟩=0:=(Tm (s':=⟨0,0,⟨none,0,0⟩,⟨none,0,0⟩,⟨none,0,0⟩,⟨none,0,0⟩,⟨none,0,0⟩⟩) rfl rfl).trans Tt
theorem IY(w:World)(A:Glob w):cE' 9 #[] w (.bool true):=by
 have t:=ah A;have C:(⟨#[97]⟩:ByteArray)=sB [97]:=rfl;have D:(⟨#[98]⟩:ByteArray)=sB [98]:=rfl;obtain⟨n,a⟩:=eX' (((w.alloc (.cells #[.string (sB [97]),.string (sB [98])] 9)).alloc (.cells #[.int .i64 0,.int .i64 1] 3)).alloc (.cells #[.string (sB [98]),.string (sB [97])] 9));have g:Ext w n:=by rw[a];exact((eR'.aA _).aA _).aA _
 have E:=ah g
 have o:=ah (zJ [[97],[98]] [0,1] [[98],[97]] (some ⟨w.heap.size,0,none⟩) 2 2 (some ⟨w.heap.size+1,0,none⟩) 2 2 (some ⟨w.heap.size+2,0,none⟩) 2 2 n
  (by rw[a];exact(IK w [97] [98]).ext ((eR'.aA _).aA _))
  (by
   have h:=(IL (w.alloc (.cells #[.string (sB [97]),.string (sB [98])] 9)) 0 1).ext (eR'.aA (.cells #[.string (sB [98]),.string (sB [97])] 9));simp only[World.size_alloc]at h
   rw[a];exact h)
  (by
   have h:=IK ((w.alloc (.cells #[.string (sB [97]),.string (sB [98])] 9)).alloc (.cells #[.int .i64 0,.int .i64 1] 3)) [98] [97];simp only[World.size_alloc]at h
   rw[a];exact h)
  (by unfold IsB;decide) (by unfold IsB;decide) (by decide) (by decide))
 rw[Tq]at o;clear A g;go_enter func9,ntmps9;go_wp2_with fail;rw[<- a];clear a;refine o.out.mono ?_;rintro e p⟨B,k,d,rfl,q,b⟩;have F:k=2:=q.len.1;subst F;have r:=ah (E.out.trans' b);have s:=ah q;have c:Ext p (p.alloc (.cells #[.int .i64 0,.int .i64 1] 3)):=eR'.aA _;have G:=ah (r.out.trans' c);clear q b o;go_wp2_with fail;refine(D9 [0,1] [0,1] B 2 d _ 2 2 _ (s.out.ext c) (IL p 0 1)).mono ?_;rintro e j⟨rfl,b⟩;have H:=ah (G.out.trans' b);rw[show gZ [0,1] [0,1]=true from rfl];clear b c;have l:Ext j (j.alloc (.cells #[.int .i64 0] 3)):=eR'.aA _;have y:=ah (H.out.trans' l)
 have f:=ah (Tv vI Ah 1 1 ⟨0,0,⟨none,0,0⟩,⟨none,0,0⟩,⟨none,0,0⟩,⟨none,0,0⟩,⟨some ⟨j.heap.size,0,none⟩,1,1⟩⟩ ⟨[],[],[],[],[0]⟩ (j.alloc (.cells #[.int .i64 0] 3)) (Dx (t.out.ext y.out))
  ⟨⟨⟨rfl,lr' _,by simp only[maxLen];omega⟩,λi x h=>by simp at h⟩,⟨⟨rfl,lr' _,by simp only[maxLen];omega⟩,λi x h=>by simp at h⟩,⟨⟨rfl,lr' _,by simp only[maxLen];omega⟩,λi x h=>by simp at h⟩,au.nil_ _,iP j 0,λx h=>by simp at h,λx h=>by simp at h,λx h=>by simp at h⟩)
 rw[TA]at f;clear l;go_wp2_with fail;refine f.out.mono ?_;rintro e I⟨rfl,b⟩;have z:=ah (y.out.trans' b);have m:=ah (IV vI Ah [97] (2,0,[97],0) I (Dx (t.out.ext z.out)) (by unfold IsB;decide) (by unfold IsB;decide));rw[Tz]at m;clear b f;go_wp2_with fail;refine m.out.mono ?_;rintro e K⟨rfl,b⟩;have J:=z.out.trans' b;clear b;go_wp2;go_ret;exact⟨rfl,J⟩
theorem Src.lt{b w:World}{g:Nat}{r:List Int}(c:Src b w g r):g<w.heap.size:=by
 obtain⟨_,_,_,_,_,_,_,a,_⟩:=c;exact World.block_lt_of_cell? w _ a
theorem letter{cs:List Int}{i:Nat}(b:i<cs.length)(W:World):(Instr.slice 9 (.string (sB cs)) (some (.int .i64 (i:Int))) (some (.int .i64 ((i:Int)+1))) none).run prog W=.ok (.string (sB [cs.getD i 0])) W:=by
 have a:=Ew (l:=cs) W (k:=i) (m:=i+1) (by omega) (by omega);rw[Nat.add_sub_cancel_left,show(cs.drop i).take 1=[cs.getD i 0]from by rw[getD_lt cs i 0 b,drop_at cs i b];rfl]at a;exact a
end Go.Proofs.YtpmgophlhmcogaaGreatDoor
