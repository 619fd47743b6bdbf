/- Part Bz20. -/
import Derived.Test.YtpmgophlhmcogaaGreatDoorBz19
open Go.Proofs.Tryz
namespace Go.Proofs.YtpmgophlhmcogaaGreatDoor
set_option maxHeartbeats 25600000
set_option maxRecDepth 100000
open Go.RowKit
variable (T:aj)(t:TV)(l:List Int)(A:Option Addr)(n c:Nat)(w:World)
def jnG:Bool->List (List Int)->List Int
 |_,[]=>[]
 |f,x::r=>(if f then x else 46::x)++jnG false r
def jnL(ls:List (List Int)):List Int:=jnG true ls
theorem PY{ls:List (List Int)}{k:Nat}(h:k<ls.length):jnG (k==0) (ls.drop k)=(if(k==0)=true then ls[k]else 46::ls[k])++jnG (k+1==0) (ls.drop (k+1)):=by
 rw[drop_at ls k h];rfl
theorem vS.lists{o w:World}{A:Option Addr}{N C:Nat}{ls:List (List Int)}(h:vS o w A N C ls):jR w ⟨A,N,C⟩ ls:=by
 obtain⟨g,S,rfl,d,p,f,k⟩:=h;obtain⟨l,m⟩:=Own.le d;refine⟨⟨f.symm,by rw[f];exact l,m⟩,λi x j=>?_⟩;have q:=(List.getElem?_eq_some_iff.1 j).1;have b:i<S.length:=by omega
 refine⟨g,0,S[i].a,S[i].n,S[i].c,rfl,?_,(k i S[i] x (List.getElem?_eq_getElem b) j).1⟩;have:=World.ownsRow.cellAt d i (by omega);rw[Nat.zero_add,this];simp[b]
def fP(w:World)(s:SV)(ls:List (List Int)):Prop:=
 oq s ls.length/\∀i x,ls[i]? =some x->∃b o,s.a=some ⟨b,o,none⟩/\w.cell? ⟨b,o+i,none⟩=some (.string (sB x))
theorem fP.keep{w w':World}{s:SV}{l:List (List Int)}(h:fP w s l)(f:∀p:Addr,p.block<w.heap.size->w'.cell? p=w.cell? p):fP w' s l:=
 ⟨h.1,λi x a=>by obtain⟨b,o,c,d⟩:=h.2 i x a;exact⟨b,o,c,dh f d⟩⟩
theorem fP.ext{w w':World}{s:SV}{l:List (List Int)}(h:fP w s l)(a:Ext w w'):fP w' s l:=h.keep (dG a)
theorem fP.at_{A:Option Addr}{n c:Nat}{w:World}{l:List (List Int)}(h:fP w ⟨A,n,c⟩ l){i:Nat}(a:i<l.length):∃b o,A=some ⟨b,o,none⟩/\w.cell? ⟨b,o+i,none⟩=some (.string (sB l[i])):=
 h.2 i _ (List.getElem?_eq_getElem a)
def fbG:Nat->List (List Int)->Option (Int×Int)
 |_,[]=>none
 |k,x::r=>if x.length=0 then some (k,10)else if 63<x.length then some (k,11)else fbG (k+1) r
def jA:List (List Int)->Int
 |[]=>0
 |x::r=>x.length+jA r
def gJ(ls:List (List Int)):Int×Int:=
 if ls.length=0 then(0,10)else match fbG 0 ls with
  |some p=>p
  |none=>if 127<(ls.length:Int)\/253<(ls.length:Int)-1+jA ls then(0,11)else(0,0)
theorem Q5{ls:List (List Int)}{k:Nat}(h:k<ls.length):fbG k (ls.drop k)=if ls[k].length=0 then some ((k:Int),10)else if 63<ls[k].length then some ((k:Int),11)else fbG (k+1) (ls.drop (k+1)):=by
 rw[drop_at ls k h];rfl
theorem PZ(a:List (List Int))(x:List Int):jA (a++[x])=jA a+x.length:=by
 induction a with
 |nil=>simp[jA]
 |cons y a ih=>simp[jA,ih];omega
theorem Gw:∀(ls:List (List Int)),((jnG false ls).length:Int)=ls.length+jA ls
 |[]=>rfl
 |x::r=>by
  have:=Gw r;show(((46::x)++jnG false r).length:Int)=_
  simp only[lA',List.length_cons,jA];omega
theorem zq{ls:List (List Int)}(h:ls≠[]):((jnL ls).length:Int)=(ls.length:Int)-1+jA ls:=by
 cases ls with
 |nil=>exact absurd rfl h
 |cons x r=>
  have:=Gw r;show((x++jnG false r).length:Int)=_
  simp only[lA',List.length_cons,jA];omega
theorem Gx{ls:List (List Int)}(h:(gJ ls).2=0):ls≠[]/\ls.length<=127/\(jnL ls).length<=253/\(gJ ls).1=0:=by
 unfold gJ at h |-;split at h
 .cases h
 .rename_i d;rw[nN' d];have a:ls≠[]:=λe=>d (by rw[e];rfl)
  have g:=zq a;cases b:fbG 0 ls with
  |some p=>
   rw[b]at h;exfalso;have c:∀(l:List (List Int))(k:Nat)(p:Int×Int),fbG k l=some p->p.2≠0:=by
    intro l
    induction l with
    |nil=>intro k p h;cases h
    |cons y r ih=>
     intro k p h;unfold fbG at h;split at h
     .injection h with h;subst h;simp
     .split at h
      .injection h with h;subst h;simp
      .exact ih _ _ h
   exact c ls 0 p b h
  |none=>
   rw[b]at h;simp only at h |-;split at h
   .cases h
   .rename_i f;rw[nN' f];exact⟨a,by omega,by omega,rfl⟩
def mF(ls:List (List Int)):List Int×Int:=if(gJ ls).2≠0 then([],(gJ ls).2)else(jnL ls,0)
theorem BM:∀(ls:List (List Int))(k:Nat),fbG k ls=none->∀x∈ls,0<x.length/\x.length<=63
 |[],_,_,x,a=>by cases a
 |y::r,k,h,x,a=>by
  unfold fbG at h;split at h
  .cases h
  .split at h
   .cases h
   .rcases List.mem_cons.1 a with rfl|a
    .omega
    .exact BM r _ h x a
def PV(w:World)(ls:List (List Int))(g:Nat)(s3 s8:Value)(wx:World):Prop:=
 ∃(A:Option Addr)(n c k:Nat)(acc:List Int),g+k=ls.length/\s8=.int .i64 k/\s3=.slice A n c/\Hid (n=acc.length)/\n<=1000000/\aB wx w.heap.size A n c acc/\Ext w wx/\Hid (jnL ls=acc++jnG (k==0) (ls.drop k))
theorem PX(ls:List (List Int))(A:Option Addr)(n c:Nat)(w:World)(D:jR w ⟨A,n,c⟩ ls)(hm:(jnL ls).length<=1000000):Calls prog 111 #[.slice A n c] w (Jq w (jnL ls)):=by
 have V:=D.len.1;have X:=D.len.2;subst V;have Y:=ah D;clear D;go_enter func111,ntmps111;go_wp2;go_loopg[3,8] ls.length (λZ s3 s8 wx=>PV w ls Z s3 s8 wx);exact⟨none,0,0,0,[],by omega,rfl,rfl,rfl,by omega,Own.nil_ _ _ _ _,eR',rfl⟩;obtain⟨B,m,d,k,g,hg,rfl,rfl,E,a3,s,J,F⟩:=hrel;have y:=ah s;have t:=ah J;clear s J;by_cases G:k<ls.length
 .obtain⟨b,o,za,H,zc,hA,I,M⟩:=Y.out.at_ G;subst hA;have a5:=dh (dG t.out) I;have K:=ah (PY G);have U:=ah (λW(h:Ext w W)=>M.ext h);have L:=M.len.1;clear M I;generalize ls[k]=x at*;by_cases q:k=0
  .have hd:decide ((0:Int)<(k:Int))=false:=dF';have N:decide (0<k)=false:=dF';have l:=aF F (show _=(g++x)++jnG (k+1==0) (ls.drop (k+1))from by rw[K.out,pP' (by rw[bq'];exact q),List.append_assoc]);have z:m+H<=1000000:=by
    have O:=congrArg List.length l.out;simp only[lA']at O;have h2:=E.out;omega
   obtain⟨P,Q,R,j,a,f,_⟩:=gK y.out (U.out wr t.out) (by omega) t.out.b.size;have S:Hid (Ext w R):=ah (dP t.out f (λk G=>(Own.lt y.out k G).1));have T:=ah a;have C:Hid (m+H=(g++x).length):=ah (by rw[lA',E.out,L]);clear a f F K y t L E q;go_wp2_with(at_builtin;refine bP rfl _ _ _ rfl _ _ rfl rfl _ _ j ?_);go_roundg (ls.length-(k+1));exact⟨P,m+H,Q,k+1,g++x,by omega,by go_num,rfl,C,z,T.out,S.out,l⟩;omega
  .have hd:decide ((0:Int)<(k:Int))=true:=dT';have N:decide (0<k)=true:=dT';have l:=aF F (show _=((g++[46])++x)++jnG (k+1==0) (ls.drop (k+1))from by rw[K.out,nN' (by rw[bq'];exact q)];simp);have z:m+1+H<=1000000:=by
    have O:=congrArg List.length l.out;simp only[lA',List.length_singleton]at O;have h2:=E.out;omega
   obtain⟨A4,c4,w4,p,i,r,_⟩:=yU y.out t.out 46 (by omega);obtain⟨P,Q,R,j,a,f,_⟩:=gK i (U.out w4 r) (by omega) r.b.size;have S:Hid (Ext w R):=ah (dP r f (λk G=>(Own.lt i k G).1));have T:=ah a;have C:Hid (m+1+H=((g++[46])++x).length):=ah (by simp only[lA',List.length_singleton];rw[E.out,L]);clear a f F K y t L E q i r
   go_wp2_with(at_builtin;first
    |(refine bP rfl _ _ _ rfl _ _ rfl rfl _ _ p ?_;clear p)
    |(refine bP rfl _ _ _ rfl _ _ rfl rfl _ _ j ?_;clear j))
   go_roundg (ls.length-(k+1));exact⟨P,m+1+H,Q,k+1,(g++[46])++x,by omega,by go_num,rfl,C,z,T.out,S.out,l⟩;omega
 .have HF:Hid (jnL ls=g):=ah (by rw[F.out,bV ls k (by omega)];simp[jnG]);have D:=aB.ints y.out;have J:=t.out;clear F y;go_wp2;go_ret;exact⟨B,_,d,rfl,by rw[HF.out];exact D,J⟩
def Q7(w:World)(ls:List (List Int))(g:Nat)(s14:Value)(wx:World):Prop:=
 ∃k:Nat,g+k=ls.length/\s14=.int .i64 k/\wx=w/\Hid (fbG 0 ls=fbG k (ls.drop k))
def Q8(w:World)(ls:List (List Int))(g:Nat)(s6 s32:Value)(wx:World):Prop:=
 ∃(k:Nat)(u:Int),g+k=ls.length/\s32=.int .i64 k/\s6=.int .i64 u/\wx=w/\Hid (u=(ls.length:Int)-1+jA (ls.take k))/\ -1<=u/\u<=ls.length+63*k
def IE2(d:Int×Int)(e:Ending):Prop:=e=.returned (.tuple #[.int .i64 d.1,.int .i64 d.2])
theorem Gu(ls:List (List Int))(A:Option Addr)(n c:Nat)(w:World)(M:fP w ⟨A,n,c⟩ ls)(hm:ls.length<=1000000):Calls prog 173 #[.slice A n c] w λe w'=>IE2 (gJ ls) e/\w=w':=by
 have h:Hid (gJ ls=if ls.length=0 then(0,10)else match fbG 0 ls with
  |some p=>p
  |none=>if 127<(ls.length:Int)\/253<(ls.length:Int)-1+jA ls then(0,11)else(0,0)):=rfl
 generalize gJ ls=D at*;have Q:n=ls.length:=M.1.1;subst Q;have N:=ah M;clear M;by_cases t:ls.length=0
 .rw[pP' t]at h;have R:((ls.length:Int)==0)=true:=by rw[bq'];omega
  have S:(ls.length==0)=true:=by rw[bq'];omega
  clear t;go_enter func173,ntmps173;go_wp2;go_ret2;exact⟨by rw[h.out];rfl,rfl⟩
 rw[nN' t]at h;have R:((ls.length:Int)==0)=false:=bF';have S:(ls.length==0)=false:=bF';go_enter func173,ntmps173;go_wp2;go_loopg[14] ls.length (λy z B=>Q7 w ls y z B);exact⟨0,by omega,rfl,rfl,rfl⟩;obtain⟨k,hg,rfl,rfl,q⟩:=hrel;by_cases O:k<ls.length
 .obtain⟨b,o,C,E⟩:=N.out.at_ O;subst C;have i:=ah (Q5 O);have l:=pU ls[k];have r:ls[k].isEmpty=decide (ls[k].length=0):=by cases ls[k]<;>simp
  rw[r]at l;generalize ls[k]=x at*;clear r;by_cases d:x.length=0
  .have f:Hid (D=((k:Int),10)):=ah (by rw[h.out,q.out,i.out,pP' d]);rw[dt' d]at l;go_wp2;go_ret2;exact⟨by rw[f.out];rfl,rfl⟩
  rw[df' d]at l;by_cases P:63<x.length
  .have f:Hid (D=((k:Int),11)):=ah (by rw[h.out,q.out,i.out,nN' d,pP' P]);go_wp2;go_ret2;exact⟨by rw[f.out];rfl,rfl⟩
  .have f:=aF q (i.out.trans (by rw[nN' d,nN' P]));clear q i;go_wp2;go_roundg (ls.length-(k+1));exact⟨k+1,by omega,by go_num,rfl,f⟩;omega
 .have m:fbG 0 ls=none:=by rw[q.out,bV ls k (by omega)];rfl
  rw[m]at h;have a:Hid (D=if 127<(ls.length:Int)\/253<(ls.length:Int)-1+jA ls then(0,11)else(0,0)):=h;have T:=ah (BM ls 0 m);clear h q m;go_wp2;go_loopg[6,32] ls.length (λy U F B=>Q8 wr ls y U F B);exact⟨0,_,by omega,rfl,rfl,rfl,ah (by simp[jA]),by omega,by omega⟩;obtain⟨j,u,V,rfl,rfl,rfl,s,W,X⟩:=hrel;by_cases G:j<ls.length
  .obtain⟨b,o,C,E⟩:=N.out.at_ G;subst C;have i:Hid (jA (ls.take (j+1))=jA (ls.take j)+ls[j].length):=ah (by rw[tS' G,PZ]);have Y:=T.out _ (gM' G);generalize ls[j]=x at*;have H:Hid (u+x.length=(ls.length:Int)-1+jA (ls.take (j+1))):=ah (by rw[i.out];have:=s.out;omega);clear s i;go_wp2;go_roundg (ls.length-(j+1));exact⟨j+1,_,by omega,by go_num,rfl,rfl,H,by omega,by omega⟩;omega
  .have I:=s.out;rw[tL' (by omega)]at I;rw[<- I]at a;clear s I;by_cases g:127<(ls.length:Int)
   .rw[pP' (.inl g)]at a;have Z:decide (127<(ls.length:Int))=true:=(by rw[aW];exact g);have J:decide (127<ls.length)=true:=dT';go_wp2;go_ret2;exact⟨by rw[a.out];rfl,rfl⟩
   have Z:decide (127<(ls.length:Int))=false:=(by rw[bf];exact g);have J:decide (127<ls.length)=false:=dF';by_cases K:253<u
   .rw[pP' (.inr K)]at a;have L:decide (253<u)=true:=(by rw[aW];exact K);go_wp2;go_ret2;exact⟨by rw[a.out];rfl,rfl⟩
   .rw[nN' (by omega)]at a;have L:decide (253<u)=false:=(by rw[bf];exact K);go_wp2;go_ret2;exact⟨by rw[a.out];rfl,rfl⟩
def kM(T:aj)(l:List Int):Bool:=eX [1,2,3] (bM T l)
def frR(T:aj):Int->List (List Int)->Int
 |_,[]=> -1
 |i,l::r=>if vT (bM T l)≠0 then i else frR T (i+1) r
def oG(T:aj)(ls:List (List Int)):Int:=if ls.any (kM T)=true/\frR T 0 ls≠ -1 then 19 else 0
def pW(T:aj)(ls:List (List Int)):Int:=if ls.any (kM T)=true/\frR T 0 ls≠ -1 then frR T 0 ls else 0
theorem Qq(h:0<l.length):vT (bM T l)=H8 (eX [1,2] [jK T l[0]]) (eX [0,11] (bM T l)) (eX [1,2,3,4] (jI (bM T l))) (eX [4] (bM T l)) (eX [3] (bM T l)) (eX [0] [jK T l[0]]) (eX [1,2,3,11] (bM T l)) (eX [0,4] (jI (bM T l))):=by
 cases l with
 |nil=>cases h
 |cons a r=>rfl
theorem BZ(k m:Int)(a:0<=k)(b:k<=11)(c:((2 ^ k.toNat:Nat):Int)=m):Hid (∀w:World,cW' 241 #[.int .i64 k] w (.int .i64 m)):=ah λw=>by
 have:=zA k a b w;rwa[c]at this
theorem qV(a m:Int)(b:Bool)(h:(bits .and .i64 a m != 0)=b):Hid (∀w:World,cW' 240 #[.int .i64 a,.int .i64 m] w (.bool b)):=ah λw=>by
 have:=Qm a m w;rwa[h]at this
theorem Qr(ht:aN w t T)(V:au w ⟨A,n,c⟩ l)(hw:bC T=true)(hm:l.length<=4096):
 cE' 185 #[t.v,.slice A n c] w (.int .i64 (vT (bM T l))):=by
 have j:=dI w t;have C:=ah j;have J:=ah (ht.ay j);have O:=ah (V.ext j);have B:=ah hw;have K:=ah hm;have hn:=V.len.1;subst hn;clear ht V j hm hw;by_cases D:0<l.length
 .have m:=ah (Qq T l D);have a6:(0:Int)<(l.length:Int):=by omega
  have a7:l.length<=4096:=K.out;have e0:((l.length:Int)==0)=false:=bF';obtain⟨b,o,rfl,r⟩:=O.out.at_ D;rw[Nat.add_zero]at r;have p:=zy B.out l[0];have s:=ah (BX B.out l);have E:Hid (∀w',Ext (tW' w t) w'->cE' 242 #[t.v,.int .i64 l[0]] w' (.int .i64 (jK T l[0]))):=ah (λw' h=>BO t T l[0] w' (J.out.ay h) (iR B.out));have F:Hid (∀w',Ext (tW' w t) w'->cE' 239 #[t.v,.slice (some ⟨b,o,none⟩) l.length c] w' (.int .i64 ((dY (bM T l):Nat):Int))):=ah (λw' h=>H6 T t l _ _ c w' (J.out.ay h) (O.out.ext h) B.out K.out);have W:Hid (∀w',Ext (tW' w t) w'->cE' 243 #[t.v,.slice (some ⟨b,o,none⟩) l.length c] w' (.int .i64 ((dY (jI (bM T l)):Nat):Int))):=ah (λw' h=>Qp T t l _ _ c w' (J.out.ay h) (O.out.ext h) B.out K.out);generalize l[0]=x0 at*;generalize jK T x0=q at*;have x:Hid (InB [q]):=ah (by intro y X;rw[List.mem_singleton]at X;subst X;exact p);have G:Hid (∀w',Ext (w.alloc (.cells #[.slice t.s0.a t.s0.n t.s0.c,.slice t.s1.a t.s1.n t.s1.c,.slice t.s2.a t.s2.n t.s2.c,.slice t.s3.a t.s3.n t.s3.c,.slice t.s4.a t.s4.n t.s4.c,.slice t.s5.a t.s5.n t.s5.c,.slice t.s6.a t.s6.n t.s6.c,.slice t.s7.a t.s7.n t.s7.c,.slice t.s8.a t.s8.n t.s8.c,.slice t.s9.a t.s9.n t.s9.c,.slice t.s10.a t.s10.n t.s10.c,.slice t.s11.a t.s11.n t.s11.c] 36)) w'->cE' 241 #[.int .i64 q] w' (.int .i64 ((dY [q]:Nat):Int))):=ah (λw' h=>(zA q p.1 p.2 w').mono λe g Y=>⟨by rw[H9];exact Y.1,by rw[<- Y.2];exact eR'⟩);have i:=λb h=>qV ((dY [q]:Nat):Int) 6 b h
  have i:=i _ (qW [1,2] [q] (by unfold InB;decide) x.out 6 (by decide));have L:=qV ((dY [q]:Nat):Int) 1 _ (qW [0] [q] (by unfold InB;decide) x.out 1 (by decide));have H:=qV _ 2049 _ (qW [0,11] (bM T l) (by unfold InB;decide) s.out 2049 (by decide));have P:=qV _ 16 _ (qW [4] (bM T l) (by unfold InB;decide) s.out 16 (by decide));have Z:=qV _ 8 _ (qW [3] (bM T l) (by unfold InB;decide) s.out 8 (by decide));have Q:=qV _ 2062 _ (qW [1,2,3,11] (bM T l) (by unfold InB;decide) s.out 2062 (by decide));have M:=qV _ 30 _ (qW [1,2,3,4] (jI (bM T l)) (by unfold InB;decide) (H7 s.out) 30 (by decide));have M8:=qV _ 17 _ (qW [0,4] (jI (bM T l)) (by unfold InB;decide) (H7 s.out) 17 (by decide));have S:=BZ 4 16 (by omega) (by omega) (by decide);have O3:=BZ 3 8 (by omega) (by omega) (by decide);have N:=BZ 0 1 (by omega) (by omega) (by decide);generalize eX [1,2] [q]=b1 at*;generalize eX [0,11] (bM T l)=b2 at*;generalize eX [1,2,3,4] (jI (bM T l))=b3 at*;generalize eX [4] (bM T l)=b4 at*;generalize eX [3] (bM T l)=b5 at*;generalize eX [0] [q]=b6 at*;generalize eX [1,2,3,11] (bM T l)=b7 at*;generalize eX [0,4] (jI (bM T l))=b8 at*;generalize vT (bM T l)=R at*;generalize((dY [q]:Nat):Int)=SF at*;generalize((dY (bM T l):Nat):Int)=Dy at*;generalize((dY (jI (bM T l)):Nat):Int)=U3 at*;clear s x p B K J;have rT:∀I:ak (tW' w t),∀k:Nat,I.w.cell? ⟨w.heap.size,k,none⟩=t.v.cells[k]? :=λI=>aO I.h
  have rX:∀I:ak (tW' w t),I.w.cell? ⟨b,o,none⟩=some (.int .i64 x0):=dJ r;go_enter func185,ntmps185;go_wp2_with fail;refine rX' ?_
  repeat(go_big_quiet_step(first
   |(go_at_call 242;with_reducible exact aI (E.out _ (ak.h _)))
   |(go_at_call 241;with_reducible exact aI (G.out _ (ak.h _)))
   |(go_at_call 239;with_reducible exact aI (F.out _ (ak.h _)))
   |(go_at_call 243;with_reducible exact aI (W.out _ (ak.h _)))))
  refine wpQuiet_nil ?_;rintro _⟨yw,rfl⟩;clear rT rX r E F W G;obtain⟨U,z⟩:=eX' yw.w;have f:Ext w U:=by rw[z];exact C.out.trans' yw.h
  rw[<- z];clear z;cases b1
  case true=>
   cases b2
   case true=>
    go_wp2_with fail;refine(i.out _).mono ?_;rintro e d⟨rfl,rfl⟩;go_wp2_with fail;refine(H.out _).mono ?_;rintro e d⟨rfl,rfl⟩;go_wp2;go_ret;exact⟨by rw[m.out];rfl,f⟩
   cases b3
   case true=>
    cases b4
    case true=>
     cases b5
     case true=>
      go_wp2_with fail;refine(i.out _).mono ?_;rintro e d⟨rfl,rfl⟩;go_wp2_with fail;refine(H.out _).mono ?_;rintro e d⟨rfl,rfl⟩;go_wp2_with fail;refine(M.out _).mono ?_;rintro e d⟨rfl,rfl⟩;go_wp2_with fail;refine(S.out _).mono ?_;rintro e d⟨rfl,rfl⟩;go_wp2_with fail;refine(P.out _).mono ?_;rintro e d⟨rfl,rfl⟩;go_wp2_with fail;refine(O3.out _).mono ?_;rintro e d⟨rfl,rfl⟩;go_wp2_with fail;refine(Z.out _).mono ?_;rintro e d⟨rfl,rfl⟩;go_wp2;go_ret;exact⟨by rw[m.out];rfl,f⟩
     go_wp2_with fail;refine(i.out _).mono ?_;rintro e d⟨rfl,rfl⟩;go_wp2_with fail;refine(H.out _).mono ?_;rintro e d⟨rfl,rfl⟩;go_wp2_with fail;refine(M.out _).mono ?_;rintro e d⟨rfl,rfl⟩;go_wp2_with fail;refine(S.out _).mono ?_;rintro e d⟨rfl,rfl⟩;go_wp2_with fail;refine(P.out _).mono ?_;rintro e d⟨rfl,rfl⟩;go_wp2_with fail;refine(O3.out _).mono ?_;rintro e d⟨rfl,rfl⟩;go_wp2_with fail;refine(Z.out _).mono ?_;rintro e d⟨rfl,rfl⟩;go_wp2;go_ret;exact⟨by rw[m.out];rfl,f⟩
    go_wp2_with fail;refine(i.out _).mono ?_;rintro e d⟨rfl,rfl⟩;go_wp2_with fail;refine(H.out _).mono ?_;rintro e d⟨rfl,rfl⟩;go_wp2_with fail;refine(M.out _).mono ?_;rintro e d⟨rfl,rfl⟩;go_wp2_with fail;refine(S.out _).mono ?_;rintro e d⟨rfl,rfl⟩;go_wp2_with fail;refine(P.out _).mono ?_;rintro e d⟨rfl,rfl⟩;go_wp2;go_ret;exact⟨by rw[m.out];rfl,f⟩
   go_wp2_with fail;refine(i.out _).mono ?_;rintro e d⟨rfl,rfl⟩;go_wp2_with fail;refine(H.out _).mono ?_;rintro e d⟨rfl,rfl⟩;go_wp2_with fail;refine(M.out _).mono ?_;rintro e d⟨rfl,rfl⟩;go_wp2;go_ret;exact⟨by rw[m.out];rfl,f⟩
  cases b6
  case true=>
   cases b7
   case true=>
    go_wp2_with fail;refine(i.out _).mono ?_;rintro e d⟨rfl,rfl⟩;go_wp2_with fail;refine(N.out _).mono ?_;rintro e d⟨rfl,rfl⟩;go_wp2_with fail;refine(L.out _).mono ?_;rintro e d⟨rfl,rfl⟩;go_wp2_with fail;refine(Q.out _).mono ?_;rintro e d⟨rfl,rfl⟩;go_wp2;go_ret;exact⟨by rw[m.out];rfl,f⟩
   cases b8
   case true=>
    go_wp2_with fail;refine(i.out _).mono ?_;rintro e d⟨rfl,rfl⟩;go_wp2_with fail;refine(N.out _).mono ?_;rintro e d⟨rfl,rfl⟩;go_wp2_with fail;refine(L.out _).mono ?_;rintro e d⟨rfl,rfl⟩;go_wp2_with fail;refine(Q.out _).mono ?_;rintro e d⟨rfl,rfl⟩;go_wp2_with fail;refine(M8.out _).mono ?_;rintro e d⟨rfl,rfl⟩;go_wp2;go_ret;exact⟨by rw[m.out];rfl,f⟩
   go_wp2_with fail;refine(i.out _).mono ?_;rintro e d⟨rfl,rfl⟩;go_wp2_with fail;refine(N.out _).mono ?_;rintro e d⟨rfl,rfl⟩;go_wp2_with fail;refine(L.out _).mono ?_;rintro e d⟨rfl,rfl⟩;go_wp2_with fail;refine(Q.out _).mono ?_;rintro e d⟨rfl,rfl⟩;go_wp2_with fail;refine(M8.out _).mono ?_;rintro e d⟨rfl,rfl⟩;go_wp2;go_ret;exact⟨by rw[m.out];rfl,f⟩
  go_wp2_with fail;refine(i.out _).mono ?_;rintro e d⟨rfl,rfl⟩;go_wp2_with fail;refine(N.out _).mono ?_;rintro e d⟨rfl,rfl⟩;go_wp2_with fail;refine(L.out _).mono ?_;rintro e d⟨rfl,rfl⟩;go_wp2;go_ret;exact⟨by rw[m.out];rfl,f⟩
 .have h0:l=[]:=List.eq_nil_of_length_eq_zero (by omega);subst h0;go_enter func185,ntmps185;go_wp2;go_ret;exact⟨rfl,C.out⟩
theorem C9{T:aj}{l:List Int}(h:aS T l=0):l.length<=4096:=by
 have:=(qy h).2;omega
theorem Qs(ht:aN w t T)(q:au w ⟨A,n,c⟩ l)(g:aS T l=0):
 cE' 184 #[t.v,.slice A n c] w (.bool (kM T l)):=by
 have a:=dI w t;have i:=ah a;have k:=ah (ht.ay a);have m:=ah (q.ext a);have o:=ah g;have M:=ah (qV _ 14 _ (qW [1,2,3] (bM T l) (by unfold InB;decide) (BX (qy g).1 l) 14 (by decide)));have r:Hid (∀w',Ext (tW' w t) w'->cE' 239 #[t.v,.slice A n c] w' (.int .i64 ((dY (bM T l):Nat):Int))):=ah (λw' h=>H6 T t l A n c w' (k.out.ay h) (m.out.ext h) (qy o.out).1 (C9 o.out));have s:Hid (kM T l=eX [1,2,3] (bM T l)):=rfl;generalize eX [1,2,3] (bM T l)=b1 at*;generalize((dY (bM T l):Nat):Int)=Dy at*;have p:=ah (qo t T l A n c _ k.out m.out);rw[g]at p;clear ht q a g;go_enter func184,ntmps184;go_wp2_with fail;refine p.out.mono ?_;rintro e z⟨v,rfl,b,_⟩;have d:=ah b;have x:=bT' t b;clear b;go_wp2_with fail;refine(r.out _ d.out).mono ?_;rintro e B⟨rfl,f⟩;have y:=(i.out.trans' d.out).trans' f;clear x f;go_wp2_with fail;refine(M.out.out _).mono ?_;rintro e C⟨rfl,rfl⟩;go_wp2;go_ret;exact⟨by rw[s.out];rfl,y⟩
theorem Cb{w w':World}{s:SV}{ls:List (List Int)}(h:jR w s ls)(a:Ext w w'):jR w' s ls:=h.ext a
theorem QE{α:Type}(p:α->Bool)(l:List α)(k:Nat)(a:k<l.length):(l.take (k+1)).any p=((l.take k).any p||p l[k]):=by
 rw[tS' a,List.any_append];simp
theorem Qx{T:aj}{ls:List (List Int)}{k:Nat}(a:k<ls.length):frR T k (ls.drop k)=if vT (bM T ls[k])≠0 then(k:Int)else frR T ((k+1:Nat):Int) (ls.drop (k+1)):=by
 rw[drop_at ls k a];rfl
def Qy(T:aj)(w0:World)(ls:List (List Int))(gh:Nat)(s6 s15:Value)(wx:World):Prop:=
 ∃(k:Nat),k+gh=ls.length/\s15=.int .i64 k/\s6=.bool ((ls.take k).any (kM T))/\Hid (Ext w0 wx)
def Hf(T:aj)(w0:World)(ls:List (List Int))(gh:Nat)(s39:Value)(wx:World):Prop:=
 ∃(k:Nat),k+gh=ls.length/\s39=.int .i64 k/\Hid (ls.any (kM T)=true->frR T k (ls.drop k)=frR T 0 ls)/\Hid (Ext w0 wx)
theorem Qu{T:aj}{ls:List (List Int)}{k:Nat}(c:ls.any (kM T)=true)(b:frR T 0 ls=(k:Int)):pW T ls=k/\oG T ls=19:=by
 have a:ls.any (kM T)=true/\frR T 0 ls≠ -1:=⟨c,by rw[b];omega⟩;unfold pW oG;rw[pP' a,pP' a,b];exact⟨rfl,rfl⟩
theorem He{T:aj}{ls:List (List Int)}(h:ls.any (kM T)=true->frR T 0 ls= -1):pW T ls=0/\oG T ls=0:=by
 have a:¬(ls.any (kM T)=true/\frR T 0 ls≠ -1):=λb=>b.2 (h b.1)
 unfold pW oG;rw[nN' a,nN' a];exact⟨rfl,rfl⟩
def Qv(w:World)(T:aj)(ls:List (List Int))(e:Ending)(w':World):Prop:=e=.returned (.tuple #[.int .i64 (pW T ls),.int .i64 (oG T ls)])/\Ext w w'
theorem Qw(ls:List (List Int))(A:Option Addr)(n c:Nat)(w:World)(ht:aN w t T)(hi:jR w ⟨A,n,c⟩ ls)(hw:bC T=true)(g:∀l∈ls,aS T l=0)(hm:ls.length<=1000000):
 Calls prog 117 #[t.v,.slice A n c] w (Qv w T ls):=by
 have j:=dI w t;have z:=ah j;have Z:=ah (ht.ay j);have HI:=ah (hi.ext j);have HW:=ah hw;have HZ:=ah g;have HM:=ah hm;have hn:=hi.len.1;subst hn;clear ht hi j hw g hm;go_enter func117,ntmps117;go_wp2;go_loopg[6,15] ls.length (λI s6 a1 J=>Qy T (tW' w t) ls I s6 a1 J);exact⟨0,by omega,rfl,rfl,ah eR'⟩;obtain⟨k,K,rfl,rfl,a⟩:=hrel;have B:=bT' t a.out;have ad:ls.length<=1000000:=HM.out;by_cases m:k<ls.length
 .obtain⟨f,rfl⟩:=gS' gk;obtain⟨b,o,M,N,O,rfl,P,g⟩:=(Cb HI.out a.out).at_ m;have Q:=ah g;have X:=ah (QE (kM T) ls k m);have R:=ah (HZ.out _ (gM' m));clear g;generalize ls[k]=x at*;have HO:=ah (qo t T x M N O wr (Z.out.ay a.out) Q.out);rw[R.out]at HO;have S:=z0' k;have U:(k:Int)<(ls.length:Int):=by omega
  go_wp2_with fail;refine HO.out.mono ?_;rintro e w1⟨v,rfl,C,_⟩;have q:=ah (a.out.trans' C);have gU:=ah C;clear B C HO;have B:=bT' t q.out;have iC:=ah (Qs T t x M N O w1 (Z.out.ay q.out) (Q.out.ext gU.out) R.out);generalize kM T x=p at*;cases i:(ls.take k).any (kM T)
  .rw[i]at X;clear i;go_wp2_with fail;refine iC.out.mono ?_;rintro e w2⟨rfl,d⟩;have D:=ah (q.out.trans' d);clear d B;go_wp2;go_roundg f;exact⟨k+1,by omega,by go_num,by rw[X.out];rfl,D⟩;omega
  .rw[i]at X;clear i;go_wp2;go_roundg f;exact⟨k+1,by omega,by go_num,by rw[X.out];rfl,q⟩;omega
 .have HE:Hid (ls.take k=ls):=ah (tL' (by omega));rw[HE.out];clear B;cases i:ls.any (kM T)
  .have Y:=ah i;have y:=ah (He (T:=T) (ls:=ls) (λh=>by rw[i]at h;cases h));clear i;go_wp2;go_loopg[39] ls.length (λI E J=>Hf T (tW' w t) ls I E J);exact⟨0,by omega,rfl,ah (λ_=>rfl),a⟩;obtain⟨k,K,rfl,G,a⟩:=hrel;have F:=z.out.trans' a.out;by_cases m:k<ls.length
   .obtain⟨f,rfl⟩:=gS' gk;obtain⟨b,o,M,N,O,rfl,P,g⟩:=(Cb HI.out a.out).at_ m;have S:=z0' k;have U:(k:Int)<(ls.length:Int):=(by omega);clear g F;go_wp2;go_roundg f;exact⟨k+1,by omega,by go_num,ah (λh=>by rw[Y.out]at h;cases h),a⟩;omega
   .go_wp2;go_ret2;exact⟨by rw[y.out.1,y.out.2];rfl,F⟩
  .have Y:=ah i;clear i;go_wp2;go_loopg[39] ls.length (λI E J=>Hf T (tW' w t) ls I E J);exact⟨0,by omega,rfl,ah (λ_=>rfl),a⟩;obtain⟨k,K,rfl,G,a⟩:=hrel;have F:=z.out.trans' a.out;by_cases m:k<ls.length
   .obtain⟨f,rfl⟩:=gS' gk;obtain⟨b,o,M,N,O,rfl,P,g⟩:=(Cb HI.out a.out).at_ m;have s:=ah (Qx (T:=T) m);have V:=ah (Qr T t ls[k] M N O wr (Z.out.ay a.out) g HW.out (C9 (HZ.out _ (gM' m))));clear g F;generalize ls[k]=x at*;generalize vT (bM T x)=r at*;have B:=bT' t a.out;have S:=z0' k;have U:(k:Int)<(ls.length:Int):=(by omega);by_cases H:r=0
    .have e1:(r != 0)=false:=bZ' H
     have a3:Hid (ls.any (kM T)=true->frR T ((k+1:Nat):Int) (ls.drop (k+1))=frR T 0 ls):=ah (λh=>by
      have W:=s.out;rw[nN' (by rw[H];simp)]at W
      rw[<- W];exact G.out h)
     clear H s G;go_wp2_with fail;refine V.out.mono ?_;rintro e w2⟨rfl,d⟩;have D:=ah (a.out.trans' d);clear d B;go_wp2;go_roundg f;exact⟨k+1,by omega,by go_num,a3,D⟩;omega
    .have e1:(r != 0)=true:=bN' H
     have y:Hid (pW T ls=k/\oG T ls=19):=ah (by
      have W:=s.out;rw[pP' H]at W
      exact Qu Y.out ((G.out Y.out).symm.trans W))
     clear H s G;go_wp2_with fail;refine V.out.mono ?_;rintro e w2⟨rfl,d⟩;have F:=(z.out.trans' a.out).trans' d;clear d B;go_wp2;go_ret2;exact⟨by rw[y.out.1,y.out.2];rfl,F⟩
   .have y:=ah (He (T:=T) (ls:=ls) (λh=>by rw[<- G.out h,List.drop_of_length_le (by omega)];rfl));go_wp2;go_ret2;exact⟨by rw[y.out.1,y.out.2];rfl,F⟩
theorem au.Hu{w:World}{s z:SV}{l:List Int}(h:au w s l){p:Addr}(c:w.cell? p=some z.v)(v:Value):au (w.setCell p v) s l:=
 ⟨h.1,λi x d=>by
  obtain⟨b,o,f,a⟩:=h.2 i x d;refine⟨b,o,f,?_⟩;rw[World.cell?_setCell_other _ _ _ _ (λe=>?_)]
  .exact a
  .subst e;rw[a]at c
   cases c⟩
structure LsP(w0 w:World)(g N C:Nat)(S:List SV)(ls:List (List Int)):Prop where
 own:uH w w0.heap.size (some ⟨g,0,none⟩) N C S
 eq:S.length=N
 len:ls.length=N
 ok:∀(i:Nat)s x,S[i]? =some s->ls[i]? =some x->au w s x
 ext:Ext w0 w
theorem vS.lsp{a w:World}{A:Option Addr}{N C:Nat}{ls:List (List Int)}(h:vS a w A N C ls)(l:Ext a w):∃g S,A=some ⟨g,0,none⟩/\LsP a w g N C S ls:=by
 obtain⟨g,S,rfl,b,c,d,f⟩:=h;exact⟨g,S,rfl,b,c,d,λi s x j k=>(f i s x j k).1,l⟩
theorem LsP.ay{b w w':World}{g N C:Nat}{S:List SV}{ls:List (List Int)}(h:LsP b w g N C S ls)(a:Ext w w'):LsP b w' g N C S ls:=
 ⟨Own.ext h.own a,h.eq,h.len,λi s x c d=>(h.ok i s x c d).ext a,h.ext.trans' a⟩
theorem LsP.lists{l w:World}{g N C:Nat}{S:List SV}{ls:List (List Int)}(h:LsP l w g N C S ls):jR w ⟨some ⟨g,0,none⟩,N,C⟩ ls:=by
 obtain⟨j,k⟩:=Own.le h.own;have m:=h.eq;have d:=h.len;refine⟨⟨d.symm,by rw[d];exact j,k⟩,λi x f=>?_⟩;have o:=(List.getElem?_eq_some_iff.1 f).1;have b:i<S.length:=by omega
 refine⟨g,0,S[i].a,S[i].n,S[i].c,rfl,?_,h.ok i S[i] x (List.getElem?_eq_getElem b) f⟩;have:=World.ownsRow.cellAt h.own i (by simp;omega);rw[Nat.zero_add,this,List.getElem?_map,List.getElem?_eq_getElem b];rfl
theorem LsP.set{m w:World}{g N C:Nat}{S:List SV}{ls:List (List Int)}(h:LsP m w g N C S ls){i:Nat}(q:i<N){z:SV}{x:List Int}(p:au w z x):LsP m (w.setCell ⟨g,i,none⟩ z.v) g N C (S.set i z) (ls.set i x):=by
 have n:=h.eq;have o:=h.len;have c:i<S.length:=by omega
 have d:=Own.lt h.own g rfl;have k:w.cell? ⟨g,i,none⟩=some (S[i]).v:=by
  have:=World.ownsRow.cellAt h.own i (by simp;omega);rw[this,List.getElem?_map,List.getElem?_eq_getElem c];rfl
 have f:=World.ownsRow.stored h.own i z.v;refine⟨?_,by simp[n],by simp[o],λj s y a b=>?_,h.ext.lG d.1 _⟩
 .have:=f.1;unfold uH Own;rw[List.map_set];exact this
 .by_cases l:j=i
  .subst l;rw[List.getElem?_set_self (by omega)]at a b;injection a with a;injection b with b;subst a b;exact p.Hu k _
  .rw[List.getElem?_set_ne (λe=>l e.symm)]at a b;exact(h.ok j s y a b).Hu k _
end Go.Proofs.YtpmgophlhmcogaaGreatDoor
