/- Part Bw23. -/
import Derived.Test.YtljilcbobhmkgaaGreatDoorBw20
import Derived.Deep.LoopGhost
import Derived.Deep.CutRange
open Go.Proofs.Tryz
namespace Go.Proofs.YtljilcbobhmkgaaGreatDoor
set_option maxHeartbeats 25600000
set_option maxRecDepth 100000
open Go.RowKit
def jnG:Bool->List (List Int)->List Int
 |_,[]=>[]
 |f,x::r=>(if f then x else 46::x)++jnG false r
def jnL(ls:List (List Int)):List Int:=jnG true ls
theorem LM{ls:List (List Int)}{k:Nat}(h:k<ls.length):jnG (k==0) (ls.drop k)=(if(k==0)=true then ls[k]else 46::ls[k])++jnG (k+1==0) (ls.drop (k+1)):=by
 rw[drop_at ls k h];rfl
theorem CJ.lists{o w:World}{A:Option Addr}{N C:Nat}{ls:List (List Int)}(h:CJ o w A N C ls):oZ w ⟨A,N,C⟩ ls:=by
 obtain⟨g,S,rfl,d,p,f,k⟩:=h;obtain⟨l,m⟩:=Own.le d;refine⟨⟨f.symm,by rw[f];exact l,m⟩,λi x j=>?_⟩;have q:=(List.getElem?_eq_some_iff.1 j).1;have b:i<S.length:=by omega
 refine⟨g,0,S[i].a,S[i].n,S[i].c,rfl,?_,(k i S[i] x (List.getElem?_eq_getElem b) j).1⟩;have:=World.ownsRow.cellAt d i (by omega);rw[Nat.zero_add,this];simp[b]
def lq(w:World)(s:SV)(ls:List (List Int)):Prop:=
 wG s ls.length/\∀i x,ls[i]? =some x->∃b o,s.a=some ⟨b,o,none⟩/\w.cell? ⟨b,o+i,none⟩=some (.string (sB x))
theorem lq.keep{w w':World}{s:SV}{l:List (List Int)}(h:lq w s l)(f:∀p:Addr,p.block<w.heap.size->w'.cell? p=w.cell? p):lq w' s l:=
 ⟨h.1,λi x a=>by obtain⟨b,o,c,d⟩:=h.2 i x a;exact⟨b,o,c,aY f d⟩⟩
theorem lq.ext{w w':World}{s:SV}{l:List (List Int)}(h:lq w s l)(a:Ext w w'):lq w' s l:=h.keep (bg a)
theorem lq.at_{A:Option Addr}{n c:Nat}{w:World}{l:List (List Int)}(h:lq w ⟨A,n,c⟩ l){i:Nat}(a:i<l.length):∃b o,A=some ⟨b,o,none⟩/\w.cell? ⟨b,o+i,none⟩=some (.string (sB l[i])):=
 h.2 i _ (List.getElem?_eq_getElem a)
def fbG:Nat->List (List Int)->Option (Int×Int)
 |_,[]=>none
 |k,x::r=>if x.length=0 then some (k,10)else if 63<x.length then some (k,11)else fbG (k+1) r
def kY:List (List Int)->Int
 |[]=>0
 |x::r=>x.length+kY r
def jm(ls:List (List Int)):Int×Int:=
 if ls.length=0 then(0,10)else match fbG 0 ls with
  |some p=>p
  |none=>if 127<(ls.length:Int)\/253<(ls.length:Int)-1+kY ls then(0,11)else(0,0)
theorem TA{ls:List (List Int)}{k:Nat}(h:k<ls.length):fbG k (ls.drop k)=if ls[k].length=0 then some ((k:Int),10)else if 63<ls[k].length then some ((k:Int),11)else fbG (k+1) (ls.drop (k+1)):=by
 rw[drop_at ls k h];rfl
theorem Tt(a:List (List Int))(x:List Int):kY (a++[x])=kY a+x.length:=by
 induction a with
 |nil=>simp[kY]
 |cons y a ih=>simp[kY,ih];omega
theorem TI:∀(ls:List (List Int)),((jnG false ls).length:Int)=ls.length+kY ls
 |[]=>rfl
 |x::r=>by
  have:=TI r;show(((46::x)++jnG false r).length:Int)=_
  simp only[lA',List.length_cons,kY];omega
theorem GL{ls:List (List Int)}(h:ls≠[]):((jnL ls).length:Int)=(ls.length:Int)-1+kY ls:=by
 cases ls with
 |nil=>exact absurd rfl h
 |cons x r=>
  have:=TI r;show((x++jnG false r).length:Int)=_
  simp only[lA',List.length_cons,kY];omega
theorem LP{ls:List (List Int)}(h:(jm ls).2=0):ls≠[]/\ls.length<=127/\(jnL ls).length<=253/\(jm ls).1=0:=by
 unfold jm at h |-;split at h
 .cases h
 .rename_i d;rw[nN' d];have a:ls≠[]:=λe=>d (by rw[e];rfl)
  have g:=GL a;cases b:fbG 0 ls with
  |some p=>
   rw[b]at h;exfalso;have c:∀(l:List (List Int))(k:Nat)(p:Int×Int),fbG k l=some p->p.2≠0:=by
    intro l
    induction l with
    |nil=>intro k p h;cases h
    |cons y r ih=>
     intro k p h;unfold fbG at h;split at h
     .injection h with h;subst h;simp
     .split at h
      .injection h with h;subst h;simp
      .exact ih _ _ h
   exact c ls 0 p b h
  |none=>
   rw[b]at h;simp only at h |-;split at h
   .cases h
   .rename_i f;rw[nN' f];exact⟨a,by omega,by omega,rfl⟩
def oI(ls:List (List Int)):List Int×Int:=if(jm ls).2≠0 then([],(jm ls).2)else(jnL ls,0)
theorem LK:∀(ls:List (List Int))(k:Nat),fbG k ls=none->∀x∈ls,0<x.length/\x.length<=63
 |[],_,_,x,a=>by cases a
 |y::r,k,h,x,a=>by
  unfold fbG at h;split at h
  .cases h
  .split at h
   .cases h
   .rcases List.mem_cons.1 a with rfl|a
    .omega
    .exact LK r _ h x a
def aN4(w:World)(ls:List (List Int))(g:Nat)(s3 s8:Value)(wx:World):Prop:=
 ∃(A:Option Addr)(n c k:Nat)(acc:List Int),g+k=ls.length/\s8=.int .i64 k/\s3=.slice A n c/\Hid (n=acc.length)/\n<=1000000/\aK wx w.heap.size A n c acc/\Ext w wx/\Hid (jnL ls=acc++jnG (k==0) (ls.drop k))
theorem aNA(ls:List (List Int))(A:Option Addr)(n c:Nat)(w:World)(D:oZ w ⟨A,n,c⟩ ls)(hm:(jnL ls).length<=1000000):Calls prog 115 #[.slice A n c] w (Nu w (jnL ls)):=by
 have V:=D.len.1;have X:=D.len.2;subst V;have Y:=ah D;clear D;go_enter func115,ntmps115;go_wp2;go_loopg[3,8] ls.length (λZ s3 s8 wx=>aN4 w ls Z s3 s8 wx);exact⟨none,0,0,0,[],by omega,rfl,rfl,rfl,by omega,Own.nil_ _ _ _ _,eR',rfl⟩;obtain⟨B,m,d,k,g,hg,rfl,rfl,E,a3,s,J,F⟩:=hrel;have y:=ah s;have t:=ah J;clear s J;by_cases G:k<ls.length
 .obtain⟨b,o,za,H,zc,hA,I,M⟩:=Y.out.at_ G;subst hA;have a5:=aY (bg t.out) I;have K:=ah (LM G);have U:=ah (λW(h:Ext w W)=>M.ext h);have L:=M.len.1;clear M I;generalize ls[k]=x at*;by_cases q:k=0
  .have hd:decide ((0:Int)<(k:Int))=false:=dF';have N:decide (0<k)=false:=dF';have l:=aI F (show _=(g++x)++jnG (k+1==0) (ls.drop (k+1))from by rw[K.out,pP' (by rw[bq'];exact q),List.append_assoc]);have z:m+H<=1000000:=by
    have O:=congrArg List.length l.out;simp only[lA']at O;have h2:=E.out;omega
   obtain⟨P,Q,R,j,a,f,_⟩:=fQ y.out (U.out wr t.out) (by omega) t.out.b.size;have S:Hid (Ext w R):=ah (dV t.out f (λk G=>(Own.lt y.out k G).1));have T:=ah a;have C:Hid (m+H=(g++x).length):=ah (by rw[lA',E.out,L]);clear a f F K y t L E q;go_wp2_with(at_builtin;refine dA rfl _ _ _ rfl _ _ rfl rfl _ _ j ?_);go_roundg (ls.length-(k+1));exact⟨P,m+H,Q,k+1,g++x,by omega,by go_num,rfl,C,z,T.out,S.out,l⟩;omega
  .have hd:decide ((0:Int)<(k:Int))=true:=dT';have N:decide (0<k)=true:=dT';have l:=aI F (show _=((g++[46])++x)++jnG (k+1==0) (ls.drop (k+1))from by rw[K.out,nN' (by rw[bq'];exact q)];simp);have z:m+1+H<=1000000:=by
    have O:=congrArg List.length l.out;simp only[lA',List.length_singleton]at O;have h2:=E.out;omega
   obtain⟨A4,c4,w4,p,i,r,_⟩:=xA y.out t.out 46 (by omega);obtain⟨P,Q,R,j,a,f,_⟩:=fQ i (U.out w4 r) (by omega) r.b.size;have S:Hid (Ext w R):=ah (dV r f (λk G=>(Own.lt i k G).1));have T:=ah a;have C:Hid (m+1+H=((g++[46])++x).length):=ah (by simp only[lA',List.length_singleton];rw[E.out,L]);clear a f F K y t L E q i r
   go_wp2_with(at_builtin;first
    |(refine dA rfl _ _ _ rfl _ _ rfl rfl _ _ p ?_;clear p)
    |(refine dA rfl _ _ _ rfl _ _ rfl rfl _ _ j ?_;clear j))
   go_roundg (ls.length-(k+1));exact⟨P,m+1+H,Q,k+1,(g++[46])++x,by omega,by go_num,rfl,C,z,T.out,S.out,l⟩;omega
 .have HF:Hid (jnL ls=g):=ah (by rw[F.out,bM ls k (by omega)];simp[jnG]);have D:=aK.ints y.out;have J:=t.out;clear F y;go_wp2;go_ret;exact⟨B,_,d,rfl,by rw[HF.out];exact D,J⟩
def aNK(w:World)(ls:List (List Int))(g:Nat)(s3 s8:Value)(wx:World):Prop:=
 ∃(A:Option Addr)(n c k:Nat)(acc:List Int),g+k=ls.length/\s8=.int .i64 k/\s3=.slice A n c/\Hid (n=acc.length)/\n<=1000000/\aK wx w.heap.size A n c acc/\Ext w wx/\Hid (jnL ls=acc++jnG (k==0) (ls.drop k))
theorem aNU(ls:List (List Int))(A:Option Addr)(n c:Nat)(w:World)(D:oZ w ⟨A,n,c⟩ ls)(hm:(jnL ls).length<=1000000):Calls prog 159 #[.slice A n c] w (Nu w (jnL ls)):=by
 have V:=D.len.1;have X:=D.len.2;subst V;have Y:=ah D;clear D;go_enter func159,ntmps159;go_wp2;go_loopg[3,8] ls.length (λZ s3 s8 wx=>aNK w ls Z s3 s8 wx);exact⟨none,0,0,0,[],by omega,rfl,rfl,rfl,by omega,Own.nil_ _ _ _ _,eR',rfl⟩;obtain⟨B,m,d,k,g,hg,rfl,rfl,E,a3,s,J,F⟩:=hrel;have y:=ah s;have t:=ah J;clear s J;by_cases G:k<ls.length
 .obtain⟨b,o,za,H,zc,hA,I,M⟩:=Y.out.at_ G;subst hA;have a5:=aY (bg t.out) I;have K:=ah (LM G);have U:=ah (λW(h:Ext w W)=>M.ext h);have L:=M.len.1;clear M I;generalize ls[k]=x at*;by_cases q:k=0
  .have hd:decide ((0:Int)<(k:Int))=false:=dF';have N:decide (0<k)=false:=dF';have l:=aI F (show _=(g++x)++jnG (k+1==0) (ls.drop (k+1))from by rw[K.out,pP' (by rw[bq'];exact q),List.append_assoc]);have z:m+H<=1000000:=by
    have O:=congrArg List.length l.out;simp only[lA']at O;have h2:=E.out;omega
   obtain⟨P,Q,R,j,a,f,_⟩:=fQ y.out (U.out wr t.out) (by omega) t.out.b.size;have S:Hid (Ext w R):=ah (dV t.out f (λk G=>(Own.lt y.out k G).1));have T:=ah a;have C:Hid (m+H=(g++x).length):=ah (by rw[lA',E.out,L]);clear a f F K y t L E q;go_wp2_with(at_builtin;refine dA rfl _ _ _ rfl _ _ rfl rfl _ _ j ?_);go_roundg (ls.length-(k+1));exact⟨P,m+H,Q,k+1,g++x,by omega,by go_num,rfl,C,z,T.out,S.out,l⟩;omega
  .have hd:decide ((0:Int)<(k:Int))=true:=dT';have N:decide (0<k)=true:=dT';have l:=aI F (show _=((g++[46])++x)++jnG (k+1==0) (ls.drop (k+1))from by rw[K.out,nN' (by rw[bq'];exact q)];simp);have z:m+1+H<=1000000:=by
    have O:=congrArg List.length l.out;simp only[lA',List.length_singleton]at O;have h2:=E.out;omega
   obtain⟨A4,c4,w4,p,i,r,_⟩:=xA y.out t.out 46 (by omega);obtain⟨P,Q,R,j,a,f,_⟩:=fQ i (U.out w4 r) (by omega) r.b.size;have S:Hid (Ext w R):=ah (dV r f (λk G=>(Own.lt i k G).1));have T:=ah a;have C:Hid (m+1+H=((g++[46])++x).length):=ah (by simp only[lA',List.length_singleton];rw[E.out,L]);clear a f F K y t L E q i r
   go_wp2_with(at_builtin;first
    |(refine dA rfl _ _ _ rfl _ _ rfl rfl _ _ p ?_;clear p)
    |(refine dA rfl _ _ _ rfl _ _ rfl rfl _ _ j ?_;clear j))
   go_roundg (ls.length-(k+1));exact⟨P,m+1+H,Q,k+1,(g++[46])++x,by omega,by go_num,rfl,C,z,T.out,S.out,l⟩;omega
 .have HF:Hid (jnL ls=g):=ah (by rw[F.out,bM ls k (by omega)];simp[jnG]);have D:=aK.ints y.out;have J:=t.out;clear F y;go_wp2;go_ret;exact⟨B,_,d,rfl,by rw[HF.out];exact D,J⟩
def aNL(w:World)(ls:List (List Int))(g:Nat)(s14:Value)(wx:World):Prop:=
 ∃k:Nat,g+k=ls.length/\s14=.int .i64 k/\wx=w/\Hid (fbG 0 ls=fbG k (ls.drop k))
def aNR(w:World)(ls:List (List Int))(g:Nat)(s6 s32:Value)(wx:World):Prop:=
 ∃(k:Nat)(u:Int),g+k=ls.length/\s32=.int .i64 k/\s6=.int .i64 u/\wx=w/\Hid (u=(ls.length:Int)-1+kY (ls.take k))/\ -1<=u/\u<=ls.length+63*k
def IE2(d:Int×Int)(e:Ending):Prop:=e=.returned (.tuple #[.int .i64 d.1,.int .i64 d.2])
theorem TG(ls:List (List Int))(A:Option Addr)(n c:Nat)(w:World)(M:lq w ⟨A,n,c⟩ ls)(hm:ls.length<=1000000):Calls prog 179 #[.slice A n c] w λe w'=>IE2 (jm ls) e/\w=w':=by
 have h:Hid (jm ls=if ls.length=0 then(0,10)else match fbG 0 ls with
  |some p=>p
  |none=>if 127<(ls.length:Int)\/253<(ls.length:Int)-1+kY ls then(0,11)else(0,0)):=rfl
 generalize jm ls=D at*;have Q:n=ls.length:=M.1.1;subst Q;have N:=ah M;clear M;by_cases t:ls.length=0
 .rw[pP' t]at h;have R:((ls.length:Int)==0)=true:=by rw[bq'];omega
  have S:(ls.length==0)=true:=by rw[bq'];omega
  clear t;go_enter func179,ntmps179;go_wp2;go_ret2;exact⟨by rw[h.out];rfl,rfl⟩
 rw[nN' t]at h;have R:((ls.length:Int)==0)=false:=bF';have S:(ls.length==0)=false:=bF';go_enter func179,ntmps179;go_wp2;go_loopg[14] ls.length (λy z B=>aNL w ls y z B);exact⟨0,by omega,rfl,rfl,rfl⟩;obtain⟨k,hg,rfl,rfl,q⟩:=hrel;by_cases O:k<ls.length
 .obtain⟨b,o,C,E⟩:=N.out.at_ O;subst C;have i:=ah (TA O);have l:=sO ls[k];have r:ls[k].isEmpty=decide (ls[k].length=0):=by cases ls[k]<;>simp
  rw[r]at l;generalize ls[k]=x at*;clear r;by_cases d:x.length=0
  .have f:Hid (D=((k:Int),10)):=ah (by rw[h.out,q.out,i.out,pP' d]);rw[dt' d]at l;go_wp2;go_ret2;exact⟨by rw[f.out];rfl,rfl⟩
  rw[df' d]at l;by_cases P:63<x.length
  .have f:Hid (D=((k:Int),11)):=ah (by rw[h.out,q.out,i.out,nN' d,pP' P]);go_wp2;go_ret2;exact⟨by rw[f.out];rfl,rfl⟩
  .have f:=aI q (i.out.trans (by rw[nN' d,nN' P]));clear q i;go_wp2;go_roundg (ls.length-(k+1));exact⟨k+1,by omega,by go_num,rfl,f⟩;omega
 .have m:fbG 0 ls=none:=by rw[q.out,bM ls k (by omega)];rfl
  rw[m]at h;have a:Hid (D=if 127<(ls.length:Int)\/253<(ls.length:Int)-1+kY ls then(0,11)else(0,0)):=h;have T:=ah (LK ls 0 m);clear h q m;go_wp2;go_loopg[6,32] ls.length (λy U F B=>aNR wr ls y U F B);exact⟨0,_,by omega,rfl,rfl,rfl,ah (by simp[kY]),by omega,by omega⟩;obtain⟨j,u,V,rfl,rfl,rfl,s,W,X⟩:=hrel;by_cases G:j<ls.length
  .obtain⟨b,o,C,E⟩:=N.out.at_ G;subst C;have i:Hid (kY (ls.take (j+1))=kY (ls.take j)+ls[j].length):=ah (by rw[tS' G,Tt]);have Y:=T.out _ (gM' G);generalize ls[j]=x at*;have H:Hid (u+x.length=(ls.length:Int)-1+kY (ls.take (j+1))):=ah (by rw[i.out];have:=s.out;omega);clear s i;go_wp2;go_roundg (ls.length-(j+1));exact⟨j+1,_,by omega,by go_num,rfl,rfl,H,by omega,by omega⟩;omega
  .have I:=s.out;rw[tL' (by omega)]at I;rw[<- I]at a;clear s I;by_cases g:127<(ls.length:Int)
   .rw[pP' (.inl g)]at a;have Z:decide (127<(ls.length:Int))=true:=(by rw[au];exact g);have J:decide (127<ls.length)=true:=dT';go_wp2;go_ret2;exact⟨by rw[a.out];rfl,rfl⟩
   have Z:decide (127<(ls.length:Int))=false:=(by rw[aA];exact g);have J:decide (127<ls.length)=false:=dF';by_cases K:253<u
   .rw[pP' (.inr K)]at a;have L:decide (253<u)=true:=(by rw[au];exact K);go_wp2;go_ret2;exact⟨by rw[a.out];rfl,rfl⟩
   .rw[nN' (by omega)]at a;have L:decide (253<u)=false:=(by rw[aA];exact K);go_wp2;go_ret2;exact⟨by rw[a.out];rfl,rfl⟩
def aNi(w:World)(ls:List (List Int))(g:Nat)(s4 s15:Value)(wx:World):Prop:=
 ∃(k:Nat)(u:Int),g+k=ls.length/\s15=.int .i64 k/\s4=.int .i64 u/\wx=w/\Hid (fbG 0 ls=fbG k (ls.drop k))/\Hid (u=(ls.length:Int)-1+kY (ls.take k))/\ -1<=u/\u<=ls.length+63*k
theorem TD(ls:List (List Int))(A:Option Addr)(n c:Nat)(w:World)(G:lq w ⟨A,n,c⟩ ls)(W:ls.length<=1000000):Calls prog 142 #[.slice A n c] w λe w'=>IE2 (jm ls) e/\w=w':=by
 have h:Hid (jm ls=if ls.length=0 then(0,10)else match fbG 0 ls with
  |some p=>p
  |none=>if 127<(ls.length:Int)\/253<(ls.length:Int)-1+kY ls then(0,11)else(0,0)):=rfl
 generalize jm ls=D at*;have J:n=ls.length:=G.1.1;subst J;have K:=ah G;clear G;by_cases s:ls.length=0
 .rw[pP' s]at h;have L:((ls.length:Int)==0)=true:=by rw[bq'];omega
  have M:(ls.length==0)=true:=by rw[bq'];omega
  clear s;go_enter func142,ntmps142;go_wp2;go_ret2;exact⟨by rw[h.out];rfl,rfl⟩
 rw[nN' s]at h;have L:((ls.length:Int)==0)=false:=bF';have M:(ls.length==0)=false:=bF';go_enter func142,ntmps142;go_wp2;go_loopg[4,15] ls.length (λN O t P=>aNi w ls N O t P);exact⟨0,_,by omega,rfl,rfl,rfl,rfl,ah (by simp[kY]),by omega,by omega⟩;obtain⟨k,u,V,rfl,rfl,rfl,j,q,Q,R⟩:=hrel;by_cases y:k<ls.length
 .obtain⟨b,o,S,T⟩:=K.out.at_ y;subst S;have r:=ah (TA y);have H:Hid (kY (ls.take (k+1))=kY (ls.take k)+ls[k].length):=ah (by rw[tS' y,Tt]);have i:=sO ls[k];have l:ls[k].isEmpty=decide (ls[k].length=0):=by cases ls[k]<;>simp
  rw[l]at i;generalize ls[k]=x at*;clear l;by_cases d:x.length=0
  .have f:Hid (D=((k:Int),10)):=ah (by rw[h.out,j.out,r.out,pP' d]);rw[dt' d]at i;go_wp2;go_ret2;exact⟨by rw[f.out];rfl,rfl⟩
  rw[df' d]at i;by_cases I:63<x.length
  .have f:Hid (D=((k:Int),11)):=ah (by rw[h.out,j.out,r.out,nN' d,pP' I]);go_wp2;go_ret2;exact⟨by rw[f.out];rfl,rfl⟩
  .have f:=aI j (r.out.trans (by rw[nN' d,nN' I]));have z:Hid (u+x.length=(ls.length:Int)-1+kY (ls.take (k+1))):=ah (by rw[H.out];have:=q.out;omega);clear j r q H;go_wp2;go_roundg (ls.length-(k+1));exact⟨k+1,_,by omega,by go_num,rfl,rfl,f,z,by omega,by omega⟩;omega
 .have m:fbG 0 ls=none:=by rw[j.out,bM ls k (by omega)];rfl
  rw[m]at h;have a:Hid (D=if 127<(ls.length:Int)\/253<(ls.length:Int)-1+kY ls then(0,11)else(0,0)):=h;have B:=q.out;rw[tL' (by omega)]at B;rw[<- B]at a;clear q B h j m;by_cases g:127<(ls.length:Int)
  .rw[pP' (.inl g)]at a;have U:decide (127<(ls.length:Int))=true:=(by rw[au];exact g);have C:decide (127<ls.length)=true:=dT';go_wp2;go_ret2;exact⟨by rw[a.out];rfl,rfl⟩
  have U:decide (127<(ls.length:Int))=false:=by rw[aA];exact g
  have C:decide (127<ls.length)=false:=dF';by_cases E:253<u
  .rw[pP' (.inr E)]at a;have F:decide (253<u)=true:=(by rw[au];exact E);go_wp2;go_ret2;exact⟨by rw[a.out];rfl,rfl⟩
  .rw[nN' (by omega)]at a;have F:decide (253<u)=false:=(by rw[aA];exact E);go_wp2;go_ret2;exact⟨by rw[a.out];rfl,rfl⟩
def aNf(w:World)(ls:List (List Int))(g:Nat)(s6 Aa:Value)(wx:World):Prop:=
 ∃(k:Nat)(acc:List Int),g+k=ls.length/\Aa=.int .i64 k/\s6=.string (sB acc)/\acc.length<=253/\wx=w/\Hid (jnL ls=acc++jnG (k==0) (ls.drop k))
theorem aNm(ls:List (List Int))(A:Option Addr)(n c:Nat)(w:World)(p:lq w ⟨A,n,c⟩ ls)(S:ls.length<=1000000):Calls prog 143 #[.slice A n c] w (xB w (oI ls)):=by
 have j:Hid (oI ls=if(jm ls).2≠0 then([],(jm ls).2)else(jnL ls,0)):=rfl;have y:=ah (TD ls A n c w p S);have g:=ah (@LP ls);generalize oI ls=D at*;generalize jm ls=C at*;obtain⟨T,F⟩:=C;have G:n=ls.length:=p.1.1;subst G;have H:=ah p;simp only at j g;clear p;go_enter func143,ntmps143;go_wp2_with fail;refine y.out.mono ?_;rintro e U⟨z,rfl⟩;unfold IE2 at z;subst z;by_cases q:F=0
 case neg=>
  rw[pP' q]at j;go_wp2;go_ret2;exact⟨by rw[j.out];rfl,eR'⟩
 rw[nN' (by rw[q];simp)]at j;subst q;have I:=(g.out rfl).2.2.1;clear g y;go_wp2;go_loopg[6,19] ls.length (λJ K L M=>aNf w ls J K L M);exact⟨0,[],by omega,rfl,rfl,by simp,rfl,rfl⟩;obtain⟨k,a,V,rfl,rfl,N,rfl,i⟩:=hrel;by_cases B:k<ls.length
 .obtain⟨b,o,O,P⟩:=H.out.at_ B;subst O;have m:=ah (LM B);generalize ls[k]=x at*;by_cases f:k=0
  .have Q:decide ((0:Int)<(k:Int))=false:=dF';have r:decide (0<k)=false:=dF';have d:=aI i (show _=(a++x)++jnG (k+1==0) (ls.drop (k+1))from by rw[m.out,pP' (by rw[bq'];exact f),List.append_assoc]);have l:=congrArg List.length d.out;simp only[lA']at l;have s:x.length<=253:=(by omega);have h:(a++x).length<=253:=(by rw[lA'];omega);clear i m f l;go_wp2;go_roundg (ls.length-(k+1));exact⟨k+1,a++x,by omega,by go_num,rfl,h,rfl,d⟩;omega
  .have Q:decide ((0:Int)<(k:Int))=true:=dT';have r:decide (0<k)=true:=dT';have d:=aI i (show _=(a++[46]++x)++jnG (k+1==0) (ls.drop (k+1))from by rw[m.out,nN' (by rw[bq'];exact f)];simp);have l:=congrArg List.length d.out;simp only[lA',List.length_singleton]at l;have s:x.length<=253:=(by omega);have t:(⟨#[46]⟩:ByteArray)=sB [46]:=rfl;have h:(a++[46]++x).length<=253:=(by simp only[lA',List.length_singleton];omega);have W:[(46:Int)].length<=1:=lr' _;have X:(a++[(46:Int)]).length<=254:=(by simp only[lA',List.length_singleton];omega);clear i m f l;generalize[(46:Int)]=E at*;go_wp2_with fail;clear t;go_roundg (ls.length-(k+1));exact⟨k+1,a++E++x,by omega,by go_num,by rw[List.append_assoc],h,rfl,d⟩;omega
 .have R:Hid (jnL ls=a):=ah (by rw[i.out,bM ls k (by omega)];simp[jnG]);clear i;go_wp2;go_ret2;exact⟨by rw[j.out,R.out];rfl,eR'⟩
theorem Pq(t:TV)(L:List Sp)(c:Int)(w:World)(h:bK w t.s6 L):
 cE' 60 #[t.v,.int .i64 c] w (.bool (fC L c==1)):=by
 have a:=h.ext ((Ext.refl w).ay (.cells t.v.cells 26));go_enter func60,ntmps60;go_wp2_with(go_at_call 97;refine(jf _ _ _ L _ _ a).mono ?_;rintro e d⟨rfl,b⟩);go_ret;exact⟨rfl,((Ext.refl w).ay _).trans' b⟩
structure PSt(we w0 w:World)(g tb bs q:Nat)(M:List Nat)(A:Option Addr)(n c:Nat)(bJ:List Sp)(P:List Mp)(r:List Int):Prop where
 src:Src w0 w g r
 ext:Ext w0 w
 kp:Kp [g,tb] we w
 oth:∀k,k≠11->w.cell? ⟨tb,k,none⟩=we.cell? ⟨tb,k,none⟩
 kJ:∀k,w.frozen? ⟨tb,k,none⟩=false
 v11:w.cell? ⟨tb,11,none⟩=some (.slice A n c)
 o11:jO M w bs A n c P
 col:iL M w tb 6 bJ
 lst:dh (hide M w) ⟨some ⟨q,0,none⟩,5,5⟩ jV
 hg:g∈M
 ht:tb∈M
 h11:∀b,aF A=some b->b∈M
 hM:∀b∈M,b<w.heap.size
section
variable {we w0 w w':World}{g tb bs q n c:Nat}{M:List Nat}{A:Option Addr}{P:List Mp}{bJ:List Sp}{r r':List Int}
theorem PSt.next(h:PSt we w0 w g tb bs q M A n c bJ P r)(f:Kp [g] w w')(m:Src w0 w' g r')(a:Ext w0 w')(o:g<tb)(p:tb<bs):PSt we w0 w' g tb bs q M A n c bJ P r':=by
 have i:=h.hM tb h.ht;have d:tb∉[g]:=by simp;omega
 have j:∀b∈[g],b∈M\/w.heap.size<=b:=by intro b a;simp at a;subst a;exact .inl h.hg
 exact⟨m,a,h.kp.via f (λb a=>.inl (by simp at a;simp[a])),λk l=>(f.cell ⟨tb,k,none⟩ i d).trans (h.oth k l),λk=>(f.frozen ⟨tb,k,none⟩ i d).trans (h.kJ k),(f.cell ⟨tb,11,none⟩ i d).trans h.v11,
  h.o11.kp f (λb a=>by have:=(h.o11.lt b a).1;simp;omega) (λ_ h=>h) (λ_ h=>.inl h) j,h.col.kp f j d,h.lst.keep (fU (f.mono j)),h.hg,h.ht,h.h11,λb a=>lt' (h.hM b a) f.size⟩
theorem PSt.aB(h:PSt we w0 w g tb bs q M A n c bJ P r)(a:Ext w w')(b:g<tb)(d:tb<bs):PSt we w0 w' g tb bs q M A n c bJ P r:=
 h.next (Kp.dX a) (h.src.kp (M:=[]) (Kp.dX a) (by simp)) (h.ext.trans' a) b d
theorem PSt.wW(h:PSt we w0 w g tb bs q M A n c bJ P r)(a:w.grownBy w' (aF A))(j:tb<bs)(k:Nat):w'.cell? ⟨tb,k,none⟩=w.cell? ⟨tb,k,none⟩/\w'.frozen? ⟨tb,k,none⟩=false:=by
 have d:Kp (aF A).toList w w':=Kp.pJ a (by intro b i;simp[i]);have f:tb∉(aF A).toList:=by
  simp only[Option.mem_toList];intro e;have:=(h.o11.lt tb e).1;omega
 exact⟨d.cell ⟨tb,k,none⟩ (h.hM tb h.ht) f,(d.frozen ⟨tb,k,none⟩ (h.hM tb h.ht) f).trans (h.kJ k)⟩
theorem PSt.aLr(h:PSt we w0 w g tb bs q M A n c bJ P r){l:Option Addr}{x y:Nat}{J:List Mp}(i:jO (w.heap.size::M) w' bs l x y J)(j:w.grownBy w' (aF A))(d:aF l=aF A\/aF l=some w.heap.size)(X:g<tb)(z:tb<bs)(G:we.heap.size<=bs)(H:w0.heap.size<=tb):
 ∃M',PSt we w0 (w'.setCell ⟨tb,11,none⟩ (.slice l x y)) g tb bs q M' l x y bJ J r:=by
 have K:=h.hM tb h.ht;have p:Kp (aF A).toList w w':=Kp.pJ j (by intro b a;simp[a]);have m:=h.o11.lt;have C:∀b,b∈(aF A).toList↔aF A=some b:=by intro b;simp
 have D:g∉(aF A).toList:=by rw[C];intro a;have:=(m _ a).1;omega
 have E:∀k,w'.cell? ⟨tb,k,none⟩=w.cell? ⟨tb,k,none⟩:=λk=>(h.wW j z k).1
 have I:∀k,w'.frozen? ⟨tb,k,none⟩=false:=λk=>(h.wW j z k).2
 have L:Ext w0 w':=dV h.ext j (λk p=>by have:=(m k p).1;omega);have s:Kp [tb] w' (w'.setCell ⟨tb,11,none⟩ (.slice l x y)):=Kp.setCell _ _ _ _ (by simp);have f:Kp (tb::(aF A).toList) w (w'.setCell ⟨tb,11,none⟩ (.slice l x y)):=(p.mono (λb a=>.inl (by simp only[List.mem_cons];exact .inr a))).trans (s.mono (λb a=>.inl (by simp at a;simp[a])));obtain⟨M',t,F,N,O,Q⟩:∃M':List Nat,(∀b∈M,b∈M')/\(∀b∈M',b∈M\/w.heap.size<=b)/\(∀b,aF l=some b->b∈M')/\(∀b∈M',b<w'.heap.size)/\(∀b∈M',b∈w.heap.size::M):=by
  rcases d with d|d
  .exact⟨M,λ_ h=>h,λ_ h=>.inl h,λb a=>h.h11 b (by rw[<- d];exact a),λb a=>lt' (h.hM b a) p.size,λb a=>by simp[a]⟩
  .refine⟨w.heap.size::M,λb a=>by simp[a],λb a=>?_,λb a=>?_,λb a=>?_,λ_ h=>h⟩
   .simp at a;rcases a with rfl|a
    .exact .inr (lr' _)
    .exact .inl a
   .rw[d]at a;injection a with a;simp[a]
   .simp at a;rcases a with rfl|a
    .exact(i.lt _ d).2
    .exact lt' (h.hM b a) p.size
 obtain⟨R,S,T,B,U,V⟩:=h.col;have o:∀b∈tb::(aF A).toList,b∈M\/w.heap.size<=b:=by
  intro b a;rw[List.mem_cons]at a;rcases a with rfl|a
  .exact .inl h.ht
  .exact .inl (h.h11 b ((C b).1 a))
 refine⟨M',⟨h.src.kp f (by simp only[List.mem_cons,not_or];exact⟨by omega,D⟩),L.jP H _,h.kp.via f (λb a=>?_),λk B=>?_,λk=>?_,?_,?_,?_,h.lst.keep (yV (f.mono o) t F),t g h.hg,t tb h.ht,N,λb a=>by simpa using O b a⟩⟩
 .rw[List.mem_cons]at a;rcases a with rfl|a
  .exact .inl (by simp)
  .exact .inr (Nat.le_trans G (m b ((C b).1 a)).1)
 .rw[World.cell?_setCell_other _ _ _ _ (by intro e;injection e with _ e;exact B e.symm),E k];exact h.oth k B
 .rw[World.frozen?_setCell];exact I k
 .exact World.cell?_setCell_same _ _ _ ((E 11).trans h.v11)
 .refine(i.less Q).kp s (λb a W=>?_) (λ_ h=>h) (λ_ h=>.inl h) (λb a=>?_)
  .simp at W;have:=(i.lt b a).1;omega
  .simp at a;subst a;exact .inl (t b h.ht)
 .refine⟨R,S,T,?_,U.keep (yV (f.mono o) t F),by rw[World.frozen?_setCell];exact I 6,V.2.kp f o F⟩;rw[World.cell?_setCell_other _ _ _ _ (by intro e;injection e with _ e;cases e),E 6];exact B
end
def BM(w:World):World:=
 (((((w.alloc (.cells #[.int .i64 111] 3)).alloc (.cells #[.int .i64 114,.int .i64 110] 3)).alloc (.cells #[.int .i64 97] 3)).alloc (.cells #[.int .i64 97] 3)).alloc (.cells #[.int .i64 111,.int .i64 803] 3)).alloc
  (.cells #[.int .i64 48,.slice (some ⟨w.heap.size,0,none⟩) 1 1,.int .i64 109,.slice (some ⟨w.heap.size+1,0,none⟩) 2 2,.int .i64 945,.slice (some ⟨w.heap.size+2,0,none⟩) 1 1,.int .i64 1072,.slice (some ⟨w.heap.size+3,0,none⟩) 1 1,.int .i64 1632,.slice (some ⟨w.heap.size+4,0,none⟩) 2 2] 80)
theorem ints_at{w:World}{H:Nat}(a:w.heap.size=H)(l:List Int)(t:TypeId)(h:l.length<=maxLen):aC (w.alloc (.cells (l.map (Value.int .i64)).toArray t)) ⟨some ⟨H,0,none⟩,l.length,l.length⟩ l:=by
 subst a;exact uq w l t h
theorem aDH(w:World)(M:List Nat)(W:∀b∈M,b<w.heap.size):dh (hide M (BM w)) ⟨some ⟨w.heap.size+5,0,none⟩,5,5⟩ jV/\Ext w (BM w)/\(BM w).heap.size=w.heap.size+6:=by
 obtain⟨n,f⟩:=eX' (w.alloc (.cells #[.int .i64 111] 3));obtain⟨o,g⟩:=eX' (n.alloc (.cells #[.int .i64 114,.int .i64 110] 3));obtain⟨p,h⟩:=eX' (o.alloc (.cells #[.int .i64 97] 3));obtain⟨q,l⟩:=eX' (p.alloc (.cells #[.int .i64 97] 3));obtain⟨r,m⟩:=eX' (q.alloc (.cells #[.int .i64 111,.int .i64 803] 3));have D:n.heap.size=w.heap.size+1:=by rw[f];simp
 have E:o.heap.size=w.heap.size+2:=by rw[g];simp[D]
 have F:p.heap.size=w.heap.size+3:=by rw[h];simp[E]
 have G:q.heap.size=w.heap.size+4:=by rw[l];simp[F]
 have H:r.heap.size=w.heap.size+5:=by rw[m];simp[G]
 have J:Ext w n:=by rw[f];exact eR'.ay _
 have I:Ext n o:=by rw[g];exact eR'.ay _
 have B:Ext o p:=by rw[h];exact eR'.ay _
 have A:Ext p q:=by rw[l];exact eR'.ay _
 have t:Ext q r:=by rw[m];exact eR'.ay _
 obtain⟨y,z⟩:=eX' (BM w);have C:y=r.alloc (.cells #[.int .i64 48,.slice (some ⟨w.heap.size,0,none⟩) 1 1,.int .i64 109,.slice (some ⟨w.heap.size+1,0,none⟩) 2 2,.int .i64 945,.slice (some ⟨w.heap.size+2,0,none⟩) 1 1,.int .i64 1072,.slice (some ⟨w.heap.size+3,0,none⟩) 1 1,.int .i64 1632,.slice (some ⟨w.heap.size+4,0,none⟩) 2 2] 80):=by
  rw[z,m,l,h,g,f];rfl
 have s:Ext r y:=by rw[C];exact eR'.ay _
 have K:aC n ⟨some ⟨w.heap.size,0,none⟩,1,1⟩ [111]:=by rw[f];exact ints_at rfl [111] _ (by simp[maxLen])
 have L:aC o ⟨some ⟨w.heap.size+1,0,none⟩,2,2⟩ [114,110]:=by rw[g];exact ints_at D [114,110] _ (by simp[maxLen])
 have N:aC p ⟨some ⟨w.heap.size+2,0,none⟩,1,1⟩ [97]:=by rw[h];exact ints_at E [97] _ (by simp[maxLen])
 have O:aC q ⟨some ⟨w.heap.size+3,0,none⟩,1,1⟩ [97]:=by rw[l];exact ints_at F [97] _ (by simp[maxLen])
 have P:aC r ⟨some ⟨w.heap.size+4,0,none⟩,2,2⟩ [111,803]:=by rw[m];exact ints_at G [111,803] _ (by simp[maxLen])
 have Q:=K.ext (I.trans' (B.trans' (A.trans' (t.trans' s))));have R:=L.ext (B.trans' (A.trans' (t.trans' s)));have S:=N.ext (A.trans' (t.trans' s));have T:=O.ext (t.trans' s);have U:=P.ext s;have d:∀k,w.heap.size+k∉M:=λk V=>by have:=W _ V;omega
 have a:∀j,(hide M y).cell? ⟨w.heap.size+5,j,none⟩=(#[.int .i64 48,.slice (some ⟨w.heap.size,0,none⟩) 1 1,.int .i64 109,.slice (some ⟨w.heap.size+1,0,none⟩) 2 2,.int .i64 945,.slice (some ⟨w.heap.size+2,0,none⟩) 1 1,.int .i64 1072,.slice (some ⟨w.heap.size+3,0,none⟩) 1 1,.int .i64 1632,.slice (some ⟨w.heap.size+4,0,none⟩) 2 2]:Array Value)[j]? :=by
  intro j;rw[qL,nN' (d 5),C,<- H];exact World.cell?_alloc_new _ _ _ j
 rw[<- z];refine⟨⟨⟨rfl,lr' _,by simp[maxLen]⟩,λi x c=>?_⟩,J.trans' (I.trans' (B.trans' (A.trans' (t.trans' s)))),by rw[C];simp[H]⟩
 match i,c with
 |0,c=>simp[jV]at c;subst c;exact⟨_,0,_,_,_,rfl,a 0,a 1,Q.qP (d 0)⟩
 |1,c=>simp[jV]at c;subst c;exact⟨_,0,_,_,_,rfl,a 2,a 3,R.qP (d 1)⟩
 |2,c=>simp[jV]at c;subst c;exact⟨_,0,_,_,_,rfl,a 4,a 5,S.qP (d 2)⟩
 |3,c=>simp[jV]at c;subst c;exact⟨_,0,_,_,_,rfl,a 6,a 7,T.qP (d 3)⟩
 |4,c=>simp[jV]at c;subst c;exact⟨_,0,_,_,_,rfl,a 8,a 9,U.qP (d 4)⟩
 |i+5,c=>simp[jV]at c
structure rW(w:World)(tb:Nat)(t:TV):Prop where
 c0:w.cell? ⟨tb,0,none⟩=some (.slice t.s0.a t.s0.n t.s0.c)
 c1:w.cell? ⟨tb,1,none⟩=some (.slice t.s1.a t.s1.n t.s1.c)
 c2:w.cell? ⟨tb,2,none⟩=some (.slice t.s2.a t.s2.n t.s2.c)
 c3:w.cell? ⟨tb,3,none⟩=some (.slice t.s3.a t.s3.n t.s3.c)
 c4:w.cell? ⟨tb,4,none⟩=some (.slice t.s4.a t.s4.n t.s4.c)
 c5:w.cell? ⟨tb,5,none⟩=some (.slice t.s5.a t.s5.n t.s5.c)
 c6:w.cell? ⟨tb,6,none⟩=some (.slice t.s6.a t.s6.n t.s6.c)
 c7:w.cell? ⟨tb,7,none⟩=some (.slice t.s7.a t.s7.n t.s7.c)
 c8:w.cell? ⟨tb,8,none⟩=some (.slice t.s8.a t.s8.n t.s8.c)
 c9:w.cell? ⟨tb,9,none⟩=some (.slice t.s9.a t.s9.n t.s9.c)
 c10:w.cell? ⟨tb,10,none⟩=some (.slice t.s10.a t.s10.n t.s10.c)
 c11:w.cell? ⟨tb,11,none⟩=some (.slice t.s11.a t.s11.n t.s11.c)
theorem rW.same{w w':World}{b:Nat}{t:TV}(h:rW w b t)(a:∀j,w'.cell? ⟨b,j,none⟩=w.cell? ⟨b,j,none⟩):rW w' b t:=
 ⟨(a 0).trans h.c0,(a 1).trans h.c1,(a 2).trans h.c2,(a 3).trans h.c3,(a 4).trans h.c4,(a 5).trans h.c5,(a 6).trans h.c6,(a 7).trans h.c7,(a 8).trans h.c8,(a 9).trans h.c9,(a 10).trans h.c10,(a 11).trans h.c11⟩
theorem rW.kp{w w':World}{a:Nat}{t:TV}{N:List Nat}(h:rW w a t)(b:Kp N w w')(c:a∉N):rW w' a t:=
 h.same λj=>b.cell ⟨a,j,none⟩ (show a<_ from World.block_lt_of_cell? w ⟨a,0,none⟩ h.c0) c
theorem rW.of{w:World}{m:Nat}(h:∀j,j<12->∃A n c,w.cell? ⟨m,j,none⟩=some (.slice A n c)):∃t:TV,rW w m t:=by
 obtain⟨o,p,q,r⟩:=h 0 (by omega);obtain⟨s,x,y,z⟩:=h 1 (by omega);obtain⟨B,C,D,E⟩:=h 2 (by omega);obtain⟨F,G,H,I⟩:=h 3 (by omega);obtain⟨J,K,L,M⟩:=h 4 (by omega);obtain⟨N,O,P,Q⟩:=h 5 (by omega);obtain⟨R,S,T,U⟩:=h 6 (by omega);obtain⟨V,W,X,Y⟩:=h 7 (by omega);obtain⟨Z,n8,k8,e8⟩:=h 8 (by omega);obtain⟨a9,n9,k9,e9⟩:=h 9 (by omega);obtain⟨a,b,d,f⟩:=h 10 (by omega);obtain⟨g,i,k,l⟩:=h 11 (by omega);exact⟨⟨⟨o,p,q⟩,⟨s,x,y⟩,⟨B,C,D⟩,⟨F,G,H⟩,⟨J,K,L⟩,⟨N,O,P⟩,⟨R,S,T⟩,⟨V,W,X⟩,⟨Z,n8,k8⟩,⟨a9,n9,k9⟩,⟨a,b,d⟩,⟨g,i,k⟩⟩,r,z,E,I,M,Q,U,Y,e8,e9,f,l⟩
theorem PSt.cells{d i w:World}{g b k q n c:Nat}{M:List Nat}{A:Option Addr}{P:List Mp}{bJ:List Sp}{r:List Int}(h:PSt d i w g b k q M A n c bJ P r)(l:∀j,j<12->∃A n c,d.cell? ⟨b,j,none⟩=some (.slice A n c)):∀j,j<12->∃A n c,w.cell? ⟨b,j,none⟩=some (.slice A n c):=by
 intro j f;by_cases a:j=11
 .subst a;exact⟨_,_,_,h.v11⟩
 .rw[h.oth j a];exact l j f
theorem rW.bJ{w:World}{b:Nat}{t:TV}{M:List Nat}{L:List Sp}(h:rW w b t)(j:iL M w b 6 L):bK w t.s6 L:=by
 obtain⟨A,n,c,a,d,_⟩:=j;rw[h.c6]at a;injection a with a;injection a with f g i;have:t.s6=⟨A,n,c⟩:=by rw[<- f,<- g,<- i]
 rw[this];exact d.sub λp v=>vN
structure FX(w:World)(tb mb zb zo z zn zc:Nat)(t:TV)(lo la:Int):Prop where
 tc:rW w tb t
 f0:w.cell? ⟨mb,0,none⟩=some (.int .i64 lo)
 f1:w.cell? ⟨mb,1,none⟩=some (.slice (some ⟨zb,zo,none⟩) zn zc)
 f2:w.cell? ⟨zb,zo+z,none⟩=some (.int .i64 la)
theorem FX.kp{w w':World}{c mb a d z f g:Nat}{t:TV}{i j:Int}{N:List Nat}(h:FX w c mb a d z f g t i j)(b:Kp N w w')(l:c∉N)(k:mb∉N)(m:a∉N):FX w' c mb a d z f g t i j:=
 ⟨h.tc.kp b l,(b.cell ⟨mb,0,none⟩ (World.block_lt_of_cell? w _ h.f0) k).trans h.f0,(b.cell ⟨mb,1,none⟩ (World.block_lt_of_cell? w _ h.f1) k).trans h.f1,(b.cell ⟨a,d+z,none⟩ (World.block_lt_of_cell? w _ h.f2) m).trans h.f2⟩
theorem aHm{M:List Nat}{w:World}{p:Addr}{v:Value}(h:(hide M w).cell? p=some v):p.block∉M:=by
 rw[qL]at h;intro a;rw[pP' a]at h;cases h
def aHI(w0 w:World)(g tb:Nat)(bJ:List Sp)(r:List Int)(w':World):Prop:=
 ∃M q A n c,PSt w w0 w' g tb w.heap.size q M A n c bJ (wB bJ jV [] r).1 (wB bJ jV [] r).2
def aOH(w0 w:World)(g tb:Nat)(bJ:List Sp)(r:List Int)(gh:Nat)(wM:Value)(wx:World):Prop:=
 ∃(k:Nat)(M:List Nat)(A:Option Addr)(n c:Nat)(P:List Mp)(r':List Int),k+gh=5/\wM=.int .i64 k/\PSt w w0 wx g tb w.heap.size (w.heap.size+5) M A n c bJ P r'/\
  Hid (wB bJ jV [] r=wB bJ (jV.drop k) P r')/\P.length<=k/\w.heap.size+6<=wx.heap.size
theorem Xo(w0 w:World)(g d:Nat)(M0:List Nat)(bJ:List Sp)(r:List Int)(hs:Src w0 w g r)(S:Ext w0 w)(bv:g<d)(f:d<w.heap.size)(bw:w0.heap.size<=d)(aq:∀j,j<12->∃A n c,w.cell? ⟨d,j,none⟩=some (.slice A n c))
 (ar:w.cell? ⟨d,11,none⟩=some (.slice none 0 0)) (hf:∀k,w.frozen? ⟨d,k,none⟩=false) (ru:iL M0 w d 6 bJ) (T:g∈M0) (av:d∈M0) (a7:∀b∈M0,b<w.heap.size):
 Calls prog 41 #[.pointer (some ⟨g,0,none⟩),.pointer (some ⟨d,0,none⟩)] w λe w'=>e=.returned (.tuple #[])/\aHI w0 w g d bJ r w':=by
 have fA:Hid (g<d):=ah bv;have fZ:=ah aq;obtain⟨W,i,a3⟩:=aDH w M0 a7
 have H0:Hid (PSt w w0 (BM w) g d w.heap.size (w.heap.size+5) M0 none 0 0 bJ [] r):=ah ⟨hs.kp (M:=[]) (Kp.dX i) (by simp),S.trans' i,Kp.dX i,λk _=>i.b.cell (p:=⟨d,k,none⟩) f,λk=>(i.b.frozen (p:=⟨d,k,none⟩) f).trans (hf k),aY (bg i) ar,jO.nil_ _ _ _,
  ru.kp (N:=[]) (Kp.dX i) (by simp) (by simp),W,T,av,λb S=>(by cases S),λb S=>by have:=a7 b S;omega⟩
 clear hs S aq ar hf ru T av a7 W i;go_enter func41,ntmps41;go_wp2;go_loopg[18] 5 (λgh wM wx=>aOH w0 w g d bJ r gh wM wx);exact⟨0,M0,none,0,0,[],r,rfl,rfl,H0.out,ah rfl,lr' _,by show w.heap.size+6<=(BM w).heap.size;omega⟩;obtain⟨k,M,A,n,c,P,X,bx,rfl,a9,HR,bz,bA⟩:=hrel;have C:=ah a9;clear a9 H0 a3;by_cases aE:k<5
 .obtain⟨aa,rfl⟩:=gS' gk;have bB:(k:Int)<5:=by omega
  have bC:=z0' k;have ab:k<jV.length:=by simpa[jV]using aE
  obtain⟨b',o',za,zn,U,dW,D,E,F⟩:=C.out.lst.at_ ab;injection dW with dW;injection dW with e1 e2;subst e1 e2;rw[Nat.zero_add]at D E;have D:=vN D;have E:=vN E;have ac:=ah F;have HD:=ah (drop_at jV k ab);have ad:0<jV[k].to.length:=by
   have:∀m∈jV,0<m.to.length:=by intro m hm;simp only[jV,List.mem_cons,List.not_mem_nil,or_false]at hm;rcases hm with rfl|rfl|rfl|rfl|rfl<;>simp
   exact this _ (gM' _)
  generalize jV[k]=m at*;obtain⟨l,Y⟩:=m;simp only at D E F ad ac;obtain⟨aM,aR,aW⟩:=F.len;obtain⟨z,hz⟩:∃z,zn=z+1:=⟨zn-1,by omega⟩;subst hz;have a3:z<Y.length:=by omega
  have bE:(z:Int)<9223372036854775807:=by omega
  obtain⟨G,R,b3,H⟩:=F.at_ a3;have b4:=aHm H;have H:=vN H;have lY:Hid (ng Y=Y[z]):=ah (by rw[Jk (by omega)];congr 1;omega);generalize Y[z]=la at*;subst b3;obtain⟨I,KZ⟩:=eY' ((dL 3 X==0)||(fC bJ l==1)||(fC bJ la==1));have HB:=ah KZ
  have ae:Hid (wB bJ jV [] r=wB bJ (jV.drop (k+1)) (if I=true then P else P++[⟨l,Y⟩]) X.tail):=ah (by
   rw[HR.out,HD.out,wB,JH]
   simp only[lY.out,KZ])
  clear HR HD KZ F ad aM aR aW;obtain⟨B,rfl⟩:=eX' wr;go_upto_region 3 with fail;have J:Ext B (B.alloc (.cells #[.int .i64 l,.slice (some ⟨G,R,none⟩) (z+1) U] 80)):=eR'.ay _;obtain⟨Z,K⟩:=eX' (B.alloc (.cells #[.int .i64 l,.slice (some ⟨G,R,none⟩) (z+1) U] 80));rw[<- K]at J |-;have zF:=ah (C.out.aB J fA.out f);obtain⟨t,ag⟩:=rW.of (zF.out.cells fZ.out);have TB:Hid (FX Z.drew d B.heap.size G R z (z+1) U t l la):=ah ⟨ag.kp (N:=[]) (Kp.dX eR'.dQ) (by simp),by rw[K];exact World.cell?_alloc_new B _ _ 0,by rw[K];exact World.cell?_alloc_new B _ _ 1,(aY (bg (J.trans' eR'.dQ)) H)⟩;have bG:Z.heap.size=B.heap.size+1:=by rw[K];simp
  have X1:Hid (Ext Z Z.drew):=ah eR'.dQ;have al:Hid (Kp [g] B Z):=ah (Kp.dX J);have S1:=ah ((zF.out.aB X1.out fA.out f).src);have E1:=ah (zF.out.ext.trans' X1.out);have T:=C.out.hg;have b6:G∉[g]:=by intro h';simp at h';subst h';exact b4 T
  have bH:d<B.heap.size:=by omega
  clear K J ag H D E;generalize am:B.heap.size=mb at*;have b7:=ah am;clear am;go_cut [46]from 19 to 57 (λb8 wx=>b8=.bool I/\PSt w w0 wx g d w.heap.size (w.heap.size+5) M A n c bJ P X.tail/\Kp [g] B wx/\wx.cell? ⟨mb,0,none⟩=some (.int .i64 l)/\wx.cell? ⟨mb,1,none⟩=some (.slice (some ⟨G,R,none⟩) (z+1) U))
  case first=>
   obtain⟨b0,ba⟩:=eY' (dL 3 X==0);obtain⟨b1,bc⟩:=eY' (fC bJ l==1);obtain⟨b2,bd⟩:=eY' (fC bJ la==1);have gK:Hid ((b0||b1||b2)=I):=ah (by rw[<- HB.out,ba,bc,bd]);have bI:=z0' z;have bL:(z:Int)<((z+1:Nat):Int):=(by omega);have bN:(z:Int)<(z:Int)+1:=(by omega);have bO:IntKind.i64.wrap ((z:Int)+1-1)=(z:Int):=(by rw[show(z:Int)+1-1=z from by omega];exact IntWalk.i64_in _ (by omega));have S9:Value.bool (b0||b1||b2)=.bool I:=(by rw[gK.out]);have be:=ah S9;clear S9;refine region_head_ext 4 (by kernel_rfl) (by kernel_rfl) (by kernel_rfl) (by kernel_rfl) ?_;simp only[List.take_succ_cons,List.take_zero,List.drop_succ_cons,List.drop_zero];go_wp2_with fail;refine(pI w0 Z.drew g X 3 (by decide) (by decide) S1.out E1.out).mono ?_;rintro e o⟨rfl,an,V,TT⟩;have sJ:=ah ((zF.out.aB X1.out fA.out f).next V an TT fA.out f);have q:=ah (TB.out.kp V (by simp;omega) (by simp;omega) b6);have KF:Hid (∀x:aj o,bK x.w t.s6 bJ):=ah (λx=>(q.out.tc.bJ sJ.out.col).ext x.h);have bf:=ah ((al.out.trans (Kp.dX X1.out)).trans V);clear an V TT;go_wp2_with fail;simp only[DI];have x0:∀y:aj o,y.w.cell? ⟨d,0,none⟩=some (.slice t.s0.a t.s0.n t.s0.c):=bY q.out.tc.c0;have x1:∀y:aj o,y.w.cell? ⟨d,1,none⟩=some (.slice t.s1.a t.s1.n t.s1.c):=bY q.out.tc.c1;have x2:∀y:aj o,y.w.cell? ⟨d,2,none⟩=some (.slice t.s2.a t.s2.n t.s2.c):=bY q.out.tc.c2;have x3:∀y:aj o,y.w.cell? ⟨d,3,none⟩=some (.slice t.s3.a t.s3.n t.s3.c):=bY q.out.tc.c3;have x4:∀y:aj o,y.w.cell? ⟨d,4,none⟩=some (.slice t.s4.a t.s4.n t.s4.c):=bY q.out.tc.c4;have x5:∀y:aj o,y.w.cell? ⟨d,5,none⟩=some (.slice t.s5.a t.s5.n t.s5.c):=bY q.out.tc.c5;have x6:∀y:aj o,y.w.cell? ⟨d,6,none⟩=some (.slice t.s6.a t.s6.n t.s6.c):=bY q.out.tc.c6;have x7:∀y:aj o,y.w.cell? ⟨d,7,none⟩=some (.slice t.s7.a t.s7.n t.s7.c):=bY q.out.tc.c7;have x8:∀y:aj o,y.w.cell? ⟨d,8,none⟩=some (.slice t.s8.a t.s8.n t.s8.c):=bY q.out.tc.c8;have x9:∀y:aj o,y.w.cell? ⟨d,9,none⟩=some (.slice t.s9.a t.s9.n t.s9.c):=bY q.out.tc.c9;have bh:∀y:aj o,y.w.cell? ⟨d,10,none⟩=some (.slice t.s10.a t.s10.n t.s10.c):=bY q.out.tc.c10;have bi:∀y:aj o,y.w.cell? ⟨d,11,none⟩=some (.slice t.s11.a t.s11.n t.s11.c):=bY q.out.tc.c11;have y0:∀y:aj o,y.w.cell? ⟨mb,0,none⟩=some (.int .i64 l):=bY q.out.f0;have y1:∀y:aj o,y.w.cell? ⟨mb,1,none⟩=some (.slice (some ⟨G,R,none⟩) (z+1) U):=bY q.out.f1;have y2:∀y:aj o,y.w.cell? ⟨G,R+z,none⟩=some (.int .i64 la):=bY q.out.f2;cases b0<;>cases b1
   all_goals
    repeat(go_big_quiet_step((go_at_call 60;first|with_reducible exact aQ (Pq t bJ l _ (KF.out _))|with_reducible exact aQ (Pq t bJ la _ (KF.out _)))))
    refine wpQuiet_nil ?_;rintro _⟨yw,rfl⟩;have HY:=ah (And.intro (y0 yw) (y1 yw));clear x0 x1 x2 x3 x4 x5 x6 x7 x8 x9 bh bi y0 y1 y2;go_wp2_with fail;go_meet
    case rel=>exact⟨be.out,sJ.out.aB yw.h fA.out f,bf.out.trans (Kp.dX yw.h),HY.out.1,HY.out.2⟩
  case rest=>
   obtain⟨rfl,L,a4,bj,bk⟩:=hcut;obtain⟨O,rfl⟩:=eX' wc;have Gq:=ah L;have bl:=ah (ac.out.keep (fU (a4.mono (M':=M) (by intro b S;simp at S;subst S;exact .inl L.hg))));have bQ:mb<=O.heap.size:=(by rw[<- b7.out];exact a4.size);clear L a4 C zF TB S1 E1 X1 al;cases I
   .have a5:Hid ((if false=true then P else P++[⟨l,Y⟩])=P++[⟨l,Y⟩]):=ah (nN' (by simp));have bm:=Gq.out.v11;have s:Ext O (O.alloc (.cells #[.int .i64 l,.slice (some ⟨G,R,none⟩) (z+1) U] 80)).drew:=(eR'.ay _).dQ;have bo:=ah s;have bR:=aY (bg s) bj;have Uc:=aY (bg s) bk;have bS:=aY (bg s) bm;have Q:=ah (Gq.out.aB s fA.out f);have lZ:=ah (bl.out.keep (fU (M:=M) (Kp.dX s)));have ao:(O.alloc (.cells #[.int .i64 l,.slice (some ⟨G,R,none⟩) (z+1) U] 80)).drew.cell? ⟨O.heap.size,0,none⟩=some (.int .i64 l):=World.cell?_alloc_new O _ _ 0;have ap:(O.alloc (.cells #[.int .i64 l,.slice (some ⟨G,R,none⟩) (z+1) U] 80)).drew.cell? ⟨O.heap.size,1,none⟩=some (.slice (some ⟨G,R,none⟩) (z+1) U):=World.cell?_alloc_new O _ _ 1;have bp:=ah ao;have bq:=ah ap;have br:=Gq.out.o11.len.1;have bT:n<=5:=(by omega);clear s ao ap br;go_wp2_with fail
    go_region_law((refine Ia (by rfl) _ _ (by rfl) M w.heap.size (by rfl) Q.out.o11 (by rfl) bp.out bq.out lZ.out Q.out.h11 (by omega) (by simp;omega) ?_
                   intro bs bt bU zq sD zA;obtain⟨bu,xq⟩:=PSt.aLr Q.out zq sD zA fA.out f (lr' _) bw;obtain⟨a0,U5⟩:=PSt.wW Q.out sD f 11;have Si:=a0.trans Q.out.v11;have Ut:=Nat.le_trans (Ext.b bo.out).size sD.size;have Gs:=ah xq
                   clear zq sD zA xq a0))
    all_goals
     go_wp2;go_roundg aa;exact⟨k+1,bu,bs,_,bt,_,X.tail,by omega,by go_num,Gs.out,ah (by rw[ae.out,a5.out]),by simp;omega,by simp;omega⟩;omega
   .have a5:Hid ((if true=true then P else P++[⟨l,Y⟩])=P):=ah (pP' rfl);go_wp2;go_roundg aa;exact⟨k+1,M,A,n,c,P,X.tail,by omega,by go_num,Gq.out,ah (by rw[ae.out,a5.out]),by omega,by omega⟩;omega
 .obtain rfl:gk=0:=by omega
  obtain rfl:k=5:=by omega
  have iw:Hid (wB bJ jV [] r=(P,X)):=ah (by rw[HR.out,bM jV 5 (by decide)];rfl);go_wp2;go_end0;exact⟨rfl,M,_,A,n,c,by rw[iw.out];exact C.out⟩
end Go.Proofs.YtljilcbobhmkgaaGreatDoor
