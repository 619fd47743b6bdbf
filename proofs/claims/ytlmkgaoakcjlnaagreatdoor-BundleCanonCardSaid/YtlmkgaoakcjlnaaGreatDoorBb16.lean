/- Part Bb16. -/
import Derived.Deep.LoopGhost
import Derived.Test.YtlmkgaoakcjlnaaGreatDoorBb15
open Go.Proofs.Tryz
namespace Go.Proofs.YtlmkgaoakcjlnaaGreatDoor
set_option maxHeartbeats 25600000
set_option maxRecDepth 100000
open Go.RowKit
def Nu(w:World)(l:List Int)(e:Ending)(w':World):Prop:=∃A n c,e= .returned (.slice A n c)/\aF w' ⟨A,n,c⟩ l/\Ext w w'
def jnG:Bool->List (List Int)->List Int
 |_,[]=>[]
 |f,x::r=>(if f then x else 46::x)++jnG false r
def jnL(ls:List (List Int)):List Int:=jnG true ls
theorem LD{ls:List (List Int)}{k:Nat}(h:k<ls.length):jnG (k==0) (ls.drop k)=(if(k==0)=true then ls[k]else 46::ls[k])++jnG (k+1==0) (ls.drop (k+1)):=by
 rw[drop_at ls k h];rfl
theorem Cj.lists{o w:World}{A:Option Addr}{N C:Nat}{ls:List (List Int)}(h:Cj o w A N C ls):pq w ⟨A,N,C⟩ ls:=by
 obtain⟨g,S,rfl,d,p,f,k⟩:=h;obtain⟨l,m⟩:=Own.le d;refine⟨⟨f.symm,by rw[f];exact l,m⟩,λi x j=> ?_⟩;have q:=(List.getElem?_eq_some_iff.1 j).1;have b:i<S.length:=by omega
 refine⟨g,0,S[i].a,S[i].n,S[i].c,rfl,?_,(k i S[i] x (List.getElem?_eq_getElem b) j).1⟩;have:=World.ownsRow.cellAt d i (by omega);rw[Nat.zero_add,this];simp[b]
def rH(w:World)(s:SV)(ls:List (List Int)):Prop:=
 xB s ls.length/\∀i x,ls[i]? =some x->∃b o,s.a=some ⟨b,o,none⟩/\w.cell? ⟨b,o+i,none⟩=some (.string (sB x))
theorem rH.keep{w w':World}{s:SV}{l:List (List Int)}(h:rH w s l)(f:∀p:Addr,p.block<w.heap.size->w'.cell? p=w.cell? p):rH w' s l:=
 ⟨h.1,λi x a=>by obtain⟨b,o,c,d⟩:=h.2 i x a;exact⟨b,o,c,bD f d⟩⟩
theorem rH.ext{w w':World}{s:SV}{l:List (List Int)}(h:rH w s l)(a:Ext w w'):rH w' s l:=h.keep (bH a)
theorem rH.at_{A:Option Addr}{n c:Nat}{w:World}{l:List (List Int)}(h:rH w ⟨A,n,c⟩ l){i:Nat}(a:i<l.length):∃b o,A=some ⟨b,o,none⟩/\w.cell? ⟨b,o+i,none⟩=some (.string (sB l[i])):=
 h.2 i _ (List.getElem?_eq_getElem a)
def fbG:Nat->List (List Int)->Option (Int × Int)
 |_,[]=>none
 |k,x::r=>if x.length=0 then some (k,10)else if 63<x.length then some (k,11)else fbG (k+1) r
def kY:List (List Int)->Int
 |[]=>0
 |x::r=>x.length+kY r
def jm(ls:List (List Int)):Int × Int:=
 if ls.length=0 then(0,10)else match fbG 0 ls with
  |some p=>p
  |none=>if 127<(ls.length:Int)\/253<(ls.length:Int) - 1+kY ls then(0,11)else(0,0)
theorem Tc{ls:List (List Int)}{k:Nat}(h:k<ls.length):fbG k (ls.drop k)=if ls[k].length=0 then some ((k:Int),10)else if 63<ls[k].length then some ((k:Int),11)else fbG (k+1) (ls.drop (k+1)):=by
 rw[drop_at ls k h];rfl
theorem SS(a:List (List Int))(x:List Int):kY (a++[x])=kY a+x.length:=by
 induction a with
 |nil=>simp[kY]
 |cons y a ih=>simp[kY,ih];omega
theorem Tm:∀(ls:List (List Int)),((jnG false ls).length:Int)=ls.length+kY ls
 |[]=>rfl
 |x::r=>by
  have:=Tm r;show(((46::x)++jnG false r).length:Int)=_
  simp only[List.length_append,List.length_cons,kY];omega
theorem Gz{ls:List (List Int)}(h:ls≠[]):((jnL ls).length:Int)=(ls.length:Int) - 1+kY ls:=by
 cases ls with
 |nil=>exact absurd rfl h
 |cons x r=>
  have:=Tm r;show((x++jnG false r).length:Int)=_
  simp only[List.length_append,List.length_cons,kY];omega
theorem LG{ls:List (List Int)}(h:(jm ls).2=0):ls≠[]/\ls.length<=127/\(jnL ls).length<=253/\(jm ls).1=0:=by
 unfold jm at h |-;split at h
 .cases h
 .rename_i d;rw[if_neg d];have a:ls≠[]:=λe=>d (by rw[e];rfl)
  have g:=Gz a;cases b:fbG 0 ls with
  |some p=>
   rw[b]at h;exfalso;have c:∀(l:List (List Int))(k:Nat)(p:Int × Int),fbG k l=some p->p.2≠0:=by
    intro l
    induction l with
    |nil=>intro k p h;cases h
    |cons y r ih=>
     intro k p h;unfold fbG at h;split at h
     .injection h with h;subst h;simp
     .split at h
      .injection h with h;subst h;simp
      .exact ih _ _ h
   exact c ls 0 p b h
  |none=>
   rw[b]at h;simp only at h |-;split at h
   .cases h
   .rename_i f;rw[if_neg f];exact⟨a,by omega,by omega,rfl⟩
def oI(ls:List (List Int)):List Int × Int:=if(jm ls).2≠0 then([],(jm ls).2)else(jnL ls,0)
theorem LC:∀(ls:List (List Int))(k:Nat),fbG k ls=none->∀x∈ls,0<x.length/\x.length<=63
 |[],_,_,x,a=>by cases a
 |y::r,k,h,x,a=>by
  unfold fbG at h;split at h
  .cases h
  .split at h
   .cases h
   .rcases List.mem_cons.1 a with rfl|a
    .omega
    .exact LC r _ h x a
def aN4(w:World)(ls:List (List Int))(g:Nat)(s3 s8:Value)(wx:World):Prop:=
 ∃(A:Option Addr)(n c k:Nat)(acc:List Int),g+k=ls.length/\s8= .int .i64 k/\s3= .slice A n c/\Hid (n=acc.length)/\n<=1000000/\aN wx w.heap.size A n c acc/\Ext w wx/\Hid (jnL ls=acc++jnG (k==0) (ls.drop k))
theorem aNA(ls:List (List Int))(A:Option Addr)(n c:Nat)(w:World)(D:pq w ⟨A,n,c⟩ ls)(hm:(jnL ls).length<=1000000):Calls prog 78 #[.slice A n c] w (Nu w (jnL ls)):=by
 have V:=D.len.1;have X:=D.len.2;subst V;have Y:=ah D;clear D;go_enter func78,ntmps78;go_wp2;go_loopg[3,8] ls.length (λZ s3 s8 wx=>aN4 w ls Z s3 s8 wx);exact⟨none,0,0,0,[],by omega,rfl,rfl,rfl,by omega,Own.nil_ _ _ _ _,Ext.refl _,rfl⟩;obtain⟨B,m,d,k,g,hg,rfl,rfl,E,a3,s,J,F⟩:=hrel;have y:=ah s;have t:=ah J;clear s J;by_cases G:k<ls.length
 .obtain⟨b,o,za,H,zc,hA,I,M⟩:=Y.out.at_ G;subst hA;have a5:=bD (bH t.out) I;have K:=ah (LD G);have U:=ah (λW(h:Ext w W)=>M.ext h);have L:=M.len.1;clear M I;generalize ls[k]=x at*;by_cases q:k=0
  .have hd:decide ((0:Int)<(k:Int))=false:=dF';have N:decide (0<k)=false:=dF';have l:=aI F (show _=(g++x)++jnG (k+1==0) (ls.drop (k+1))from by rw[K.out,if_pos (by rw[beq_iff_eq];exact q),List.append_assoc]);have z:m+H<=1000000:=by
    have O:=congrArg List.length l.out;simp only[List.length_append]at O;have h2:=E.out;omega
   obtain⟨P,Q,R,j,a,f,_⟩:=fO y.out (U.out wr t.out) (by omega) t.out.b.size;have S:Hid (Ext w R):=ah (dU t.out f (λk G=>(Own.lt y.out k G).1));have T:=ah a;have C:Hid (m+H=(g++x).length):=ah (by rw[List.length_append,E.out,L]);clear a f F K y t L E q;go_wp2_with(at_builtin;refine dH rfl _ _ _ rfl _ _ rfl rfl _ _ j ?_);go_roundg (ls.length - (k+1));exact⟨P,m+H,Q,k+1,g++x,by omega,by go_num,rfl,C,z,T.out,S.out,l⟩;omega
  .have hd:decide ((0:Int)<(k:Int))=true:=dT';have N:decide (0<k)=true:=dT';have l:=aI F (show _=((g++[46])++x)++jnG (k+1==0) (ls.drop (k+1))from by rw[K.out,if_neg (by rw[beq_iff_eq];exact q)];simp);have z:m+1+H<=1000000:=by
    have O:=congrArg List.length l.out;simp only[List.length_append,List.length_singleton]at O;have h2:=E.out;omega
   obtain⟨A4,c4,w4,p,i,r,_⟩:=xu y.out t.out 46 (by omega);obtain⟨P,Q,R,j,a,f,_⟩:=fO i (U.out w4 r) (by omega) r.b.size;have S:Hid (Ext w R):=ah (dU r f (λk G=>(Own.lt i k G).1));have T:=ah a;have C:Hid (m+1+H=((g++[46])++x).length):=ah (by simp only[List.length_append,List.length_singleton];rw[E.out,L]);clear a f F K y t L E q i r
   go_wp2_with(at_builtin;first
    |(refine dH rfl _ _ _ rfl _ _ rfl rfl _ _ p ?_;clear p)
    |(refine dH rfl _ _ _ rfl _ _ rfl rfl _ _ j ?_;clear j))
   go_roundg (ls.length - (k+1));exact⟨P,m+1+H,Q,k+1,(g++[46])++x,by omega,by go_num,rfl,C,z,T.out,S.out,l⟩;omega
 .have HF:Hid (jnL ls=g):=ah (by rw[F.out,bQ ls k (by omega)];simp[jnG]);have D:=aN.ints y.out;have J:=t.out;clear F y;go_wp2;go_ret;exact⟨B,_,d,rfl,by rw[HF.out];exact D,J⟩
def aNK(w:World)(ls:List (List Int))(g:Nat)(s3 s8:Value)(wx:World):Prop:=
 ∃(A:Option Addr)(n c k:Nat)(acc:List Int),g+k=ls.length/\s8= .int .i64 k/\s3= .slice A n c/\Hid (n=acc.length)/\n<=1000000/\aN wx w.heap.size A n c acc/\Ext w wx/\Hid (jnL ls=acc++jnG (k==0) (ls.drop k))
theorem aNU(ls:List (List Int))(A:Option Addr)(n c:Nat)(w:World)(D:pq w ⟨A,n,c⟩ ls)(hm:(jnL ls).length<=1000000):Calls prog 100 #[.slice A n c] w (Nu w (jnL ls)):=by
 have V:=D.len.1;have X:=D.len.2;subst V;have Y:=ah D;clear D;go_enter func100,ntmps100;go_wp2;go_loopg[3,8] ls.length (λZ s3 s8 wx=>aNK w ls Z s3 s8 wx);exact⟨none,0,0,0,[],by omega,rfl,rfl,rfl,by omega,Own.nil_ _ _ _ _,Ext.refl _,rfl⟩;obtain⟨B,m,d,k,g,hg,rfl,rfl,E,a3,s,J,F⟩:=hrel;have y:=ah s;have t:=ah J;clear s J;by_cases G:k<ls.length
 .obtain⟨b,o,za,H,zc,hA,I,M⟩:=Y.out.at_ G;subst hA;have a5:=bD (bH t.out) I;have K:=ah (LD G);have U:=ah (λW(h:Ext w W)=>M.ext h);have L:=M.len.1;clear M I;generalize ls[k]=x at*;by_cases q:k=0
  .have hd:decide ((0:Int)<(k:Int))=false:=dF';have N:decide (0<k)=false:=dF';have l:=aI F (show _=(g++x)++jnG (k+1==0) (ls.drop (k+1))from by rw[K.out,if_pos (by rw[beq_iff_eq];exact q),List.append_assoc]);have z:m+H<=1000000:=by
    have O:=congrArg List.length l.out;simp only[List.length_append]at O;have h2:=E.out;omega
   obtain⟨P,Q,R,j,a,f,_⟩:=fO y.out (U.out wr t.out) (by omega) t.out.b.size;have S:Hid (Ext w R):=ah (dU t.out f (λk G=>(Own.lt y.out k G).1));have T:=ah a;have C:Hid (m+H=(g++x).length):=ah (by rw[List.length_append,E.out,L]);clear a f F K y t L E q;go_wp2_with(at_builtin;refine dH rfl _ _ _ rfl _ _ rfl rfl _ _ j ?_);go_roundg (ls.length - (k+1));exact⟨P,m+H,Q,k+1,g++x,by omega,by go_num,rfl,C,z,T.out,S.out,l⟩;omega
  .have hd:decide ((0:Int)<(k:Int))=true:=dT';have N:decide (0<k)=true:=dT';have l:=aI F (show _=((g++[46])++x)++jnG (k+1==0) (ls.drop (k+1))from by rw[K.out,if_neg (by rw[beq_iff_eq];exact q)];simp);have z:m+1+H<=1000000:=by
    have O:=congrArg List.length l.out;simp only[List.length_append,List.length_singleton]at O;have h2:=E.out;omega
   obtain⟨A4,c4,w4,p,i,r,_⟩:=xu y.out t.out 46 (by omega);obtain⟨P,Q,R,j,a,f,_⟩:=fO i (U.out w4 r) (by omega) r.b.size;have S:Hid (Ext w R):=ah (dU r f (λk G=>(Own.lt i k G).1));have T:=ah a;have C:Hid (m+1+H=((g++[46])++x).length):=ah (by simp only[List.length_append,List.length_singleton];rw[E.out,L]);clear a f F K y t L E q i r
   go_wp2_with(at_builtin;first
    |(refine dH rfl _ _ _ rfl _ _ rfl rfl _ _ p ?_;clear p)
    |(refine dH rfl _ _ _ rfl _ _ rfl rfl _ _ j ?_;clear j))
   go_roundg (ls.length - (k+1));exact⟨P,m+1+H,Q,k+1,(g++[46])++x,by omega,by go_num,rfl,C,z,T.out,S.out,l⟩;omega
 .have HF:Hid (jnL ls=g):=ah (by rw[F.out,bQ ls k (by omega)];simp[jnG]);have D:=aN.ints y.out;have J:=t.out;clear F y;go_wp2;go_ret;exact⟨B,_,d,rfl,by rw[HF.out];exact D,J⟩
def aNL(w:World)(ls:List (List Int))(g:Nat)(s14:Value)(wx:World):Prop:=
 ∃k:Nat,g+k=ls.length/\s14= .int .i64 k/\wx=w/\Hid (fbG 0 ls=fbG k (ls.drop k))
def aNR(w:World)(ls:List (List Int))(g:Nat)(s6 s32:Value)(wx:World):Prop:=
 ∃(k:Nat)(u:Int),g+k=ls.length/\s32= .int .i64 k/\s6= .int .i64 u/\wx=w/\Hid (u=(ls.length:Int) - 1+kY (ls.take k))/\ -1<=u/\u<=ls.length+63*k
def IE2(d:Int × Int)(e:Ending):Prop:=e= .returned (.tuple #[.int .i64 d.1,.int .i64 d.2])
theorem Tj(ls:List (List Int))(A:Option Addr)(n c:Nat)(w:World)(M:rH w ⟨A,n,c⟩ ls)(hm:ls.length<=1000000):Calls prog 139 #[.slice A n c] w λe w'=>IE2 (jm ls) e/\w=w':=by
 have h:Hid (jm ls=if ls.length=0 then(0,10)else match fbG 0 ls with
  |some p=>p
  |none=>if 127<(ls.length:Int)\/253<(ls.length:Int) - 1+kY ls then(0,11)else(0,0)):=rfl
 generalize jm ls=D at*;have Q:n=ls.length:=M.1.1;subst Q;have N:=ah M;clear M;by_cases t:ls.length=0
 .rw[if_pos t]at h;have R:((ls.length:Int)==0)=true:=by rw[beq_iff_eq];omega
  have S:(ls.length==0)=true:=by rw[beq_iff_eq];omega
  clear t;go_enter func139,ntmps139;go_wp2;go_ret2;exact⟨by rw[h.out];rfl,rfl⟩
 rw[if_neg t]at h;have R:((ls.length:Int)==0)=false:=bF';have S:(ls.length==0)=false:=bF';go_enter func139,ntmps139;go_wp2;go_loopg[14] ls.length (λy z B=>aNL w ls y z B);exact⟨0,by omega,rfl,rfl,rfl⟩;obtain⟨k,hg,rfl,rfl,q⟩:=hrel;by_cases O:k<ls.length
 .obtain⟨b,o,C,E⟩:=N.out.at_ O;subst C;have i:=ah (Tc O);have l:=xG ls[k];have r:ls[k].isEmpty=decide (ls[k].length=0):=by cases ls[k]<;>simp
  rw[r]at l;generalize ls[k]=x at*;clear r;by_cases d:x.length=0
  .have f:Hid (D=((k:Int),10)):=ah (by rw[h.out,q.out,i.out,if_pos d]);rw[decide_eq_true d]at l;go_wp2;go_ret2;exact⟨by rw[f.out];rfl,rfl⟩
  rw[decide_eq_false d]at l;by_cases P:63<x.length
  .have f:Hid (D=((k:Int),11)):=ah (by rw[h.out,q.out,i.out,if_neg d,if_pos P]);go_wp2;go_ret2;exact⟨by rw[f.out];rfl,rfl⟩
  .have f:=aI q (i.out.trans (by rw[if_neg d,if_neg P]));clear q i;go_wp2;go_roundg (ls.length - (k+1));exact⟨k+1,by omega,by go_num,rfl,f⟩;omega
 .have m:fbG 0 ls=none:=by rw[q.out,bQ ls k (by omega)];rfl
  rw[m]at h;have a:Hid (D=if 127<(ls.length:Int)\/253<(ls.length:Int) - 1+kY ls then(0,11)else(0,0)):=h;have T:=ah (LC ls 0 m);clear h q m;go_wp2;go_loopg[6,32] ls.length (λy U F B=>aNR wr ls y U F B);exact⟨0,_,by omega,rfl,rfl,rfl,ah (by simp[kY]),by omega,by omega⟩;obtain⟨j,u,V,rfl,rfl,rfl,s,W,X⟩:=hrel;by_cases G:j<ls.length
  .obtain⟨b,o,C,E⟩:=N.out.at_ G;subst C;have i:Hid (kY (ls.take (j+1))=kY (ls.take j)+ls[j].length):=ah (by rw[List.take_succ_eq_append_getElem G,SS]);have Y:=T.out _ (List.getElem_mem G);generalize ls[j]=x at*;have H:Hid (u+x.length=(ls.length:Int) - 1+kY (ls.take (j+1))):=ah (by rw[i.out];have:=s.out;omega);clear s i;go_wp2;go_roundg (ls.length - (j+1));exact⟨j+1,_,by omega,by go_num,rfl,rfl,H,by omega,by omega⟩;omega
  .have I:=s.out;rw[List.take_of_length_le (by omega)]at I;rw[<- I]at a;clear s I;by_cases g:127<(ls.length:Int)
   .rw[if_pos (.inl g)]at a;have Z:decide (127<(ls.length:Int))=true:=(by rw[au];exact g);have J:decide (127<ls.length)=true:=dT';go_wp2;go_ret2;exact⟨by rw[a.out];rfl,rfl⟩
   have Z:decide (127<(ls.length:Int))=false:=(by rw[aA];exact g);have J:decide (127<ls.length)=false:=dF';by_cases K:253<u
   .rw[if_pos (.inr K)]at a;have L:decide (253<u)=true:=(by rw[au];exact K);go_wp2;go_ret2;exact⟨by rw[a.out];rfl,rfl⟩
   .rw[if_neg (by omega)]at a;have L:decide (253<u)=false:=(by rw[aA];exact K);go_wp2;go_ret2;exact⟨by rw[a.out];rfl,rfl⟩
def aNi(w:World)(ls:List (List Int))(g:Nat)(s4 s15:Value)(wx:World):Prop:=
 ∃(k:Nat)(u:Int),g+k=ls.length/\s15= .int .i64 k/\s4= .int .i64 u/\wx=w/\Hid (fbG 0 ls=fbG k (ls.drop k))/\Hid (u=(ls.length:Int) - 1+kY (ls.take k))/\ -1<=u/\u<=ls.length+63*k
theorem Tf(ls:List (List Int))(A:Option Addr)(n c:Nat)(w:World)(G:rH w ⟨A,n,c⟩ ls)(W:ls.length<=1000000):Calls prog 94 #[.slice A n c] w λe w'=>IE2 (jm ls) e/\w=w':=by
 have h:Hid (jm ls=if ls.length=0 then(0,10)else match fbG 0 ls with
  |some p=>p
  |none=>if 127<(ls.length:Int)\/253<(ls.length:Int) - 1+kY ls then(0,11)else(0,0)):=rfl
 generalize jm ls=D at*;have J:n=ls.length:=G.1.1;subst J;have K:=ah G;clear G;by_cases s:ls.length=0
 .rw[if_pos s]at h;have L:((ls.length:Int)==0)=true:=by rw[beq_iff_eq];omega
  have M:(ls.length==0)=true:=by rw[beq_iff_eq];omega
  clear s;go_enter func94,ntmps94;go_wp2;go_ret2;exact⟨by rw[h.out];rfl,rfl⟩
 rw[if_neg s]at h;have L:((ls.length:Int)==0)=false:=bF';have M:(ls.length==0)=false:=bF';go_enter func94,ntmps94;go_wp2;go_loopg[4,15] ls.length (λN O t P=>aNi w ls N O t P);exact⟨0,_,by omega,rfl,rfl,rfl,rfl,ah (by simp[kY]),by omega,by omega⟩;obtain⟨k,u,V,rfl,rfl,rfl,j,q,Q,R⟩:=hrel;by_cases y:k<ls.length
 .obtain⟨b,o,S,T⟩:=K.out.at_ y;subst S;have r:=ah (Tc y);have H:Hid (kY (ls.take (k+1))=kY (ls.take k)+ls[k].length):=ah (by rw[List.take_succ_eq_append_getElem y,SS]);have i:=xG ls[k];have l:ls[k].isEmpty=decide (ls[k].length=0):=by cases ls[k]<;>simp
  rw[l]at i;generalize ls[k]=x at*;clear l;by_cases d:x.length=0
  .have f:Hid (D=((k:Int),10)):=ah (by rw[h.out,j.out,r.out,if_pos d]);rw[decide_eq_true d]at i;go_wp2;go_ret2;exact⟨by rw[f.out];rfl,rfl⟩
  rw[decide_eq_false d]at i;by_cases I:63<x.length
  .have f:Hid (D=((k:Int),11)):=ah (by rw[h.out,j.out,r.out,if_neg d,if_pos I]);go_wp2;go_ret2;exact⟨by rw[f.out];rfl,rfl⟩
  .have f:=aI j (r.out.trans (by rw[if_neg d,if_neg I]));have z:Hid (u+x.length=(ls.length:Int) - 1+kY (ls.take (k+1))):=ah (by rw[H.out];have:=q.out;omega);clear j r q H;go_wp2;go_roundg (ls.length - (k+1));exact⟨k+1,_,by omega,by go_num,rfl,rfl,f,z,by omega,by omega⟩;omega
 .have m:fbG 0 ls=none:=by rw[j.out,bQ ls k (by omega)];rfl
  rw[m]at h;have a:Hid (D=if 127<(ls.length:Int)\/253<(ls.length:Int) - 1+kY ls then(0,11)else(0,0)):=h;have B:=q.out;rw[List.take_of_length_le (by omega)]at B;rw[<- B]at a;clear q B h j m;by_cases g:127<(ls.length:Int)
  .rw[if_pos (.inl g)]at a;have U:decide (127<(ls.length:Int))=true:=(by rw[au];exact g);have C:decide (127<ls.length)=true:=dT';go_wp2;go_ret2;exact⟨by rw[a.out];rfl,rfl⟩
  have U:decide (127<(ls.length:Int))=false:=by rw[aA];exact g
  have C:decide (127<ls.length)=false:=dF';by_cases E:253<u
  .rw[if_pos (.inr E)]at a;have F:decide (253<u)=true:=(by rw[au];exact E);go_wp2;go_ret2;exact⟨by rw[a.out];rfl,rfl⟩
  .rw[if_neg (by omega)]at a;have F:decide (253<u)=false:=(by rw[aA];exact E);go_wp2;go_ret2;exact⟨by rw[a.out];rfl,rfl⟩
def aNf(w:World)(ls:List (List Int))(g:Nat)(s6 Aa:Value)(wx:World):Prop:=
 ∃(k:Nat)(acc:List Int),g+k=ls.length/\Aa= .int .i64 k/\s6= .string (sB acc)/\acc.length<=253/\wx=w/\Hid (jnL ls=acc++jnG (k==0) (ls.drop k))
theorem aNm(ls:List (List Int))(A:Option Addr)(n c:Nat)(w:World)(p:rH w ⟨A,n,c⟩ ls)(S:ls.length<=1000000):Calls prog 95 #[.slice A n c] w (xA w (oI ls)):=by
 have j:Hid (oI ls=if(jm ls).2≠0 then([],(jm ls).2)else(jnL ls,0)):=rfl;have t:=ah (Tf ls A n c w p S);have g:=ah (@LG ls);generalize oI ls=D at*;generalize jm ls=C at*;obtain⟨T,B⟩:=C;have F:n=ls.length:=p.1.1;subst F;have G:=ah p;simp only at j g;clear p;go_enter func95,ntmps95;go_wp2_with fail;refine t.out.mono ?_;rintro e U⟨y,rfl⟩;unfold IE2 at y;subst y;by_cases q:B=0
 case neg=>
  rw[if_pos q]at j;go_wp2;go_ret2;exact⟨by rw[j.out];rfl,Ext.refl _⟩
 rw[if_neg (by rw[q];simp)]at j;subst q;have H:=(g.out rfl).2.2.1;clear g t;go_wp2;go_loopg[6,19] ls.length (λI J K L=>aNf w ls I J K L);exact⟨0,[],by omega,rfl,rfl,by simp,rfl,rfl⟩;obtain⟨k,a,V,rfl,rfl,M,rfl,i⟩:=hrel;by_cases z:k<ls.length
 .obtain⟨b,o,N,O⟩:=G.out.at_ z;subst N;have m:=ah (LD z);generalize ls[k]=x at*;by_cases f:k=0
  .have P:decide ((0:Int)<(k:Int))=false:=dF';have r:decide (0<k)=false:=dF';have d:=aI i (show _=(a++x)++jnG (k+1==0) (ls.drop (k+1))from by rw[m.out,if_pos (by rw[beq_iff_eq];exact f),List.append_assoc]);have l:=congrArg List.length d.out;simp only[List.length_append]at l;have s:x.length<=253:=(by omega);have h:(a++x).length<=253:=(by rw[List.length_append];omega);clear i m f l;go_wp2;go_roundg (ls.length - (k+1));exact⟨k+1,a++x,by omega,by go_num,rfl,h,rfl,d⟩;omega
  .have P:decide ((0:Int)<(k:Int))=true:=dT';have r:decide (0<k)=true:=dT';have d:=aI i (show _=(a++[46]++x)++jnG (k+1==0) (ls.drop (k+1))from by rw[m.out,if_neg (by rw[beq_iff_eq];exact f)];simp);have l:=congrArg List.length d.out;simp only[List.length_append,List.length_singleton]at l;have s:x.length<=253:=(by omega);have Q:(⟨#[46]⟩:ByteArray)=sB [46]:=rfl;have h:(a++[46]++x).length<=253:=(by simp only[List.length_append,List.length_singleton];omega);have W:[(46:Int)].length<=1:=Nat.le_refl _;have X:(a++[(46:Int)]).length<=254:=(by simp only[List.length_append,List.length_singleton];omega);clear i m f l;generalize[(46:Int)]=E at*;go_wp2_with fail;clear Q;go_roundg (ls.length - (k+1));exact⟨k+1,a++E++x,by omega,by go_num,by rw[List.append_assoc],h,rfl,d⟩;omega
 .have R:Hid (jnL ls=a):=ah (by rw[i.out,bQ ls k (by omega)];simp[jnG]);clear i;go_wp2;go_ret2;exact⟨by rw[j.out,R.out];rfl,Ext.refl _⟩
def mQ(T:aj)(l:List Int):Bool:=dN [1,2,3] (cO T l)
def frR(T:aj):Int->List (List Int)->Int
 |_,[]=> -1
 |i,l::r=>if vk (cO T l)≠0 then i else frR T (i+1) r
def uw(T:aj)(ls:List (List Int)):Int:=if ls.any (mQ T)=true/\frR T 0 ls≠ -1 then 19 else 0
def vw(T:aj)(ls:List (List Int)):Int:=if ls.any (mQ T)=true/\frR T 0 ls≠ -1 then frR T 0 ls else 0
theorem UA(T:aj)(l:List Int)(h:0<l.length):vk (cO T l)=LX (dN [1,2] [fJ T l[0]]) (dN [0,11] (cO T l)) (dN [1,2,3,4] (mD (cO T l))) (dN [4] (cO T l)) (dN [3] (cO T l)) (dN [0] [fJ T l[0]]) (dN [1,2,3,11] (cO T l)) (dN [0,4] (mD (cO T l))):=by
 cases l with
 |nil=>cases h
 |cons a r=>rfl
theorem LY(k m:Int)(a:0<=k)(b:k<=11)(c:((2 ^ k.toNat:Nat):Int)=m):Hid (∀w:World,Calls prog 237 #[.int .i64 k] w λe w'=>e= .returned (.int .i64 m)/\w=w'):=ah λw=>by
 have:=GN k a b w;rwa[c]at this
theorem yI(a m:Int)(b:Bool)(h:(bits .and .i64 a m != 0)=b):Hid (∀w:World,Calls prog 236 #[.int .i64 a,.int .i64 m] w λe w'=>e= .returned (.bool b)/\w=w'):=ah λw=>by
 have:=aQ2 a m w;rwa[h]at this
theorem aQG(T:aj)(t:TV)(l:List Int)(A:Option Addr)(n c:Nat)(w:World)(ht:aV w t T)(V:aF w ⟨A,n,c⟩ l)(hw:bY T=true)(hm:l.length<=4096):
 Calls prog 162 #[t.v,.slice A n c] w λe w'=>e= .returned (.int .i64 (vk (cO T l)))/\Ext w w':=by
 have j:=cZ w t;have C:=ah j;have J:=ah (ht.aB j);have O:=ah (V.ext j);have B:=ah hw;have K:=ah hm;have hn:=V.len.1;subst hn;clear ht V j hm hw;by_cases D:0<l.length
 .have m:=ah (UA T l D);have a6:(0:Int)<(l.length:Int):=by omega
  have a7:l.length<=4096:=K.out;have e0:((l.length:Int)==0)=false:=bF';obtain⟨b,o,rfl,r⟩:=O.out.at_ D;rw[Nat.add_zero]at r;have p:=GL B.out l[0];have s:=ah (LW B.out l);have E:Hid (∀w',Ext (tW' w t) w'->Calls prog 238 #[t.v,.int .i64 l[0]] w' λe g=>e= .returned (.int .i64 (fJ T l[0]))/\Ext w' g):=ah (λw' h=>LJ t T l[0] w' (J.out.aB h) (mF B.out));have F:Hid (∀w',Ext (tW' w t) w'->Calls prog 235 #[t.v,.slice (some ⟨b,o,none⟩) l.length c] w' λe g=>e= .returned (.int .i64 ((jq (cO T l):Nat):Int))/\Ext w' g):=ah (λw' h=>Ux T t l _ _ c w' (J.out.aB h) (O.out.ext h) B.out K.out);have W:Hid (∀w',Ext (tW' w t) w'->Calls prog 239 #[t.v,.slice (some ⟨b,o,none⟩) l.length c] w' λe g=>e= .returned (.int .i64 ((jq (mD (cO T l)):Nat):Int))/\Ext w' g):=ah (λw' h=>aQA T t l _ _ c w' (J.out.aB h) (O.out.ext h) B.out K.out);generalize l[0]=x0 at*;generalize fJ T x0=q at*;have x:Hid (InB [q]):=ah (by intro y X;rw[List.mem_singleton]at X;subst X;exact p);have G:Hid (∀w',Ext (w.alloc (.cells #[.slice t.s0.a t.s0.n t.s0.c,.slice t.s1.a t.s1.n t.s1.c,.slice t.s2.a t.s2.n t.s2.c,.slice t.s3.a t.s3.n t.s3.c,.slice t.s4.a t.s4.n t.s4.c,.slice t.s5.a t.s5.n t.s5.c,.slice t.s6.a t.s6.n t.s6.c,.slice t.s7.a t.s7.n t.s7.c,.slice t.s8.a t.s8.n t.s8.c,.slice t.s9.a t.s9.n t.s9.c,.slice t.s10.a t.s10.n t.s10.c,.slice t.s11.a t.s11.n t.s11.c] 26)) w'->Calls prog 237 #[.int .i64 q] w' λe g=>e= .returned (.int .i64 ((jq [q]:Nat):Int))/\Ext w' g):=ah (λw' h=>(GN q p.1 p.2 w').mono λe g Y=>⟨by rw[Uz];exact Y.1,by rw[<- Y.2];exact Ext.refl _⟩);have i:=λb h=>yI ((jq [q]:Nat):Int) 6 b h
  have i:=i _ (yJ [1,2] [q] (by unfold InB;decide) x.out 6 (by decide));have L:=yI ((jq [q]:Nat):Int) 1 _ (yJ [0] [q] (by unfold InB;decide) x.out 1 (by decide));have H:=yI _ 2049 _ (yJ [0,11] (cO T l) (by unfold InB;decide) s.out 2049 (by decide));have P:=yI _ 16 _ (yJ [4] (cO T l) (by unfold InB;decide) s.out 16 (by decide));have Z:=yI _ 8 _ (yJ [3] (cO T l) (by unfold InB;decide) s.out 8 (by decide));have Q:=yI _ 2062 _ (yJ [1,2,3,11] (cO T l) (by unfold InB;decide) s.out 2062 (by decide));have M:=yI _ 30 _ (yJ [1,2,3,4] (mD (cO T l)) (by unfold InB;decide) (Uy s.out) 30 (by decide));have M8:=yI _ 17 _ (yJ [0,4] (mD (cO T l)) (by unfold InB;decide) (Uy s.out) 17 (by decide));have S:=LY 4 16 (by omega) (by omega) (by decide);have O3:=LY 3 8 (by omega) (by omega) (by decide);have N:=LY 0 1 (by omega) (by omega) (by decide);generalize dN [1,2] [q]=b1 at*;generalize dN [0,11] (cO T l)=b2 at*;generalize dN [1,2,3,4] (mD (cO T l))=b3 at*;generalize dN [4] (cO T l)=b4 at*;generalize dN [3] (cO T l)=b5 at*;generalize dN [0] [q]=b6 at*;generalize dN [1,2,3,11] (cO T l)=b7 at*;generalize dN [0,4] (mD (cO T l))=b8 at*;generalize vk (cO T l)=R at*;generalize((jq [q]:Nat):Int)=SF at*;generalize((jq (cO T l):Nat):Int)=IJ at*;generalize((jq (mD (cO T l)):Nat):Int)=SL' at*;clear s x p B K J;have rT:∀I:ak (tW' w t),∀k:Nat,I.w.cell? ⟨w.heap.size,k,none⟩=t.v.cells[k]? :=λI=>aQ I.h
  have rX:∀I:ak (tW' w t),I.w.cell? ⟨b,o,none⟩=some (.int .i64 x0):=dD r;go_enter func162,ntmps162;go_wp2_with fail;refine rX' ?_
  repeat(go_big_quiet_step(first
   |(go_at_call 238;with_reducible exact aS (E.out _ (ak.h _)))
   |(go_at_call 237;with_reducible exact aS (G.out _ (ak.h _)))
   |(go_at_call 235;with_reducible exact aS (F.out _ (ak.h _)))
   |(go_at_call 239;with_reducible exact aS (W.out _ (ak.h _)))))
  refine wpQuiet_nil ?_;rintro _⟨yw,rfl⟩;clear rT rX r E F W G;obtain⟨U,z⟩:=eX' yw.w;have f:Ext w U:=by rw[z];exact C.out.trans' yw.h
  rw[<- z];clear z;cases b1
  case true=>
   cases b2
   case true=>
    go_wp2_with fail;refine(i.out _).mono ?_;rintro e d⟨rfl,rfl⟩;go_wp2_with fail;refine(H.out _).mono ?_;rintro e d⟨rfl,rfl⟩;go_wp2;go_ret;exact⟨by rw[m.out];rfl,f⟩
   cases b3
   case true=>
    cases b4
    case true=>
     cases b5
     case true=>
      go_wp2_with fail;refine(i.out _).mono ?_;rintro e d⟨rfl,rfl⟩;go_wp2_with fail;refine(H.out _).mono ?_;rintro e d⟨rfl,rfl⟩;go_wp2_with fail;refine(M.out _).mono ?_;rintro e d⟨rfl,rfl⟩;go_wp2_with fail;refine(S.out _).mono ?_;rintro e d⟨rfl,rfl⟩;go_wp2_with fail;refine(P.out _).mono ?_;rintro e d⟨rfl,rfl⟩;go_wp2_with fail;refine(O3.out _).mono ?_;rintro e d⟨rfl,rfl⟩;go_wp2_with fail;refine(Z.out _).mono ?_;rintro e d⟨rfl,rfl⟩;go_wp2;go_ret;exact⟨by rw[m.out];rfl,f⟩
     go_wp2_with fail;refine(i.out _).mono ?_;rintro e d⟨rfl,rfl⟩;go_wp2_with fail;refine(H.out _).mono ?_;rintro e d⟨rfl,rfl⟩;go_wp2_with fail;refine(M.out _).mono ?_;rintro e d⟨rfl,rfl⟩;go_wp2_with fail;refine(S.out _).mono ?_;rintro e d⟨rfl,rfl⟩;go_wp2_with fail;refine(P.out _).mono ?_;rintro e d⟨rfl,rfl⟩;go_wp2_with fail;refine(O3.out _).mono ?_;rintro e d⟨rfl,rfl⟩;go_wp2_with fail;refine(Z.out _).mono ?_;rintro e d⟨rfl,rfl⟩;go_wp2;go_ret;exact⟨by rw[m.out];rfl,f⟩
    go_wp2_with fail;refine(i.out _).mono ?_;rintro e d⟨rfl,rfl⟩;go_wp2_with fail;refine(H.out _).mono ?_;rintro e d⟨rfl,rfl⟩;go_wp2_with fail;refine(M.out _).mono ?_;rintro e d⟨rfl,rfl⟩;go_wp2_with fail;refine(S.out _).mono ?_;rintro e d⟨rfl,rfl⟩;go_wp2_with fail;refine(P.out _).mono ?_;rintro e d⟨rfl,rfl⟩;go_wp2;go_ret;exact⟨by rw[m.out];rfl,f⟩
   go_wp2_with fail;refine(i.out _).mono ?_;rintro e d⟨rfl,rfl⟩;go_wp2_with fail;refine(H.out _).mono ?_;rintro e d⟨rfl,rfl⟩;go_wp2_with fail;refine(M.out _).mono ?_;rintro e d⟨rfl,rfl⟩;go_wp2;go_ret;exact⟨by rw[m.out];rfl,f⟩
  cases b6
  case true=>
   cases b7
   case true=>
    go_wp2_with fail;refine(i.out _).mono ?_;rintro e d⟨rfl,rfl⟩;go_wp2_with fail;refine(N.out _).mono ?_;rintro e d⟨rfl,rfl⟩;go_wp2_with fail;refine(L.out _).mono ?_;rintro e d⟨rfl,rfl⟩;go_wp2_with fail;refine(Q.out _).mono ?_;rintro e d⟨rfl,rfl⟩;go_wp2;go_ret;exact⟨by rw[m.out];rfl,f⟩
   cases b8
   case true=>
    go_wp2_with fail;refine(i.out _).mono ?_;rintro e d⟨rfl,rfl⟩;go_wp2_with fail;refine(N.out _).mono ?_;rintro e d⟨rfl,rfl⟩;go_wp2_with fail;refine(L.out _).mono ?_;rintro e d⟨rfl,rfl⟩;go_wp2_with fail;refine(Q.out _).mono ?_;rintro e d⟨rfl,rfl⟩;go_wp2_with fail;refine(M8.out _).mono ?_;rintro e d⟨rfl,rfl⟩;go_wp2;go_ret;exact⟨by rw[m.out];rfl,f⟩
   go_wp2_with fail;refine(i.out _).mono ?_;rintro e d⟨rfl,rfl⟩;go_wp2_with fail;refine(N.out _).mono ?_;rintro e d⟨rfl,rfl⟩;go_wp2_with fail;refine(L.out _).mono ?_;rintro e d⟨rfl,rfl⟩;go_wp2_with fail;refine(Q.out _).mono ?_;rintro e d⟨rfl,rfl⟩;go_wp2_with fail;refine(M8.out _).mono ?_;rintro e d⟨rfl,rfl⟩;go_wp2;go_ret;exact⟨by rw[m.out];rfl,f⟩
  go_wp2_with fail;refine(i.out _).mono ?_;rintro e d⟨rfl,rfl⟩;go_wp2_with fail;refine(N.out _).mono ?_;rintro e d⟨rfl,rfl⟩;go_wp2_with fail;refine(L.out _).mono ?_;rintro e d⟨rfl,rfl⟩;go_wp2;go_ret;exact⟨by rw[m.out];rfl,f⟩
 .have h0:l=[]:=List.eq_nil_of_length_eq_zero (by omega);subst h0;go_enter func162,ntmps162;go_wp2;go_ret;exact⟨rfl,C.out⟩
theorem Et{T:aj}{l:List Int}(h:aX T l=0):l.length<=4096:=by
 have:=(qA h).2;omega
theorem aQH(T:aj)(t:TV)(l:List Int)(A:Option Addr)(n c:Nat)(w:World)(ht:aV w t T)(r:aF w ⟨A,n,c⟩ l)(g:aX T l=0):
 Calls prog 161 #[t.v,.slice A n c] w λe w'=>e= .returned (.bool (mQ T l))/\Ext w w':=by
 have a:=cZ w t;have i:=ah a;have m:=ah (ht.aB a);have o:=ah (r.ext a);have p:=ah g;have M:=ah (yI _ 14 _ (yJ [1,2,3] (cO T l) (by unfold InB;decide) (LW (qA g).1 l) 14 (by decide)));have s:Hid (∀w',Ext (tW' w t) w'->Calls prog 235 #[t.v,.slice A n c] w' λe j=>e= .returned (.int .i64 ((jq (cO T l):Nat):Int))/\Ext w' j):=ah (λw' h=>Ux T t l A n c w' (m.out.aB h) (o.out.ext h) (qA p.out).1 (Et p.out));have x:Hid (mQ T l=dN [1,2,3] (cO T l)):=rfl;generalize dN [1,2,3] (cO T l)=b1 at*;generalize((jq (cO T l):Nat):Int)=IJ at*;have q:=ah (xK t T l A n c _ m.out o.out);rw[g]at q;clear ht r a g;go_enter func161,ntmps161;go_wp2_with fail;refine q.out.mono ?_;rintro e y⟨v,rfl,b,_⟩;have d:=ah b;have z:∀k:Nat,y.cell? ⟨w.heap.size,k,none⟩=t.v.cells[k]? :=aQ b;clear b;go_wp2_with fail;refine(s.out _ d.out).mono ?_;rintro e C⟨rfl,f⟩;have B:=(i.out.trans' d.out).trans' f;clear z f;go_wp2_with fail;refine(M.out.out _).mono ?_;rintro e D⟨rfl,rfl⟩;go_wp2;go_ret;exact⟨by rw[x.out];rfl,B⟩
theorem Cm{w w':World}{s:SV}{ls:List (List Int)}(h:pq w s ls)(a:Ext w w'):pq w' s ls:=h.ext a
theorem Md{α:Type}(p:α->Bool)(l:List α)(k:Nat)(a:k<l.length):(l.take (k+1)).any p=((l.take k).any p||p l[k]):=by
 rw[List.take_succ_eq_append_getElem a,List.any_append];simp
theorem UE{T:aj}{ls:List (List Int)}{k:Nat}(a:k<ls.length):frR T k (ls.drop k)=if vk (cO T ls[k])≠0 then(k:Int)else frR T ((k+1:Nat):Int) (ls.drop (k+1)):=by
 rw[drop_at ls k a];rfl
def UF(T:aj)(w0:World)(ls:List (List Int))(gh:Nat)(s6 s15:Value)(wx:World):Prop:=
 ∃(k:Nat),k+gh=ls.length/\s15= .int .i64 k/\s6= .bool ((ls.take k).any (mQ T))/\Hid (Ext w0 wx)
def GU(T:aj)(w0:World)(ls:List (List Int))(gh:Nat)(s39:Value)(wx:World):Prop:=
 ∃(k:Nat),k+gh=ls.length/\s39= .int .i64 k/\Hid (ls.any (mQ T)=true->frR T k (ls.drop k)=frR T 0 ls)/\Hid (Ext w0 wx)
theorem UC{T:aj}{ls:List (List Int)}{k:Nat}(c:ls.any (mQ T)=true)(b:frR T 0 ls=(k:Int)):vw T ls=k/\uw T ls=19:=by
 have a:ls.any (mQ T)=true/\frR T 0 ls≠ -1:=⟨c,by rw[b];omega⟩;unfold vw uw;rw[if_pos a,if_pos a,b];exact⟨rfl,rfl⟩
theorem GR{T:aj}{ls:List (List Int)}(h:ls.any (mQ T)=true->frR T 0 ls= -1):vw T ls=0/\uw T ls=0:=by
 have a:¬(ls.any (mQ T)=true/\frR T 0 ls≠ -1):=λb=>b.2 (h b.1)
 unfold vw uw;rw[if_neg a,if_neg a];exact⟨rfl,rfl⟩
def UD(w:World)(T:aj)(ls:List (List Int))(e:Ending)(w':World):Prop:=e= .returned (.tuple #[.int .i64 (vw T ls),.int .i64 (uw T ls)])/\Ext w w'
theorem aQT(T:aj)(t:TV)(ls:List (List Int))(A:Option Addr)(n c:Nat)(w:World)(ht:aV w t T)(hi:pq w ⟨A,n,c⟩ ls)(hw:bY T=true)(g:∀l∈ls,aX T l=0)(hm:ls.length<=1000000):
 Calls prog 85 #[t.v,.slice A n c] w (UD w T ls):=by
 have j:=cZ w t;have z:=ah j;have Z:=ah (ht.aB j);have HI:=ah (hi.ext j);have HW:=ah hw;have HZ:=ah g;have HM:=ah hm;have hn:=hi.len.1;subst hn;clear ht hi j hw g hm;go_enter func85,ntmps85;go_wp2;go_loopg[6,15] ls.length (λI s6 a1 J=>UF T (tW' w t) ls I s6 a1 J);exact⟨0,by omega,rfl,rfl,ah (Ext.refl _)⟩;obtain⟨k,K,rfl,rfl,a⟩:=hrel;have B:∀k:Nat,wr.cell? ⟨w.heap.size,k,none⟩=t.v.cells[k]? :=aQ a.out;have ae:ls.length<=1000000:=HM.out;by_cases m:k<ls.length
 .obtain⟨f,rfl⟩:=gS' gk;obtain⟨b,o,M,N,O,rfl,P,g⟩:=(Cm HI.out a.out).at_ m;have Q:=ah g;have X:=ah (Md (mQ T) ls k m);have R:=ah (HZ.out _ (List.getElem_mem m));clear g;generalize ls[k]=x at*;have HO:=ah (xK t T x M N O wr (Z.out.aB a.out) Q.out);rw[R.out]at HO;have S:=z0' k;have U:(k:Int)<(ls.length:Int):=by omega
  go_wp2_with fail;refine HO.out.mono ?_;rintro e w1⟨v,rfl,C,_⟩;have q:=ah (a.out.trans' C);have jL:=ah C;clear B C HO;have B:∀k:Nat,w1.cell? ⟨w.heap.size,k,none⟩=t.v.cells[k]? :=aQ q.out;have gI:=ah (aQH T t x M N O w1 (Z.out.aB q.out) (Q.out.ext jL.out) R.out);generalize mQ T x=p at*;cases i:(ls.take k).any (mQ T)
  .rw[i]at X;clear i;go_wp2_with fail;refine gI.out.mono ?_;rintro e w2⟨rfl,d⟩;have D:=ah (q.out.trans' d);clear d B;go_wp2;go_roundg f;exact⟨k+1,by omega,by go_num,by rw[X.out];rfl,D⟩;omega
  .rw[i]at X;clear i;go_wp2;go_roundg f;exact⟨k+1,by omega,by go_num,by rw[X.out];rfl,q⟩;omega
 .have HE:Hid (ls.take k=ls):=ah (List.take_of_length_le (by omega));rw[HE.out];clear B;cases i:ls.any (mQ T)
  .have Y:=ah i;have y:=ah (GR (T:=T) (ls:=ls) (λh=>by rw[i]at h;cases h));clear i;go_wp2;go_loopg[39] ls.length (λI E J=>GU T (tW' w t) ls I E J);exact⟨0,by omega,rfl,ah (λ_=>rfl),a⟩;obtain⟨k,K,rfl,G,a⟩:=hrel;have F:=z.out.trans' a.out;by_cases m:k<ls.length
   .obtain⟨f,rfl⟩:=gS' gk;obtain⟨b,o,M,N,O,rfl,P,g⟩:=(Cm HI.out a.out).at_ m;have S:=z0' k;have U:(k:Int)<(ls.length:Int):=(by omega);clear g F;go_wp2;go_roundg f;exact⟨k+1,by omega,by go_num,ah (λh=>by rw[Y.out]at h;cases h),a⟩;omega
   .go_wp2;go_ret2;exact⟨by rw[y.out.1,y.out.2];rfl,F⟩
  .have Y:=ah i;clear i;go_wp2;go_loopg[39] ls.length (λI E J=>GU T (tW' w t) ls I E J);exact⟨0,by omega,rfl,ah (λ_=>rfl),a⟩;obtain⟨k,K,rfl,G,a⟩:=hrel;have F:=z.out.trans' a.out;by_cases m:k<ls.length
   .obtain⟨f,rfl⟩:=gS' gk;obtain⟨b,o,M,N,O,rfl,P,g⟩:=(Cm HI.out a.out).at_ m;have s:=ah (UE (T:=T) m);have V:=ah (aQG T t ls[k] M N O wr (Z.out.aB a.out) g HW.out (Et (HZ.out _ (List.getElem_mem m))));clear g F;generalize ls[k]=x at*;generalize vk (cO T x)=r at*;have B:∀k:Nat,wr.cell? ⟨w.heap.size,k,none⟩=t.v.cells[k]? :=aQ a.out;have S:=z0' k;have U:(k:Int)<(ls.length:Int):=(by omega);by_cases H:r=0
    .have e1:(r != 0)=false:=bZ' H
     have a3:Hid (ls.any (mQ T)=true->frR T ((k+1:Nat):Int) (ls.drop (k+1))=frR T 0 ls):=ah (λh=>by
      have W:=s.out;rw[if_neg (by rw[H];simp)]at W
      rw[<- W];exact G.out h)
     clear H s G;go_wp2_with fail;refine V.out.mono ?_;rintro e w2⟨rfl,d⟩;have D:=ah (a.out.trans' d);clear d B;go_wp2;go_roundg f;exact⟨k+1,by omega,by go_num,a3,D⟩;omega
    .have e1:(r != 0)=true:=bN' H
     have y:Hid (vw T ls=k/\uw T ls=19):=ah (by
      have W:=s.out;rw[if_pos H]at W
      exact UC Y.out ((G.out Y.out).symm.trans W))
     clear H s G;go_wp2_with fail;refine V.out.mono ?_;rintro e w2⟨rfl,d⟩;have F:=(z.out.trans' a.out).trans' d;clear d B;go_wp2;go_ret2;exact⟨by rw[y.out.1,y.out.2];rfl,F⟩
   .have y:=ah (GR (T:=T) (ls:=ls) (λh=>by rw[<- G.out h,List.drop_of_length_le (by omega)];rfl));go_wp2;go_ret2;exact⟨by rw[y.out.1,y.out.2];rfl,F⟩
def kH(T:aj)(c:Int):Bool:=c==46||(dW T c != 1&&dW T c != 4)
def gQ(T:aj)(l:List Int):Int:=
 if aX T l≠0 then aX T l else if l.length=0 then 10 else if pV T l=false then 13 else if oL l=false then 14 else if iR T (l.getD 0 0)=2 then 15
 else if l.any (kH T)=true then 16 else if(fC T l).2≠0 then(fC T l).2 else(jV T l).2
def QK(w1:World)(T:aj)(l:List Int)(gh:Nat)(s:Value)(wx:World):Prop:=
 ∃k:Nat,k+gh=l.length/\s= .int .i64 k/\Hid (Ext w1 wx)/\Hid ((l.take k).any (kH T)=false)
theorem OO{f:Int->Bool}{l:List Int}{k:Nat}(h:k<l.length):(l.take (k+1)).any f=((l.take k).any f||f l[k]):=by
 rw[List.take_succ_eq_append_getElem h,List.any_append];simp
theorem Px{f:Int->Bool}{l:List Int}{k:Nat}(h:k<l.length)(a:f l[k]=true):l.any f=true:=List.any_eq_true.2 ⟨_,List.getElem_mem h,a⟩
theorem VR(T:aj)(t:TV)(l:List Int)(A:Option Addr)(n c:Nat)(w:World)(ht:aV w t T)(hi:aF w ⟨A,n,c⟩ l):
 Calls prog 160 #[t.v,.slice A n c] w λe w'=>e= .returned (.int .i64 (gQ T l))/\Ext w w':=by
 have I:=cZ w t;have S:=ah (ht.aB I);have J:=ah (hi.ext I);have hn:=hi.len.1;subst hn;obtain⟨V,hV⟩:=eX' (gQ T l);have HV:=ah hV;rw[<- hV];clear ht hi hV;go_enter func160,ntmps160;go_wp2_with fail;refine(xK t T l A _ c _ S.out J.out).mono ?_;rintro e w1⟨v,rfl,K,_⟩;have a:=ah K;have U:Hid (∀w',Ext w1 w'->∀k:Nat,w'.cell? ⟨w.heap.size,k,none⟩=t.v.cells[k]?):=ah (λw' h=>aQ (a.out.trans' h));have d:=ah (I.trans' K);clear K;by_cases y:aX T l=0
 case neg=>
  have i:Hid (V=aX T l):=ah (by rw[HV.out,gQ,if_pos y]);have e1:(aX T l != 0)=true:=bN' y;generalize aX T l=oe at*;have g:=d.out;clear y HV;go_wp2;go_ret;exact⟨aU i.out.symm,g⟩
 have HZ:=ah y;have Y:=ah (qA y).1;have b1:=(qA y).2
 have z:Hid (V=if l.length=0 then 10 else if pV T l=false then 13 else if oL l=false then 14 else if iR T (l.getD 0 0)=2 then 15
 else if l.any (kH T)=true then 16 else if(fC T l).2≠0 then(fC T l).2 else(jV T l).2):=ah (by rw[HV.out,gQ,if_neg (by rw[y];simp)])
 rw[y];clear y HV;have lH:=U.out w1 (Ext.refl _);by_cases W:l.length=0
 .have i:Hid (V=10):=ah (by rw[z.out,if_pos W]);have e1:(l.length==0)=true:=by rw[beq_iff_eq];exact W
  have e2:((l.length:Int)==0)=true:=by rw[beq_iff_eq];omega
  have g:=d.out;clear z W;go_wp2;go_ret;exact⟨aU i.out.symm,g⟩
 have e1:(l.length==0)=false:=by rw[aP];exact W
 have e2:((l.length:Int)==0)=false:=bF'
 have lI:Hid (V=if pV T l=false then 13 else if oL l=false then 14 else if iR T (l.getD 0 0)=2 then 15
 else if l.any (kH T)=true then 16 else if(fC T l).2≠0 then(fC T l).2 else(jV T l).2):=ah (by rw[z.out,if_neg W])
 clear z;have Z:0<l.length:=by omega
 clear W;go_wp2_with fail;refine(zA' T t l A _ c _ (S.out.aB a.out) (J.out.ext a.out)).mono ?_;rintro e w2⟨rfl,a0⟩;have B:=ah a0;have fQ:=U.out w2 B.out;clear a0 lH;cases C:pV T l
 .have i:Hid (V=13):=ah (by rw[lI.out,if_pos C]);have g:=d.out.trans' B.out;clear lI C;go_wp2;go_ret;exact⟨aU i.out.symm,g⟩
 have D:Hid (V=if oL l=false then 14 else if iR T (l.getD 0 0)=2 then 15
 else if l.any (kH T)=true then 16 else if(fC T l).2≠0 then(fC T l).2 else(jV T l).2):=ah (by rw[lI.out,if_neg (by rw[C];simp)])
 clear lI C;go_wp2_with fail;refine(Wx l A _ c _ (J.out.ext (a.out.trans' B.out))).mono ?_;rintro e w3⟨rfl,a1⟩;have j:=ah (B.out.trans' a1);have gJ:=U.out w3 j.out;clear a1 fQ;cases E:oL l
 .have i:Hid (V=14):=ah (by rw[D.out,if_pos E]);have g:=d.out.trans' j.out;clear D E;go_wp2;go_ret;exact⟨aU i.out.symm,g⟩
 have m:Hid (V=if iR T (l.getD 0 0)=2 then 15 else if l.any (kH T)=true then 16 else if(fC T l).2≠0 then(fC T l).2 else(jV T l).2):=ah (by rw[D.out,if_neg (by rw[E];simp)]);clear D E;obtain⟨b,o,hA,L⟩:=J.out.at_ Z;subst hA;rw[Nat.add_zero]at L;have a2:Hid (l.getD 0 0=l[0]):=ah (getD_lt l 0 0 Z);have a3:=bD (bH (a.out.trans' j.out)) L;rw[a2.out]at m;clear a2 L;generalize l[0]=x0 at*;have b8:(0:Int)<(l.length:Int):=by omega
 have M:Hid (∀w',Ext w3 w'->Calls prog 232 #[t.v,.int .i64 x0] w' λe ap=>e= .returned (.int .i64 (iR T x0))/\Ext w' ap):=ah (λw' h=>XM t T x0 w' (S.out.aB (a.out.trans' (j.out.trans' h))) (mF Y.out));obtain⟨q,hq⟩:=eY' (iR T x0);rw[hq]at M m;clear hq gJ;have rT:∀yy:ak w3,∀k:Nat,yy.w.cell? ⟨w.heap.size,k,none⟩=t.v.cells[k]? :=λyy=>U.out _ (j.out.trans' yy.h)
 have rX:∀yy:ak w3,yy.w.cell? ⟨b,o,none⟩=some (.int .i64 x0):=dD a3;go_wp2_with fail;refine rX' ?_
 repeat(go_big_quiet_step((go_at_call 232;with_reducible exact aS (M.out _ (ak.h _)))))
 refine wpQuiet_nil ?_;rintro _⟨yw,rfl⟩;clear rT rX a3 M;obtain⟨w4,N⟩:=eX' yw.w;have a5:Hid (Ext w1 w4):=ah (by rw[N];exact j.out.trans' yw.h);rw[<- N];clear N;by_cases p:q=2
 .have i:Hid (V=15):=ah (by rw[m.out,if_pos p]);have e3:(q==2)=true:=by rw[beq_iff_eq];exact p
  have g:=d.out.trans' a5.out;clear m p;go_wp2;go_ret;exact⟨aU i.out.symm,g⟩
 have e3:(q==2)=false:=by rw[aP];exact p
 have F:Hid (V=if l.any (kH T)=true then 16 else if(fC T l).2≠0 then(fC T l).2 else(jV T l).2):=ah (by rw[m.out,if_neg p]);clear m p;rw[e3];go_wp2;go_loopg[41] l.length (λgh s wx=>QK w1 T l gh s wx);exact⟨0,by omega,rfl,a5,ah rfl⟩;obtain⟨k,ar,rfl,O,HN⟩:=hrel;have rT:=U.out wr O.out;by_cases G:k<l.length
 .obtain⟨a6,rfl⟩:=gS' gk;obtain⟨b',o',P,av⟩:=(J.out.ext (a.out.trans' O.out)).at_ G;injection P with P;injection P with e5 e6;subst e5 e6;have a7:=ah (OO (f:=kH T) G);have a8:=ah (Px (f:=kH T) G);generalize l[k]=x at*;have bf:=z0' k;have bh:(k:Int)<(l.length:Int):=by omega
  have Q:=ah (F7 t T x wr (S.out.aB (a.out.trans' O.out)) (mF Y.out));have r:Hid (kH T x=(x==46||(dW T x != 1&&dW T x != 4))):=rfl;obtain⟨s,hs⟩:=eY' (dW T x);rw[hs]at Q r;clear hs;go_wp2_with fail;refine Q.out.mono ?_;rintro e w5⟨rfl,a9⟩;have bC:=ah (O.out.trans' a9);clear a9 rT av Q;cases d1:(x==46)
  case true=>
   have i:Hid (V=16):=ah (by rw[F.out,if_pos (a8.out (by rw[r.out,d1];rfl))]);have g:=d.out.trans' bC.out;go_wp2;go_ret;exact⟨aU i.out.symm,g⟩
  cases d2:(s != 1)
  case false=>
   have R:Hid (kH T x=false):=ah (by rw[r.out,d1,d2];rfl);go_wp2;go_roundg a6;exact⟨k+1,by omega,by go_num,bC,ah (by rw[a7.out,HN.out,R.out];rfl)⟩;omega
  cases d3:(s != 4)
  case false=>
   have R:Hid (kH T x=false):=ah (by rw[r.out,d1,d2,d3];rfl);go_wp2;go_roundg a6;exact⟨k+1,by omega,by go_num,bC,ah (by rw[a7.out,HN.out,R.out];rfl)⟩;omega
  have i:Hid (V=16):=ah (by rw[F.out,if_pos (a8.out (by rw[r.out,d1,d2,d3];rfl))]);have g:=d.out.trans' bC.out;go_wp2;go_ret;exact⟨aU i.out.symm,g⟩
 .have H:Hid (V=if(fC T l).2≠0 then(fC T l).2 else(jV T l).2):=ah (by
   have h1:=HN.out;rw[List.take_of_length_le (by omega)]at h1
   rw[F.out,if_neg (by rw[h1];simp)])
  clear HN F;go_wp2_with fail;refine(Wu t T l _ _ c _ (S.out.aB (a.out.trans' O.out)) (J.out.ext (a.out.trans' O.out))).mono ?_;rintro e w6⟨rfl,aa⟩;have jC:=ah (O.out.trans' aa);have Fe:=U.out w6 jC.out;clear aa rT ar G;generalize(fC T l).1=j1 at*;by_cases X:(fC T l).2=0
  .have ax:Hid (V=(jV T l).2):=ah (by rw[H.out,if_neg (by rw[X];simp)]);rw[X];clear H X;go_wp2_with fail;refine(nJ' t T l _ _ c _ (S.out.aB (a.out.trans' jC.out)) (J.out.ext (a.out.trans' jC.out))).mono ?_;rintro e w7⟨rfl,ac⟩;have g:=d.out.trans' (jC.out.trans' ac);clear ac Fe;go_wp2;go_ret;exact⟨aU ax.out.symm,g⟩
  .have i:Hid (V=(fC T l).2):=ah (by rw[H.out,if_pos X]);have e4:((fC T l).2 != 0)=true:=bN' X;generalize(fC T l).2=j2 at*;have g:=d.out.trans' jC.out;clear H X;go_wp2;go_ret;exact⟨aU i.out.symm,g⟩
theorem Nj(T:aj)(t:TV)(l:List Int)(A:Option Addr)(n c:Nat)(w:World)(ht:aV w t T)(hi:aF w ⟨A,n,c⟩ l):
 Calls prog 63 #[t.v,.slice A n c] w λe w'=>e= .returned (.int .i64 (gQ T l))/\Ext w w':=by
 have I:=cZ w t;have S:=ah (ht.aB I);have J:=ah (hi.ext I);have hn:=hi.len.1;subst hn;obtain⟨V,hV⟩:=eX' (gQ T l);have HV:=ah hV;rw[<- hV];clear ht hi hV;go_enter func63,ntmps63;go_wp2_with fail;refine(rW t T l A _ c _ S.out J.out).mono ?_;rintro e w1⟨rfl,K⟩;have a:=ah K;have U:Hid (∀w',Ext w1 w'->∀k:Nat,w'.cell? ⟨w.heap.size,k,none⟩=t.v.cells[k]?):=ah (λw' h=>aQ (a.out.trans' h));have d:=ah (I.trans' K);clear K;by_cases y:aX T l=0
 case neg=>
  have i:Hid (V=aX T l):=ah (by rw[HV.out,gQ,if_pos y]);have e1:(aX T l != 0)=true:=bN' y;generalize aX T l=oe at*;have g:=d.out;clear y HV;go_wp2;go_ret;exact⟨aU i.out.symm,g⟩
 have HZ:=ah y;have Y:=ah (qA y).1;have b1:=(qA y).2
 have z:Hid (V=if l.length=0 then 10 else if pV T l=false then 13 else if oL l=false then 14 else if iR T (l.getD 0 0)=2 then 15
 else if l.any (kH T)=true then 16 else if(fC T l).2≠0 then(fC T l).2 else(jV T l).2):=ah (by rw[HV.out,gQ,if_neg (by rw[y];simp)])
 rw[y];clear y HV;have lH:=U.out w1 (Ext.refl _);by_cases W:l.length=0
 .have i:Hid (V=10):=ah (by rw[z.out,if_pos W]);have e1:(l.length==0)=true:=by rw[beq_iff_eq];exact W
  have e2:((l.length:Int)==0)=true:=by rw[beq_iff_eq];omega
  have g:=d.out;clear z W;go_wp2;go_ret;exact⟨aU i.out.symm,g⟩
 have e1:(l.length==0)=false:=by rw[aP];exact W
 have e2:((l.length:Int)==0)=false:=bF'
 have lI:Hid (V=if pV T l=false then 13 else if oL l=false then 14 else if iR T (l.getD 0 0)=2 then 15
 else if l.any (kH T)=true then 16 else if(fC T l).2≠0 then(fC T l).2 else(jV T l).2):=ah (by rw[z.out,if_neg W])
 clear z;have Z:0<l.length:=by omega
 clear W;go_wp2_with fail;refine(WQ T t l A _ c _ (S.out.aB a.out) (J.out.ext a.out)).mono ?_;rintro e w2⟨rfl,a0⟩;have B:=ah a0;have fQ:=U.out w2 B.out;clear a0 lH;cases C:pV T l
 .have i:Hid (V=13):=ah (by rw[lI.out,if_pos C]);have g:=d.out.trans' B.out;clear lI C;go_wp2;go_ret;exact⟨aU i.out.symm,g⟩
 have D:Hid (V=if oL l=false then 14 else if iR T (l.getD 0 0)=2 then 15
 else if l.any (kH T)=true then 16 else if(fC T l).2≠0 then(fC T l).2 else(jV T l).2):=ah (by rw[lI.out,if_neg (by rw[C];simp)])
 clear lI C;go_wp2_with fail;refine(WC l A _ c _ (J.out.ext (a.out.trans' B.out))).mono ?_;rintro e w3⟨rfl,a1⟩;have j:=ah (B.out.trans' a1);have gJ:=U.out w3 j.out;clear a1 fQ;cases E:oL l
 .have i:Hid (V=14):=ah (by rw[D.out,if_pos E]);have g:=d.out.trans' j.out;clear D E;go_wp2;go_ret;exact⟨aU i.out.symm,g⟩
 have m:Hid (V=if iR T (l.getD 0 0)=2 then 15 else if l.any (kH T)=true then 16 else if(fC T l).2≠0 then(fC T l).2 else(jV T l).2):=ah (by rw[D.out,if_neg (by rw[E];simp)]);clear D E;obtain⟨b,o,hA,L⟩:=J.out.at_ Z;subst hA;rw[Nat.add_zero]at L;have a2:Hid (l.getD 0 0=l[0]):=ah (getD_lt l 0 0 Z);have a3:=bD (bH (a.out.trans' j.out)) L;rw[a2.out]at m;clear a2 L;generalize l[0]=x0 at*;have b8:(0:Int)<(l.length:Int):=by omega
 have M:Hid (∀w',Ext w3 w'->Calls prog 124 #[t.v,.int .i64 x0] w' λe ap=>e= .returned (.int .i64 (iR T x0))/\Ext w' ap):=ah (λw' h=>WO t T x0 w' (S.out.aB (a.out.trans' (j.out.trans' h))) (YS (EW Y.out)));obtain⟨q,hq⟩:=eY' (iR T x0);rw[hq]at M m;clear hq gJ;have rT:∀yy:ak w3,∀k:Nat,yy.w.cell? ⟨w.heap.size,k,none⟩=t.v.cells[k]? :=λyy=>U.out _ (j.out.trans' yy.h)
 have rX:∀yy:ak w3,yy.w.cell? ⟨b,o,none⟩=some (.int .i64 x0):=dD a3;go_wp2_with fail;refine rX' ?_
 repeat(go_big_quiet_step((go_at_call 124;with_reducible exact aS (M.out _ (ak.h _)))))
 refine wpQuiet_nil ?_;rintro _⟨yw,rfl⟩;clear rT rX a3 M;obtain⟨w4,N⟩:=eX' yw.w;have a5:Hid (Ext w1 w4):=ah (by rw[N];exact j.out.trans' yw.h);rw[<- N];clear N;by_cases p:q=2
 .have i:Hid (V=15):=ah (by rw[m.out,if_pos p]);have e3:(q==2)=true:=by rw[beq_iff_eq];exact p
  have g:=d.out.trans' a5.out;clear m p;go_wp2;go_ret;exact⟨aU i.out.symm,g⟩
 have e3:(q==2)=false:=by rw[aP];exact p
 have F:Hid (V=if l.any (kH T)=true then 16 else if(fC T l).2≠0 then(fC T l).2 else(jV T l).2):=ah (by rw[m.out,if_neg p]);clear m p;rw[e3];go_wp2;go_loopg[41] l.length (λgh s wx=>QK w1 T l gh s wx);exact⟨0,by omega,rfl,a5,ah rfl⟩;obtain⟨k,ar,rfl,O,HN⟩:=hrel;have rT:=U.out wr O.out;by_cases G:k<l.length
 .obtain⟨a6,rfl⟩:=gS' gk;obtain⟨b',o',P,av⟩:=(J.out.ext (a.out.trans' O.out)).at_ G;injection P with P;injection P with e5 e6;subst e5 e6;have a7:=ah (OO (f:=kH T) G);have a8:=ah (Px (f:=kH T) G);generalize l[k]=x at*;have bf:=z0' k;have bh:(k:Int)<(l.length:Int):=by omega
  have Q:=ah (EM t T x wr (S.out.aB (a.out.trans' O.out)) (Jp (EW Y.out)));have r:Hid (kH T x=(x==46||(dW T x != 1&&dW T x != 4))):=rfl;obtain⟨s,hs⟩:=eY' (dW T x);rw[hs]at Q r;clear hs;go_wp2_with fail;refine Q.out.mono ?_;rintro e w5⟨rfl,a9⟩;have bC:=ah (O.out.trans' a9);clear a9 rT av Q;cases d1:(x==46)
  case true=>
   have i:Hid (V=16):=ah (by rw[F.out,if_pos (a8.out (by rw[r.out,d1];rfl))]);have g:=d.out.trans' bC.out;go_wp2;go_ret;exact⟨aU i.out.symm,g⟩
  cases d2:(s != 1)
  case false=>
   have R:Hid (kH T x=false):=ah (by rw[r.out,d1,d2];rfl);go_wp2;go_roundg a6;exact⟨k+1,by omega,by go_num,bC,ah (by rw[a7.out,HN.out,R.out];rfl)⟩;omega
  cases d3:(s != 4)
  case false=>
   have R:Hid (kH T x=false):=ah (by rw[r.out,d1,d2,d3];rfl);go_wp2;go_roundg a6;exact⟨k+1,by omega,by go_num,bC,ah (by rw[a7.out,HN.out,R.out];rfl)⟩;omega
  have i:Hid (V=16):=ah (by rw[F.out,if_pos (a8.out (by rw[r.out,d1,d2,d3];rfl))]);have g:=d.out.trans' bC.out;go_wp2;go_ret;exact⟨aU i.out.symm,g⟩
 .have H:Hid (V=if(fC T l).2≠0 then(fC T l).2 else(jV T l).2):=ah (by
   have h1:=HN.out;rw[List.take_of_length_le (by omega)]at h1
   rw[F.out,if_neg (by rw[h1];simp)])
  clear HN F;go_wp2_with fail;refine(X4 t T l _ _ c _ (S.out.aB (a.out.trans' O.out)) (J.out.ext (a.out.trans' O.out))).mono ?_;rintro e w6⟨rfl,aa⟩;have jC:=ah (O.out.trans' aa);have Fe:=U.out w6 jC.out;clear aa rT ar G;generalize(fC T l).1=j1 at*;by_cases X:(fC T l).2=0
  .have ax:Hid (V=(jV T l).2):=ah (by rw[H.out,if_neg (by rw[X];simp)]);rw[X];clear H X;go_wp2_with fail;refine(X3 t T l _ _ c _ (S.out.aB (a.out.trans' jC.out)) (J.out.ext (a.out.trans' jC.out))).mono ?_;rintro e w7⟨rfl,ac⟩;have g:=d.out.trans' (jC.out.trans' ac);clear ac Fe;go_wp2;go_ret;exact⟨aU ax.out.symm,g⟩
  .have i:Hid (V=(fC T l).2):=ah (by rw[H.out,if_pos X]);have e4:((fC T l).2 != 0)=true:=bN' X;generalize(fC T l).2=j2 at*;have g:=d.out.trans' jC.out;clear H X;go_wp2;go_ret;exact⟨aU i.out.symm,g⟩
section
variable {T:aj}
structure Scl(T:aj):Prop where
 key:∀m∈T.dec,aY m.lo=true
 tgt:∀m∈T.dec,∀c∈m.to,aY c=true
end
section
variable {T:aj}
def Mks(T:aj)(l:List Int):Prop:=CS T l/\∀z∈l,aH T z≠0
theorem Mks.tail{x:Int}{r:List Int}(h:Mks T (x::r)):Mks T r:=⟨h.1.tail,λz a=>h.2 z (by simp[a])⟩
end
theorem oW'{T:aj}{l:List Int}(h:bY T=true)(d:∀c∈l,aY c=true)(f:l.length<=4096):aX T l=0:=by
 unfold aX;rw[if_neg (by rw[h];simp),if_neg (by omega),if_neg];rw[List.any_eq_true];rintro⟨c,b,a⟩;rw[d c b]at a;simp at a
def woS:List Int:=[97,98,109,110,111,114,48,120,121]
def woJ:List Int:=[769,803,945,946,1072,1488,1576,1632,7680,7681,7682,19968,44032,8204,2381]
def woV(r:List Int):Int:=if aT 2 r=0 then woS.getD (aT 9 r.tail).toNat 0 else woJ.getD (aT 15 r.tail).toNat 0
theorem aIr(r:List Int):woV r∈woS++woJ:=by
 unfold woV;split
 .have:=fZ r.tail (n:=9) (by decide);rw[getD_lt _ _ _ (by simp[woS];omega)];exact List.mem_append_left _ (List.getElem_mem _)
 .have:=fZ r.tail (n:=15) (by decide);rw[getD_lt _ _ _ (by simp[woJ];omega)];exact List.mem_append_right _ (List.getElem_mem _)
def QL(w0 w:World)(g:Nat)(r:List Int)(e:Ending)(w':World):Prop:=e= .returned (.int .i64 (woV r))/\Src w0 w' g r.tail.tail/\Kp [g] w w'/\Ext w0 w'
theorem Qc(q w:World)(g:Nat)(r:List Int)(P:Src q w g r)(hb:Ext q w):
 Calls prog 42 #[.pointer (some ⟨g,0,none⟩)] w (QL q w g r):=by
 have S:g<w.heap.size:=by
  obtain⟨_,_,_,_,_,_,_,T,_⟩:=P;exact World.block_lt_of_cell? w _ T
 have F:=fZ r (n:=2) (by decide);obtain⟨k,G⟩:∃k:Nat,aT 2 r=k:=⟨(aT 2 r).toNat,by omega⟩;have H:k<2:=by omega
 obtain⟨V,I⟩:=eX' (woV r);have E:Hid (V=if(k:Int)=0 then woS.getD (aT 9 r.tail).toNat 0 else woJ.getD (aT 15 r.tail).toNat 0):=ah (by rw[I,woV,G]);unfold QL;rw[<- I];have U:=ah G;have Q:=ah P;clear I G F P;go_enter func42,ntmps42;go_wp2_with fail;refine(iq q w g r 2 (by decide) (by decide) Q.out hb).mono ?_;rintro e j⟨rfl,s,J,t⟩;rw[U.out];have x:=ah s;have z:=ah J;have A:=ah t;have W:=J.size;clear s J t Q
 match k,H with
 |0,_=>
  have B:Hid (V=woS.getD (aT 9 r.tail).toNat 0):=E;have K:=fZ r.tail (n:=9) (by decide);obtain⟨v,a⟩:∃v:Nat,aT 9 r.tail=v:=⟨(aT 9 r.tail).toNat,by omega⟩;have l:v<9:=by omega
  have m:Hid (V=woS.getD v 0):=ah (by rw[B.out,a,Int.toNat_natCast]);have c:=ah a;clear E B K a;go_wp2_with fail;refine(iq q j g r.tail 9 (by decide) (by decide) x.out A.out).mono ?_;rintro e R⟨rfl,d,b,f⟩;rw[c.out];have L:=ah d;have o:=ah (z.out.trans b);have p:=ah f;clear d b f c
  match v,l with
  |0,_|1,_|2,_|3,_|4,_|5,_|6,_|7,_|8,_=>
   go_wp2;go_ret;exact⟨aU (by rw[m.out];decide+kernel),L.out,o.out,p.out⟩
  |n+9,h=>exact absurd h (by omega)
 |1,_=>
  have B:Hid (V=woJ.getD (aT 15 r.tail).toNat 0):=E;have K:=fZ r.tail (n:=15) (by decide);obtain⟨v,a⟩:∃v:Nat,aT 15 r.tail=v:=⟨(aT 15 r.tail).toNat,by omega⟩;have l:v<15:=by omega
  obtain⟨y,N⟩:=eY' (woJ.getD v 0);have m:Hid (V=y):=ah (by rw[B.out,a,Int.toNat_natCast,N]);have c:=ah a;have C:Ext j (j.alloc (.cells #[.int .i64 769,.int .i64 803,.int .i64 945,.int .i64 946,.int .i64 1072,.int .i64 1488,.int .i64 1576,.int .i64 1632,.int .i64 7680,.int .i64 7681,.int .i64 7682,.int .i64 19968,.int .i64 44032,.int .i64 8204,.int .i64 2381] 3)):=(Ext.refl _).aC _;have i:(j.alloc (.cells #[.int .i64 769,.int .i64 803,.int .i64 945,.int .i64 946,.int .i64 1072,.int .i64 1488,.int .i64 1576,.int .i64 1632,.int .i64 7680,.int .i64 7681,.int .i64 7682,.int .i64 19968,.int .i64 44032,.int .i64 8204,.int .i64 2381] 3)).cell? ⟨j.heap.size,v,none⟩=some (.int .i64 y):=by
   rw[World.cell?_alloc_new,<- N]
   match v,l with
   |0,_|1,_|2,_|3,_|4,_|5,_|6,_|7,_|8,_|9,_|10,_|11,_|12,_|13,_|14,_=>rfl
   |n+15,h=>exact absurd h (by omega)
  have O:=ah C;have D:=ah i;have X:=z0' v;have Y:(v:Int)<15:=by omega
  clear E B K a N C i;go_wp2_with fail;refine(iq q _ g r.tail 15 (by decide) (by decide) (x.out.kp (M:=[]) (Kp.dn O.out) (by simp)) (A.out.trans' O.out)).mono ?_;rintro e R⟨rfl,d,b,f⟩;rw[c.out];have Z:R.cell? ⟨j.heap.size,v,none⟩=some (.int .i64 y):=(b.cell ⟨j.heap.size,v,none⟩ (by simp) (by simp;omega)).trans D.out;have L:=ah d;have o:=ah ((z.out.trans (Kp.dn O.out)).trans b);have p:=ah f;clear d b f c D;go_wp2;go_ret;exact⟨aU m.out.symm,L.out,o.out,p.out⟩
 |n+2,h=>exact absurd h (by omega)
def zJ:List (List Int):=[[120,110,45,45,98,99,104,101,114,45,107,118,97],[88,78,45,45,97],[120,110,45,45],[120,110,45,45,97,98,99,45],[97,45,45,98],[45,97],[97,98,45,45,99],[120,110,45,45,109,103,98,97]]
def zK:List (List Int):=[[195],[237,160,128],[],[65,45,98],[32],[226,128,141]]
def mV(V:List Int->Int):Nat->List Int->List Int
 |0,_=>[]
 |n+1,r=>enc1 (V r)++mV V n r.tail.tail
def wI(V:List Int->Int)(n:Nat)(r:List Int):List Int × List Int:=(mV V n r,r.drop (2*n))
def qw(r:List Int):List Int × List Int:=
 if aT 8 r=0 then(zJ.getD (aT 8 r.tail).toNat [],r.tail.tail)
 else if aT 8 r=1 then(zK.getD (aT 6 r.tail).toNat [],r.tail.tail)
 else if aT 8 r<=3 then wI ptV (1+aT 4 r.tail).toNat r.tail.tail
 else wI woV (1+aT 5 r.tail).toNat r.tail.tail
def pI:Nat->List Int->List Int
 |0,_=>[]
 |n+1,r=>(qw r).1++(if n=0 then[]else[46])++pI n (qw r).2
def nK(m:List Int):List Int:=pI (1+aT 3 m).toNat m.tail
theorem MR(r:List Int)(n:Nat):r.tail.tail.drop (2*n)=r.drop (2*(n+1)):=by
 rw[<- List.drop_one,List.drop_drop,<- List.drop_one,List.drop_drop];congr 1;omega
theorem Vh(r:List Int):aY (ptV r)=true:=by
 unfold ptV;split
 .have:=fZ r.tail (n:=12) (by decide);rw[getD_lt _ _ _ (by simp[ptS];omega)];exact(show ∀c∈ptS,aY c=true by decide) _ (List.getElem_mem _)
 .split
  .have:=fZ r.tail (n:=60) (by decide);simp only[aY,aW,Bool.or_eq_true,au];omega
  .split
   .have:=fZ r.tail (n:=4) (by decide);rw[getD_lt _ _ _ (by simp[ptJ];omega)];exact(show ∀c∈ptJ,aY c=true by decide) _ (List.getElem_mem _)
   .have:=fZ r.tail (n:=28) (by decide);rw[getD_lt _ _ _ (by simp[fA];omega)];exact(show ∀c∈fA,aY c=true by decide) _ (List.getElem_mem _)
theorem GZ(r:List Int):aY (woV r)=true:=(show ∀c∈woS++woJ,aY c=true by decide) _ (aIr r)
theorem H6{V:List Int->Int}(a:∀r,aY (V r)=true):∀n r,IsB (mV V n r)/\(mV V n r).length<=4*n
 |0,_=>⟨qI,Nat.le_refl _⟩
 |n+1,r=>by
  obtain⟨b,c⟩:=H6 a n r.tail.tail;refine⟨Dz (BN (a r)) b,?_⟩;have:=BM (V r);unfold mV;rw[List.length_append];omega
theorem Vl(r:List Int):IsB (qw r).1/\(qw r).1.length<=20:=by
 unfold qw;split
 .have:=fZ r.tail (n:=8) (by decide);show IsB (zJ.getD _ [])/\(zJ.getD _ []).length<=20
  rw[getD_lt _ _ _ (by simp[zJ];omega)];have h:∀x∈zJ,(∀c∈x,0<=c/\c<256)/\x.length<=20:=by decide
  exact h _ (List.getElem_mem _)
 split
 .have:=fZ r.tail (n:=6) (by decide);show IsB (zK.getD _ [])/\(zK.getD _ []).length<=20
  rw[getD_lt _ _ _ (by simp[zK];omega)];have h:∀x∈zK,(∀c∈x,0<=c/\c<256)/\x.length<=20:=by decide
  exact h _ (List.getElem_mem _)
 split
 .have:=fZ r.tail (n:=4) (by decide);obtain⟨a,b⟩:=H6 Vh (1+aT 4 r.tail).toNat r.tail.tail;exact⟨a,by show(mV _ _ _).length<=20;omega⟩
 .have:=fZ r.tail (n:=5) (by decide);obtain⟨a,b⟩:=H6 GZ (1+aT 5 r.tail).toNat r.tail.tail;exact⟨a,by show(mV _ _ _).length<=20;omega⟩
theorem Vj:∀n r,IsB (pI n r)/\(pI n r).length<=21*n
 |0,_=>⟨qI,Nat.le_refl _⟩
 |n+1,r=>by
  obtain⟨b,d⟩:=Vl r;obtain⟨c,f⟩:=Vj n (qw r).2;unfold pI;refine⟨Dz (Dz b ?_) c,?_⟩
  .split
   .exact qI
   .intro x a;rw[List.mem_singleton]at a;subst a;decide
  .rw[List.length_append,List.length_append];have:(if n=0 then([]:List Int)else[46]).length<=1:=by split<;>simp
   omega
theorem Vq(m:List Int):IsB (nK m)/\(nK m).length<=63:=by
 have:=fZ m (n:=3) (by decide);obtain⟨a,b⟩:=Vj (1+aT 3 m).toNat m.tail;exact⟨a,by unfold nK;omega⟩
theorem MQ{y:Int}(h:aY y=true):lM [y]=(enc1 y,0):=by
 unfold lM;rw[if_neg (by simp),if_neg (by simp[h])];show(enc1 y++[],(0:Int))=_
 rw[List.append_nil]
def Vk(w:World)(g:Nat)(V:List Int->Int)(T rr:List Int)(gh:Nat)(s4 sk:Value)(wx:World):Prop:=
 ∃(acc r:List Int),sk= .int .i64 gh/\s4= .string (sB acc)/\Src w wx g r/\Ext w wx/\Hid (T=acc++mV V gh r)/\Hid (rr=r.drop (2*gh))/\acc.length+4*gh<=1000/\g<wx.heap.size
def aWf(w:World)(g:Nat)(T:List Int)(gh:Nat)(s4 s5:Value)(wx:World):Prop:=
 ∃(acc r:List Int),s5= .int .i64 gh/\s4= .string (sB acc)/\Src w wx g r/\Ext w wx/\Hid (T=acc++pI gh r)/\acc.length+21*gh<=100/\g<wx.heap.size
theorem Src.lt{b w:World}{g:Nat}{r:List Int}(c:Src b w g r):g<w.heap.size:=by
 obtain⟨_,_,_,_,_,_,_,a,_⟩:=c;exact World.block_lt_of_cell? w _ a
theorem Vp(m:List Int)(A:Option Addr)(n c:Nat)(w:World)(h:aF w ⟨A,n,c⟩ m):
 Calls prog 12 #[.slice A n c] w λe w'=>e= .returned (.string (sB (nK m)))/\Ext w w':=by
 have HI:=ah h;clear h;go_enter func12,ntmps12;go_wp2_with fail;refine(Nk m A n c w HI.out).mono ?_;rintro e w1⟨rfl,an,b1⟩;have bs:=an.lt;generalize hg:w.heap.size=g at*;have HG:=ah hg;clear hg;go_wp2_with fail;refine(iq w w1 g m 3 (by decide) (by decide) an b1).mono ?_;rintro e w2⟨rfl,b2,b3,b4⟩;have bt:=b3.size;have bd:=fZ m (n:=3) (by decide);obtain⟨N,hN⟩:∃N:Nat,1+aT 3 m=N:=⟨(1+aT 3 m).toNat,by omega⟩;have HJ:Hid (nK m=pI N m.tail):=ah (by rw[nK,hN,Int.toNat_natCast]);have bu:N<4:=by omega
 have b5:aT 3 m=(N:Int) - 1:=by omega
 rw[b5];have bv:(1:Int)+((N:Int) - 1)=(N:Int):=by omega
 have b6:=ah b2;have b7:=ah b4;have Tz:(⟨#[46]⟩:ByteArray)=sB [46]:=rfl;have bw:([46]:List Int).length<=1:=Nat.le_refl _;have bx:(⟨#[]⟩:ByteArray)=sB []:=rfl;clear an b1 b2 b3 b4 hN bd b5;go_wp2;go_loopg[4,5] N (λgh s4 s5 wx=>aWf w g (nK m) gh s4 s5 wx);exact⟨[],m.tail,rfl,rfl,b6.out,b7.out,ah (by rw[HJ.out];rfl),by simp;omega,by omega⟩;obtain⟨b,r,rfl,rfl,b8,b9,HR,bz,bA⟩:=hrel;have ba:=ah b8;have bT:=ah b9;clear b8 b9 b6 b7;rcases Nat.eq_zero_or_pos gk with h0|al
 .subst h0;have R:Hid (nK m=b):=ah (by rw[HR.out];simp[pI]);go_wp2;go_ret;exact⟨by rw[R.out];rfl,bT.out⟩
 .obtain⟨a,rfl⟩:=gS' gk;have hd:decide ((0:Int)<((a+1:Nat):Int))=true:=by simp
  have i:decide ((1:Int)<((a+1:Nat):Int))=decide (0<a):=by rw[Bool.eq_iff_iff];simp only[au];omega
  have be:=fZ r (n:=8) (by decide);obtain⟨q,hq⟩:∃q:Nat,aT 8 r=q:=⟨(aT 8 r).toNat,by omega⟩;have bf:q<8:=by omega
  have HP:Hid (qw r=if(q:Int)=0 then(zJ.getD (aT 8 r.tail).toNat [],r.tail.tail)else if(q:Int)=1 then(zK.getD (aT 6 r.tail).toNat [],r.tail.tail)
   else if(q:Int)<=3 then wI ptV (1+aT 4 r.tail).toNat r.tail.tail else wI woV (1+aT 5 r.tail).toNat r.tail.tail):=ah (by unfold qw;rw[hq])
  have HQ:=ah hq;have bb:=ah (Vl r).2;clear be hq
  have o:Hid (∀ab r2,qw r=(ab,r2)->nK m=(b++ab++(if a=0 then[]else[46]))++pI a r2/\ab.length<=20):=ah (λab r2 h=>by
   refine⟨?_,by have:=bb.out;rw[h]at this;exact this⟩;rw[HR.out,pI,h]
   simp[List.append_assoc])
  clear HR bb;go_wp2_with fail;refine(iq w wr g r 8 (by decide) (by decide) ba.out bT.out).mono ?_;rintro e Q⟨rfl,ao,bh,bc⟩;rw[HQ.out];have jM:=ah ao;have S:=ah bc;have bB:=ao.lt;clear ao bh bc ba bT HQ
  match q,bf with
  |0,_=>
   have R:Hid (qw r=(zJ.getD (aT 8 r.tail).toNat [],r.tail.tail)):=HP;have hv:=fZ r.tail (n:=8) (by decide);obtain⟨v,H⟩:∃v:Nat,aT 8 r.tail=v:=⟨(aT 8 r.tail).toNat,by omega⟩;have aq:v<8:=(by omega);obtain⟨y,I⟩:=eY' (zJ.getD v []);have j:Hid (qw r=(y,r.tail.tail)):=ah (by rw[R.out,H,Int.toNat_natCast,I]);have T:=ah H;have U:Ext Q (Q.alloc (.cells #[.string ⟨#[120,110,45,45,98,99,104,101,114,45,107,118,97]⟩,.string ⟨#[88,78,45,45,97]⟩,.string ⟨#[120,110,45,45]⟩,.string ⟨#[120,110,45,45,97,98,99,45]⟩,.string ⟨#[97,45,45,98]⟩,.string ⟨#[45,97]⟩,.string ⟨#[97,98,45,45,99]⟩,.string ⟨#[120,110,45,45,109,103,98,97]⟩] 9)):=(Ext.refl _).aC _;have p:(Q.alloc (.cells #[.string ⟨#[120,110,45,45,98,99,104,101,114,45,107,118,97]⟩,.string ⟨#[88,78,45,45,97]⟩,.string ⟨#[120,110,45,45]⟩,.string ⟨#[120,110,45,45,97,98,99,45]⟩,.string ⟨#[97,45,45,98]⟩,.string ⟨#[45,97]⟩,.string ⟨#[97,98,45,45,99]⟩,.string ⟨#[120,110,45,45,109,103,98,97]⟩] 9)).cell? ⟨Q.heap.size,v,none⟩=some (.string (sB y)):=by
    rw[World.cell?_alloc_new,<- I]
    match v,aq with
    |0,_|1,_|2,_|3,_|4,_|5,_|6,_|7,_=>rfl
    |n+8,h=>exact absurd h (by omega)
   have jL:=ah U;have V:=ah p;have bi:=z0' v;have bj:(v:Int)<8:=(by omega);have f:=ah (o.out _ _ j.out).1;have av:=(o.out _ _ j.out).2;have aw:b.length<=100:=(by omega);clear HP R hv H I U p o j;go_wp2_with fail;refine(iq w _ g r.tail 8 (by decide) (by decide) (jM.out.kp (M:=[]) (Kp.dn jL.out) (by simp)) (S.out.trans' jL.out)).mono ?_;rintro e w4⟨rfl,k,C,s⟩;rw[T.out];have bk:w4.cell? ⟨Q.heap.size,v,none⟩=some (.string (sB y)):=(C.cell ⟨Q.heap.size,v,none⟩ (by simp) (by simp;omega)).trans V.out;have t:=ah k;have W:=ah s;have x:=k.lt;clear k C s T V jL;by_cases B:a=0
   .have d:decide (0<a)=false:=dF';have J:decide ((1:Int)<((a+1:Nat):Int))=false:=(by rw[i,d]);have l:Hid (nK m=(b++y)++pI a r.tail.tail):=ah (by have h:=f.out;rw[if_pos B,List.append_nil]at h;exact h);rw[d]at i;clear f;go_wp2;go_roundg a;exact⟨b++y,r.tail.tail,by go_num,rfl,t.out,W.out,l,by rw[List.length_append];omega,x⟩;omega
   .have d:decide (0<a)=true:=dT';have J:decide ((1:Int)<((a+1:Nat):Int))=true:=(by rw[i,d]);have l:Hid (nK m=(b++(y++[46]))++pI a r.tail.tail):=ah (by have h:=f.out;rw[if_neg B,List.append_assoc b]at h;exact h);have MS:(b++y).length<=200:=(by rw[List.length_append];omega);rw[d]at i;clear f;go_wp2;go_roundg a;exact⟨b++(y++[46]),r.tail.tail,by go_num,rfl,t.out,W.out,l,by rw[List.length_append,List.length_append];simp;omega,x⟩;omega
  |1,_=>
   have R:Hid (qw r=(zK.getD (aT 6 r.tail).toNat [],r.tail.tail)):=HP;have hv:=fZ r.tail (n:=6) (by decide);obtain⟨v,H⟩:∃v:Nat,aT 6 r.tail=v:=⟨(aT 6 r.tail).toNat,by omega⟩;have aq:v<6:=(by omega);obtain⟨y,I⟩:=eY' (zK.getD v []);have j:Hid (qw r=(y,r.tail.tail)):=ah (by rw[R.out,H,Int.toNat_natCast,I]);have T:=ah H;have U:Ext Q (Q.alloc (.cells #[.string ⟨#[195]⟩,.string ⟨#[237,160,128]⟩,.string ⟨#[]⟩,.string ⟨#[65,45,98]⟩,.string ⟨#[32]⟩,.string ⟨#[226,128,141]⟩] 9)):=(Ext.refl _).aC _;have p:(Q.alloc (.cells #[.string ⟨#[195]⟩,.string ⟨#[237,160,128]⟩,.string ⟨#[]⟩,.string ⟨#[65,45,98]⟩,.string ⟨#[32]⟩,.string ⟨#[226,128,141]⟩] 9)).cell? ⟨Q.heap.size,v,none⟩=some (.string (sB y)):=by
    rw[World.cell?_alloc_new,<- I]
    match v,aq with
    |0,_|1,_|2,_|3,_|4,_|5,_=>rfl
    |n+6,h=>exact absurd h (by omega)
   have jL:=ah U;have V:=ah p;have bi:=z0' v;have bj:(v:Int)<6:=(by omega);have f:=ah (o.out _ _ j.out).1;have av:=(o.out _ _ j.out).2;have aw:b.length<=100:=(by omega);clear HP R hv H I U p o j;go_wp2_with fail;refine(iq w _ g r.tail 6 (by decide) (by decide) (jM.out.kp (M:=[]) (Kp.dn jL.out) (by simp)) (S.out.trans' jL.out)).mono ?_;rintro e w4⟨rfl,k,C,s⟩;rw[T.out];have bk:w4.cell? ⟨Q.heap.size,v,none⟩=some (.string (sB y)):=(C.cell ⟨Q.heap.size,v,none⟩ (by simp) (by simp;omega)).trans V.out;have t:=ah k;have W:=ah s;have x:=k.lt;clear k C s T V jL;by_cases B:a=0
   .have d:decide (0<a)=false:=dF';have J:decide ((1:Int)<((a+1:Nat):Int))=false:=(by rw[i,d]);have l:Hid (nK m=(b++y)++pI a r.tail.tail):=ah (by have h:=f.out;rw[if_pos B,List.append_nil]at h;exact h);rw[d]at i;clear f;go_wp2;go_roundg a;exact⟨b++y,r.tail.tail,by go_num,rfl,t.out,W.out,l,by rw[List.length_append];omega,x⟩;omega
   .have d:decide (0<a)=true:=dT';have J:decide ((1:Int)<((a+1:Nat):Int))=true:=(by rw[i,d]);have l:Hid (nK m=(b++(y++[46]))++pI a r.tail.tail):=ah (by have h:=f.out;rw[if_neg B,List.append_assoc b]at h;exact h);have MS:(b++y).length<=200:=(by rw[List.length_append];omega);rw[d]at i;clear f;go_wp2;go_roundg a;exact⟨b++(y++[46]),r.tail.tail,by go_num,rfl,t.out,W.out,l,by rw[List.length_append,List.length_append];simp;omega,x⟩;omega
  |2,_|3,_=>
   have R:Hid (qw r=wI ptV (1+aT 4 r.tail).toNat r.tail.tail):=HP;have hv:=fZ r.tail (n:=4) (by decide);obtain⟨K,hK⟩:∃K:Nat,1+aT 4 r.tail=K:=⟨(1+aT 4 r.tail).toNat,by omega⟩;have bl:K<4+1:=(by omega);have X:aT 4 r.tail=(K:Int) - 1:=(by omega);obtain⟨y,I⟩:=eY' (mV ptV K r.tail.tail);have j:Hid (qw r=(y,r.tail.tail.drop (2*K))):=ah (by rw[R.out,hK,Int.toNat_natCast,wI,I]);have f:=ah (o.out _ _ j.out).1;have av:=(o.out _ _ j.out).2;have aw:b.length<=100:=(by omega);have HY:=ah I;have Y:=ah X;have bm:(1:Int)+((K:Int) - 1)=(K:Int):=(by omega);generalize Z:r.tail.tail.drop (2*K)=rr at*;have a0:=ah Z;clear HP R hv I o j hK X Z;go_wp2_with fail;refine(iq w Q g r.tail 4 (by decide) (by decide) jM.out S.out).mono ?_;rintro e w4⟨rfl,k,C,s⟩;rw[Y.out];have a1:=ah k;have a2:=ah s;have ax:=k.lt;clear k C s jM S Y;go_wp2;go_loopg[4,6] K (λgh s4 sk wx=>Vk w g ptV (b++y) rr gh s4 sk wx);exact⟨b,r.tail.tail,by go_num,rfl,a1.out,a2.out,ah (by rw[HY.out]),ah a0.out.symm,by omega,ax⟩;obtain⟨ac,L,rfl,rfl,a3,a4,D,F,az,aD⟩:=hrel;have G:=ah a3;have bn:=ah a4;clear a3 a4 a1 a2;rcases Nat.eq_zero_or_pos gk with h0|al
   .subst h0;have he:b++y=ac:=(by rw[D.out];simp[mV]);have aE:rr=L:=(by rw[F.out];rfl);subst aE;have t:=G;have W:=bn;have x:=aD;rw[<- he];clear D F G bn az HY a0;subst he;by_cases B:a=0
    .have d:decide (0<a)=false:=dF';have J:decide ((1:Int)<((a+1:Nat):Int))=false:=(by rw[i,d]);have l:Hid (nK m=(b++y)++pI a rr):=ah (by have h:=f.out;rw[if_pos B,List.append_nil]at h;exact h);rw[d]at i;clear f;go_wp2;go_roundg a;exact⟨b++y,rr,by go_num,rfl,t.out,W.out,l,by rw[List.length_append];omega,x⟩;omega
    .have d:decide (0<a)=true:=dT';have J:decide ((1:Int)<((a+1:Nat):Int))=true:=(by rw[i,d]);have l:Hid (nK m=(b++y++[46])++pI a rr):=ah (by have h:=f.out;rw[if_neg B]at h;exact h);have MS:(b++y).length<=200:=(by rw[List.length_append];omega);rw[d]at i;clear f;generalize a5:b++y=ay at*;have bo:ay.length<=b.length+20:=(by rw[<- a5,List.length_append];omega);clear a5;go_wp2;go_roundg a;exact⟨ay++[46],rr,by go_num,rfl,t.out,W.out,l,by rw[List.length_append];simp;omega,x⟩;omega
   .obtain⟨gj,rfl⟩:=gS' gk;have bp:decide ((0:Int)<((gj+1:Nat):Int))=true:=(by simp);obtain⟨z,hz⟩:=eY' (ptV L);have a6:aY z=true:=(by rw[<- hz];exact Vh L);have aL:Hid (b++y=(ac++enc1 z)++mV ptV gj L.tail.tail):=ah (by rw[D.out,mV,hz];simp);have aM:Hid (rr=L.tail.tail.drop (2*gj)):=ah (by rw[F.out,MR]);have HZ:=ah hz;have a7:=ah a6;have bq:=BM z;have br:ac.length<=1000:=(by omega);clear D F hz a6 f;go_wp2_with fail;refine(YF w wr g L G.out bn.out).mono ?_;rintro e w5⟨rfl,a8,aR,a9⟩;rw[HZ.out];have O:Ext w5 (w5.alloc (.cells #[.int .i64 z] 3)):=(Ext.refl _).aC _;have HE:=ah (DN [z] (some ⟨w5.heap.size,0,none⟩) 1 1 _ (iC w5 z));rw[MQ a7.out]at HE;have kR:=ah (a8.kp (M:=[]) (Kp.dn O) (by simp));have bC:=ah (a9.trans' O);clear a8 aR a9 O G bn;go_wp2_with fail;refine HE.out.mono ?_;rintro e w6⟨rfl,P⟩;have aa:=ah (kR.out.kp (M:=[]) (Kp.dn P) (by simp));have jC:=ah (bC.out.trans' P);have b0:=aa.out.lt;clear P kR bC HE HZ a7;generalize hE:enc1 z=E at*;clear hE;go_wp2;go_roundg gj;exact⟨ac++E,L.tail.tail,by go_num,rfl,aa.out,jC.out,aL,aM,by rw[List.length_append];omega,b0⟩;omega
  |4,_|5,_|6,_|7,_=>
   have R:Hid (qw r=wI woV (1+aT 5 r.tail).toNat r.tail.tail):=HP;have hv:=fZ r.tail (n:=5) (by decide);obtain⟨K,hK⟩:∃K:Nat,1+aT 5 r.tail=K:=⟨(1+aT 5 r.tail).toNat,by omega⟩;have bl:K<5+1:=(by omega);have X:aT 5 r.tail=(K:Int) - 1:=(by omega);obtain⟨y,I⟩:=eY' (mV woV K r.tail.tail);have j:Hid (qw r=(y,r.tail.tail.drop (2*K))):=ah (by rw[R.out,hK,Int.toNat_natCast,wI,I]);have f:=ah (o.out _ _ j.out).1;have av:=(o.out _ _ j.out).2;have aw:b.length<=100:=(by omega);have HY:=ah I;have Y:=ah X;have bm:(1:Int)+((K:Int) - 1)=(K:Int):=(by omega);generalize Z:r.tail.tail.drop (2*K)=rr at*;have a0:=ah Z;clear HP R hv I o j hK X Z;go_wp2_with fail;refine(iq w Q g r.tail 5 (by decide) (by decide) jM.out S.out).mono ?_;rintro e w4⟨rfl,k,C,s⟩;rw[Y.out];have a1:=ah k;have a2:=ah s;have ax:=k.lt;clear k C s jM S Y;go_wp2;go_loopg[4,9] K (λgh s4 sk wx=>Vk w g woV (b++y) rr gh s4 sk wx);exact⟨b,r.tail.tail,by go_num,rfl,a1.out,a2.out,ah (by rw[HY.out]),ah a0.out.symm,by omega,ax⟩;obtain⟨ac,L,rfl,rfl,a3,a4,D,F,az,aD⟩:=hrel;have G:=ah a3;have bn:=ah a4;clear a3 a4 a1 a2;rcases Nat.eq_zero_or_pos gk with h0|al
   .subst h0;have he:b++y=ac:=(by rw[D.out];simp[mV]);have aE:rr=L:=(by rw[F.out];rfl);subst aE;have t:=G;have W:=bn;have x:=aD;rw[<- he];clear D F G bn az HY a0;subst he;by_cases B:a=0
    .have d:decide (0<a)=false:=dF';have J:decide ((1:Int)<((a+1:Nat):Int))=false:=(by rw[i,d]);have l:Hid (nK m=(b++y)++pI a rr):=ah (by have h:=f.out;rw[if_pos B,List.append_nil]at h;exact h);rw[d]at i;clear f;go_wp2;go_roundg a;exact⟨b++y,rr,by go_num,rfl,t.out,W.out,l,by rw[List.length_append];omega,x⟩;omega
    .have d:decide (0<a)=true:=dT';have J:decide ((1:Int)<((a+1:Nat):Int))=true:=(by rw[i,d]);have l:Hid (nK m=(b++y++[46])++pI a rr):=ah (by have h:=f.out;rw[if_neg B]at h;exact h);have MS:(b++y).length<=200:=(by rw[List.length_append];omega);rw[d]at i;clear f;generalize a5:b++y=ay at*;have bo:ay.length<=b.length+20:=(by rw[<- a5,List.length_append];omega);clear a5;go_wp2;go_roundg a;exact⟨ay++[46],rr,by go_num,rfl,t.out,W.out,l,by rw[List.length_append];simp;omega,x⟩;omega
   .obtain⟨gj,rfl⟩:=gS' gk;have bp:decide ((0:Int)<((gj+1:Nat):Int))=true:=(by simp);obtain⟨z,hz⟩:=eY' (woV L);have a6:aY z=true:=(by rw[<- hz];exact GZ L);have aL:Hid (b++y=(ac++enc1 z)++mV woV gj L.tail.tail):=ah (by rw[D.out,mV,hz];simp);have aM:Hid (rr=L.tail.tail.drop (2*gj)):=ah (by rw[F.out,MR]);have HZ:=ah hz;have a7:=ah a6;have bq:=BM z;have br:ac.length<=1000:=(by omega);clear D F hz a6 f;go_wp2_with fail;refine(Qc w wr g L G.out bn.out).mono ?_;rintro e w5⟨rfl,a8,aR,a9⟩;rw[HZ.out];have O:Ext w5 (w5.alloc (.cells #[.int .i64 z] 3)):=(Ext.refl _).aC _;have HE:=ah (DN [z] (some ⟨w5.heap.size,0,none⟩) 1 1 _ (iC w5 z));rw[MQ a7.out]at HE;have kR:=ah (a8.kp (M:=[]) (Kp.dn O) (by simp));have bC:=ah (a9.trans' O);clear a8 aR a9 O G bn;go_wp2_with fail;refine HE.out.mono ?_;rintro e w6⟨rfl,P⟩;have aa:=ah (kR.out.kp (M:=[]) (Kp.dn P) (by simp));have jC:=ah (bC.out.trans' P);have b0:=aa.out.lt;clear P kR bC HE HZ a7;generalize hE:enc1 z=E at*;clear hE;go_wp2;go_roundg gj;exact⟨ac++E,L.tail.tail,by go_num,rfl,aa.out,jC.out,aL,aM,by rw[List.length_append];omega,b0⟩;omega
  |n+8,h=>exact absurd h (by omega)
end Go.Proofs.YtlmkgaoakcjlnaaGreatDoor
