/- Part Bx20. -/
import Derived.Test.YtlmkgaoakcjlnaaGreatDoorBx19
import Derived.Laws.ResultCell
import Derived.Laws.Tables
import Derived.Laws.Rows
import Derived.Laws.Cover1
import Derived.Deep.WholeRow
open Go.Proofs.Tryz
namespace Go.Proofs.YtlmkgaoakcjlnaaGreatDoor
set_option maxHeartbeats 25600000
set_option maxRecDepth 100000
open Go.RowKit
variable (T:aj)(t:TV)(s:List Int)(w:World)
def zL(T:aj)(l:List Int):Nat->Int->Bool
 |0,_=>false
 |n+1,k=>if fD T l (aN 3 ||| aN k)=true then true else zL T l n (k+1)
theorem aCs(l:List Int):rC T l=zL T l 3 61:=by
 simp only[rC,zL];rw[show(61:Int)+1=62 from rfl,show(62:Int)+1=63 from rfl];cases fD T l (aN 3 ||| aN 61)<;>cases fD T l (aN 3 ||| aN 62)<;>cases fD T l (aN 3 ||| aN 63)<;>rfl
theorem or8(k:Int):bits .or .u64 8 (uv (aN k))=uv (aN 3 ||| aN k):=by
 rw[<- uD,show uv (aN 3)=8 from by decide+kernel]
theorem aF2(v:BitVec 64):eX v lI=(v != 0#64):=by
 unfold eX;rw[show lI=BitVec.allOnes 64 from by decide+kernel,BitVec.and_allOnes]
theorem YF(T:aj)(l:List Int)(A:Option Addr)(n c:Nat)(w:World)(ht:aW w t T)(h:aF w ⟨A,n,c⟩ l):
 cE' 50 #[t.v,.slice A n c] w (.tuple #[.int .i64 (qG T l),.int .i64 (aX T l)]):=by
 obtain⟨hn,aZ,b9⟩:=h.len;subst hn;have g:=dw w t;have HT:=ah (ht.aC g);have HI:=ah (h.ext g);have HO:=ah (tK t T l A l.length c _ HT.out HI.out);clear ht h;by_cases M:aX T l=0
 .have HW:=ah (Ed M);have J:=ah M;have E:Hid (qG T l=uf T l):=ah (by rw[qG,pP' M])
  have HS:Hid (∀x v,nH T x=v->∀w',Ext (tW' w t) w'->cE' 97 #[t.v,.int .i64 x] w' (.int .u64 (uv v))):=ah (λx v i w' j=>by
   have K:=JL t T x w' (HT.out.aC j) HW.out;rw[i]at K
   exact K)
  have Z:Hid (∀v,(resT T l != 0#64)=v->∀w',Ext (tW' w t) w'->cE' 98 #[t.v,.slice A l.length c] w' (.bool v)):=ah (λv i w' j=>by
   have K:=Yv t T l A l.length c w' (HT.out.aC j) (HI.out.ext j);rw[show yE T l=(resT T l != 0#64)from by rw[yE,J.out];rfl,i]at K
   exact K)
  have a0:Hid (∀m v,fD T l m=v->∀w',Ext (tW' w t) w'->cE' 99 #[t.v,.slice A l.length c,.int .u64 (uv m)] w' (.bool v)):=ah (λm v i w' j=>by
   have K:=Ym t T l m A l.length c w' (HT.out.aC j) (HI.out.ext j);rw[show BU T l m=fD T l m from by rw[BU,J.out];rfl,i]at K
   exact K)
  have a1:Hid (uf T l=if oI l=true then 1 else if(resT T l != 0#64)=true then 2 else if rC T l=true then 3 else if nS T l 58 3=true then 4 else if fD T l lI=true then 5 else 6):=rfl;have a2:=ah (aCs T l);have a3:Hid ((resT T l != 0#64)=false->tV T l 58 3=nS T l 58 3):=ah mod_eq;clear M;go_enter func50,ntmps50;go_wp2_with fail;refine HO.out.mono ?_;rintro e w1⟨rfl,F⟩;rw[J.out];have ao:=ah F;clear F;go_wp2;go_loopw[7,8,21] (λs7 s8 N wr=>∃(k:Nat)(a b:Bool),k<=l.length/\N=.int .i64 k/\s7=.bool a/\s8=.bool b/\Hid (oI l=(a&&oI (l.drop k)))/\Hid (fD T l lI=(b&&fD T (l.drop k) lI))/\Ext (tW' w t) wr) (λ_ _ N _=>l.length-(intOf N).toNat);exact⟨0,true,true,zl' _,rfl,rfl,rfl,rfl,rfl,ao.out⟩;obtain⟨k,a,b,hk,rfl,rfl,rfl,HA,HK,d⟩:=hrel;have O:=ah d;have rT:∀k:Nat,wr.cell? ⟨w.heap.size,k,none⟩=t.v.cells[k]? :=aQ d;clear d;by_cases s:k<l.length
  .obtain⟨bb,o,ha,h1⟩:=(HI.out.ext O.out).at_ s;subst ha;have HD:=ah (drop_at l k s);generalize l[k]=x at*;obtain⟨v,i⟩:=eY' (nH T x);have HC:=ah (HS.out x v i wr O.out);have y:Hid (oI l=((a&&decide (x<=127))&&oI (l.drop (k+1)))):=ah (by rw[HA.out,HD.out,oI,List.all_cons,Bool.and_assoc];rfl);have z:Hid (fD T l lI=((b&&eX v lI)&&fD T (l.drop (k+1)) lI)):=ah (by rw[HK.out,HD.out,fD,List.all_cons,i,Bool.and_assoc];rfl);have q1:(uv v != 0)=eX v lI:=(by rw[aF2,<- uv_zero,bne,uv_beq];rfl);have dx:decide (x<128)=decide (x<=127):=by
    by_cases h:x<=127
    .rw[dt' h,dt' (by omega)]
    .rw[df' h,df' (by omega)]
   obtain⟨p,hp⟩:=eY' (decide (x<=127));obtain⟨q,hq⟩:=eY' (eX v lI);rw[hp]at y dx;rw[hq]at z q1;clear HA HK HD i hp hq;cases a<;>cases b<;>cases p
   all_goals
    go_wp2_with(go_at_call 97;refine HC.out.mono ?_;rintro e w2⟨rfl,ar⟩);go_roundw
    case rel=>
     first
      |exact⟨k+1,_,_,by omega,by go_num,rfl,rfl,y,z,O.out⟩
      |exact⟨k+1,_,q,by omega,by go_num,rfl,rfl,y,z,O.out.trans' ar⟩
    case measure=>simp[intOf];omega
  .have y:Hid (oI l=a):=ah (by rw[HA.out,bT l k (by omega)];simp[oI]);have z:Hid (fD T l lI=b):=ah (by rw[HK.out,bT l k (by omega)];simp[fD]);clear HA HK;obtain⟨r2,G⟩:=eY' (resT T l != 0#64);have av:=ah (Z.out r2 G wr O.out);have V4:Hid (r2=false->tV T l 58 3=nS T l 58 3):=ah (λh=>a3.out (G.trans h));have EJ:Hid (qG T l=if a=true then 1 else if r2=true then 2 else if rC T l=true then 3 else if nS T l 58 3=true then 4 else if b=true then 5 else 6):=ah (by rw[E.out,a1.out,y.out,z.out,G]);obtain⟨L,hL⟩:=eY' (qG T l);rw[hL]at EJ;have B:=ah hL;clear hL G E a1 a3 Z;cases a
   case true=>
    have H:Hid (L=1):=ah EJ.out;have I:=g.trans' O.out;go_wp2;go_ret2;exact⟨sN (B.out.trans H.out).symm J.out.symm,I⟩
   go_wp2_with fail;refine av.out.mono ?_;rintro e w3⟨rfl,a6⟩;have eH:=ah (O.out.trans' a6);clear a6 rT;cases r2
   case true=>
    have H:Hid (L=2):=ah EJ.out;have I:=g.trans' eH.out;go_wp2;go_ret2;exact⟨sN (B.out.trans H.out).symm J.out.symm,I⟩
   have a7:=ah (V4.out rfl);obtain⟨R1,P⟩:=eY' (rC T l);obtain⟨Q,S⟩:=eY' (nS T l 58 3);have U:Hid (L=if R1=true then 3 else if Q=true then 4 else if b=true then 5 else 6):=ah (by rw[EJ.out,P,S];rfl);have a9:Hid (R1=zL T l 3 61):=ah (by rw[<- P,a2.out]);have ax:Hid (Q=tV T l 58 3):=ah (by rw[<- S,a7.out]);clear P S EJ a7 V4 a2;go_wp2;go_loopw[11] (λV wr=>∃(k:Int)(f:Nat),61<=k/\k<=64/\k+f=64/\V=.int .i64 k/\Hid (R1=zL T l f k)/\Ext (tW' w t) wr) (λV _=>(64-intOf V).toNat);exact⟨61,3,by omega,by omega,by omega,rfl,a9,eH.out⟩;obtain⟨k,f,ay,az,aD,rfl,C,d⟩:=hrel;obtain⟨w4,rfl⟩:=eX' wr;have W:=ah d;have rT:∀k:Nat,w4.cell? ⟨w.heap.size,k,none⟩=t.v.cells[k]? :=aQ d;clear d;by_cases s:k<=63
   .obtain⟨f,rfl⟩:=gS' f;obtain⟨v,i⟩:=eY' (fD T l (aN 3 ||| aN k));have D:Hid (R1=if v=true then true else zL T l f (k+1)):=ah (by rw[C.out,zL,i]);have HC:=ah (a0.out _ v i w4 W.out);have q1:=or8 k;have aL:IntKind.u64.wrap (2 ^ k.toNat)=uv (aN k):=Gi (by omega) s;have k0:0<=k:=(by omega);clear C i;go_wp2_with fail;refine HC.out.mono ?_;rintro e w5⟨rfl,aa⟩;have dU:=ah (W.out.trans' aa);clear aa;cases v
    .have E:Hid (R1=zL T l f (k+1)):=ah (by rw[D.out];rfl);go_wp2;go_roundw;exact⟨k+1,f,by omega,by omega,by omega,by go_num,E,dU.out⟩;simp[intOf];omega
    .have H:Hid (L=3):=ah (by rw[U.out,D.out];rfl);have I:=g.trans' dU.out;go_wp2;go_ret2;exact⟨sN (B.out.trans H.out).symm J.out.symm,I⟩
   .have aM:k=64:=(by omega);subst aM;have X:f=0:=(by omega);subst X;have ab:Hid (L=if Q=true then 4 else if b=true then 5 else 6):=ah (by rw[U.out,C.out];rfl);clear C U a9;go_wp2;go_loopw[12] (λY wr=>∃(k:Int)(f:Nat),3<=k/\k<=61/\k+f=61/\Y=.int .i64 k/\Hid (Q=tV T l f k)/\Ext (tW' w t) wr) (λY _=>(61-intOf Y).toNat);exact⟨3,58,by omega,by omega,by omega,rfl,ax,W.out⟩;obtain⟨k,f,ay,az,aD,rfl,C,d⟩:=hrel;obtain⟨w6,rfl⟩:=eX' wr;have iC:=ah d;have Gt:∀k:Nat,w6.cell? ⟨w.heap.size,k,none⟩=t.v.cells[k]? :=aQ d;clear d;by_cases s:k<=60
    .obtain⟨f,rfl⟩:=gS' f;by_cases MR:k=3\/k=4\/k=5
     .have E:Hid (Q=tV T l f (k+1)):=ah (by rw[C.out,tV];rcases MR with rfl|rfl|rfl<;>rfl);clear C;rcases MR with rfl|rfl|rfl
      all_goals
       go_wp2;go_roundw;exact⟨_,f,by omega,by omega,by omega,by go_num,E,iC.out⟩;simp[intOf]
     .have e3:(k != 3)=true:=(by rw[bne_iff_ne];omega);have e4:(k != 4)=true:=(by rw[bne_iff_ne];omega);have e5:(k != 5)=true:=(by rw[bne_iff_ne];omega);obtain⟨v,i⟩:=eY' (fD T l (aN 3 ||| aN k));have D:Hid (Q=if v=true then true else tV T l f (k+1)):=ah (by rw[C.out,tV,e3,e4,e5,i];rfl);have HC:=ah (a0.out _ v i w6 iC.out);have q1:=or8 k;have aL:IntKind.u64.wrap (2 ^ k.toNat)=uv (aN k):=Gi (by omega) (by omega);have k0:0<=k:=(by omega);have bo:k<=64:=(by omega);clear C i MR;go_wp2_with fail;refine HC.out.mono ?_;rintro e w7⟨rfl,ac⟩;have jA:=ah (iC.out.trans' ac);clear ac;cases v
      .have E:Hid (Q=tV T l f (k+1)):=ah (by rw[D.out];rfl);go_wp2;go_roundw;exact⟨k+1,f,by omega,by omega,by omega,by go_num,E,jA.out⟩;simp[intOf];omega
      .have H:Hid (L=4):=ah (by rw[ab.out,D.out];rfl);have I:=g.trans' jA.out;go_wp2;go_ret2;exact⟨sN (B.out.trans H.out).symm J.out.symm,I⟩
    .have N8:k=61:=(by omega);subst N8;have X:f=0:=(by omega);subst X;have H:Hid (L=if b=true then 5 else 6):=ah (by rw[ab.out,C.out];rfl);have I:=g.trans' iC.out;clear C;cases b
     all_goals
      have aY:=ah H.out;go_wp2;go_ret2;exact⟨sN ((B.out.trans aY.out).trans rfl).symm J.out.symm,I⟩
 .have E:Hid (qG T l=0):=ah (by rw[qG,nN' M]);have d1:(aX T l != 0)=true:=bN' M;clear M;generalize aX T l=ee at*;go_enter func50,ntmps50;go_wp2_with fail;refine HO.out.mono ?_;rintro e w1⟨rfl,F⟩;go_wp2;go_ret2;exact⟨sN E.out.symm rfl,g.trans' F⟩
theorem aTT{c:Int}(h:0<=c/\c<=127):bf c=true:=by
 simp only[bf,aU,oT',au];omega
theorem aUR{c:Int}(h:0<=c/\c<=127):fM c=true:=by
 simp only[fM,aU,oT',au];omega
theorem aT0{T:aj}{c:Int}(h:0<=c/\c<=127):dZ T c=sV c:=by
 rw[dZ,nI,nN' (by rw[aTT h];simp),pP' (aUR h)]
theorem aSl(P:Int->Prop)(h:∀n:Fin 128,P (n.val:Int)){c:Int}(a:0<=c/\c<=127):P c:=by
 have:=h ⟨c.toNat,by omega⟩;simp only at this;rwa[Int.toNat_of_nonneg a.1]at this
theorem aTY{c:Int}(h:0<=c/\c<=127):(sV c=1\/sV c=4)->nameB c=true\/c=46:=
 aSl (λc=>(sV c=1\/sV c=4)->nameB c=true\/c=46) (by decide+kernel) h
theorem Xd{c:Int}(h:nameB c=true):0<=c/\c<=127/\c≠46/\(c<65\/90<c):=by
 simp only[nameB,oT',aU,au]at h;omega
theorem X4{T:aj}{c:Int}(h:kV T c=false):c≠46/\(dZ T c=1\/dZ T c=4):=by
 simp only[kV,oF',aO,aF',bne_eq_false_iff_eq]at h;exact h
theorem WU{T:aj}{c:Int}(h:kV T c=false)(b:0<=c/\c<=127):nameB c=true:=by
 obtain⟨d,a⟩:=X4 h;rw[aT0 b]at a;exact(aTY b a).resolve_right d
theorem WY{T:aj}{l:List Int}(h:iy T l=0):aX T l=0/\l≠[]/\qI T l=true/\qc l=true/\∀c∈l,kV T c=false:=by
 unfold iy at h;split at h
 .exact absurd h ‹_›
 rename_i b;split at h
 .exact absurd h (by decide)
 rename_i d;split at h
 .exact absurd h (by decide)
 rename_i f;split at h
 .exact absurd h (by decide)
 rename_i g;split at h
 .exact absurd h (by decide)
 split at h
 .exact absurd h (by decide)
 rename_i a;refine⟨Decidable.not_not.1 b,λe=>d (by rw[e];rfl),by simpa using f,by simpa using g,λc i=>?_⟩;rw[Bool.not_eq_true,List.any_eq_false]at a;simpa using a c i
theorem aT3{d:Int}(h:0<=d/\d<36):nameB (eU d)=true:=by
 unfold eU;simp only[nameB,oT',aU,au];split<;>omega
theorem WZ{l:List Int}(c:jQ l=true)(h:(alE l).2=0):alE l=(l,0)/\l.length<=63/\l≠[]:=by
 by_cases a:l.length=0
 .rw[alE,pP' a]at h;exact absurd h (by decide)
 rw[alE,nN' a,pP' c]at h |-;by_cases b:63<l.length
 .rw[pP' b]at h;exact absurd h (by decide)
 .rw[nN' b];exact⟨rfl,by omega,λe=>a (by rw[e];rfl)⟩
theorem X3{l:List Int}(i:jQ l=false)(h:(alE l).2=0):alE l=([120,110,45,45]++kN l,0)/\(kN l).length<=59/\l.length<=256/\(∀x∈l,bf x=true)/\(jO l).2=0:=by
 by_cases g:l.length=0
 .rw[alE,pP' g]at h;exact absurd h (by decide)
 rw[alE,nN' g,nN' (by rw[i];simp)]at h |-;by_cases d:(jO l).2≠0
 .rw[pP' d]at h;exact absurd h d
 rw[nN' d]at h |-;by_cases f:63<(jO l).1.length+4
 .rw[pP' f]at h;exact absurd h (by decide)
 rw[nN' f];obtain⟨a,b,c⟩:=Nu (Decidable.not_not.1 d);rw[c]at f |-;exact⟨rfl,by omega,a,b,Decidable.not_not.1 d⟩
theorem O8{l:List Int}(h:∀x∈l,bf x=true):∀x∈l,0<=x/\x<=1114111:=λx a=>by
 have:=h x a;simp only[bf,aU,au]at this;omega
theorem aTl{T:aj}{l:List Int}(g:∀c∈l,kV T c=false)(b:∀x∈l,bf x=true)(h:l.length<=256):∀c∈kN l,nameB c=true:=by
 intro c a;unfold kN mG at a;rw[List.mem_append,List.mem_append]at a;rcases a with(a|a)|a
 .rw[jd,List.mem_filter]at a;have i:=O8 b c a.1;have j:=of_decide_eq_true a.2;exact WU (g c a.1) (by omega)
 .split at a
  .cases a
  .rw[List.mem_singleton]at a;subst a;decide
 .rw[List.mem_map]at a;obtain⟨d,f,rfl⟩:=a;exact aT3 ((Ii (O8 b) h).2.1 d f)
theorem aTR{T:aj}{l:List Int}(h:iy T l=0)(f:(alE l).2=0):∀c∈(alE l).1,nameB c=true:=by
 obtain⟨_,_,_,_,d⟩:=WY h;cases b:jQ l with
 |true=>
  rw[(WZ b f).1];exact λc a=>WU (d c a) (F6 b c a)
 |false=>
  obtain⟨e,_,g,i,_⟩:=X3 b f;rw[e];intro c a;rw[List.mem_append]at a;rcases a with a|a
  .simp only[List.mem_cons,List.not_mem_nil,or_false]at a;rcases a with rfl|rfl|rfl|rfl<;>decide
  .exact aTl d i g c a
theorem O7:∀{L:List (List Int)}{i:Int},oU i L=none->∀l∈L,(alE l).2=0
 |[],_,_,l,a=>by cases a
 |x::r,i,h,l,a=>by
  unfold oU at h;split at h
  .cases h
  .rename_i b;rcases List.mem_cons.1 a with rfl|a
   .exact Decidable.not_not.1 b
   .exact O7 h l a
theorem O5:∀{L:List (List Int)}{i:Int}{q:Int×Int},oU i L=some q->i<=q.1/\q.2≠0
 |[],_,_,h=>by cases h
 |x::r,i,q,h=>by
  unfold oU at h;split at h
  .injection h with h;subst h;exact⟨Int.le_refl _,‹_›⟩
  .have:=O5 h;exact⟨by omega,this.2⟩
theorem WT{T:aj}:∀{L:List (List Int)}{i:Int}{q:Int×Int},mJ T i L=some q->i<=q.1/\q.2≠0
 |[],_,_,h=>by cases h
 |x::r,i,q,h=>by
  unfold mJ at h;split at h
  .injection h with h;subst h;exact⟨Int.le_refl _,‹_›⟩
  .have:=WT h;exact⟨by omega,this.2⟩
theorem WX{O:List (List Int)}(h:(jF O).2=0):O.length≠0/\fbG 0 O=none/\O.length<=127/\(O.length:Int)-1+lN O<=253/\jF O=(0,0):=by
 have c:∀(L:List (List Int))(k:Nat)(q:Int×Int),fbG k L=some q->q.2≠0:=by
  intro L
  induction L with
  |nil=>intro k q h;cases h
  |cons x r ih=>
   intro k q h;unfold fbG at h;split at h
   .injection h with h;subst h;show(10:Int)≠0;decide
   .split at h
    .injection h with h;subst h;show(11:Int)≠0;decide
    .exact ih _ _ h
 unfold jF at h |-;split at h
 .exact absurd h (by decide)
 rename_i b;rw[nN' b];cases a:fbG 0 O with
 |some q=>
  rw[a]at h;exact absurd h (c _ _ _ a)
 |none=>
  rw[a]at h;simp only at h |-;split at h
  .exact absurd h (by decide)
  .rename_i d;rw[nN' d];exact⟨b,by first|rfl|trivial,by omega,by omega,rfl⟩
theorem aUS{O:List (List Int)}:0<=(jF O).1:=by
 have a:∀(L:List (List Int))(k:Nat)(q:Int×Int),fbG k L=some q->0<=q.1:=by
  intro L
  induction L with
  |nil=>intro k q h;cases h
  |cons x r ih=>
   intro k q h;unfold fbG at h;split at h
   .injection h with h;subst h;exact bI _
   .split at h
    .injection h with h;subst h;exact bI _
    .exact ih _ _ h
 unfold jF;split
 .exact Int.le_refl 0
 .cases b:fbG 0 O with
  |some q=>exact a _ _ _ b
  |none=>
   simp only;split<;>exact Int.le_refl 0
noncomputable def yj(L:List (List Int)):List (List Int):=L.map λl=>(alE l).1
theorem WW{L:List (List Int)}(h:(vY L).2.2=0):oU 0 L=none/\(jF (yj L)).2=0/\vY L=(jnL (yj L),0,0):=by
 cases a:oU 0 L with
 |some q=>
  rw[Fh a]at h;exact absurd h (O5 a).2
 |none=>
  rw[Fg a]at h |-;split at h
  .exact absurd h ‹_›
  .rename_i b;rw[nN' b];have c:=Decidable.not_not.1 b;exact⟨rfl,c,by rw[pK,nN' b];rfl⟩
theorem X0{T:aj}{s:List Int}(h:(fG T s).2.2=0):(dV T s).2.2=0/\fG T s=vY (dV T s).1/\(vY (dV T s).1).2.2=0:=by
 unfold fG at h |-;split at h
 .exact absurd h ‹_›
 .rename_i a;rw[nN' a];exact⟨Decidable.not_not.1 a,rfl,h⟩
theorem aU3{T:aj}{L:List (List Int)}(h:(vX T L).2.2≠0):(vX T L).1=[]/\0<=(vX T L).2.1:=by
 cases a:mJ T 0 L with
 |some p=>
  rw[BJ a];exact⟨rfl,(WT a).1⟩
 |none=>
  rw[IB a]at h |-;split at h
  .rename_i b;rw[pP' b];refine⟨rfl,?_⟩;unfold vW;split
   .rename_i c;have:∀(M:List (List Int))(i:Int),0<=i->frR T i M= -1\/0<=frR T i M:=by
     intro M
     induction M with
     |nil=>intro i _;exact .inl rfl
     |cons x r ih=>
      intro i d;unfold frR;split
      .exact .inr d
      .exact ih _ (by omega)
    exact(this _ 0 (Int.le_refl 0)).resolve_left c.2
   .exact Int.le_refl 0
  .exact absurd rfl h
theorem aU2{T:aj}{s:List Int}(h:(dV T s).2.2≠0):(dV T s).1=[]/\0<=(dV T s).2.1:=by
 unfold dV at h |-;split
 .exact⟨rfl,Int.le_refl 0⟩
 split
 .exact⟨rfl,Int.le_refl 0⟩
 split
 .refine⟨rfl,?_⟩;show 0<=(gZ s).2.1
  unfold gZ;split
  .exact Int.le_refl 0
  .split
   .exact bI _
   .exact Int.le_refl 0
 split
 .refine⟨rfl,?_⟩;show 0<=qA T (gZ s).1
  unfold qA;split
  .exact Int.le_refl 0
  .split
   .rename_i a;have:∀(M:List Int)(i:Int),0<=i->jR T i M= -1\/0<=jR T i M:=by
     intro M
     induction M with
     |nil=>intro i _;exact .inl rfl
     |cons x r ih=>
      intro i b;unfold jR;split
      .exact .inr b
      .exact ih _ (by omega)
    exact(this _ 0 (Int.le_refl 0)).resolve_left a
   .exact Int.le_refl 0
 split
 .exact⟨rfl,Int.le_refl 0⟩
 rename_i c a d f g;rw[nN' c,nN' a,nN' d,nN' f,nN' g]at h;exact aU3 h
theorem aUg{T:aj}{s:List Int}(h:(fG T s).2.2≠0):(fG T s).1=[]/\0<=(fG T s).2.1:=by
 unfold fG at h |-;split
 .rename_i a;exact⟨rfl,(aU2 a).2⟩
 .rename_i a;rw[nN' a]at h;cases b:oU 0 (dV T s).1 with
  |some q=>
   rw[Fh b];exact⟨rfl,(O5 b).1⟩
  |none=>
   rw[Fg b]at h |-;split
   .rename_i c;exact⟨rfl,aUS⟩
   .rename_i c;rw[nN' c]at h;exfalso;apply h;show(pK _).2=0
    rw[pK,nN' c]
theorem O6:∀(x:List Int)(L:List (List Int))(cur r:List Int),(46∉x)->lbG L cur (x++r)=lbG L (cur++x) r
 |[],L,cur,r,_=>by rw[List.nil_append,List.append_nil]
 |c::x,L,cur,r,h=>by
  have a:c≠46:=λe=>h (by rw[e];exact List.mem_cons_self ..)
  rw[List.cons_append,lbG,nN' a,O6 x L _ r (λe=>h (List.mem_cons_of_mem _ e)),List.append_assoc];rfl
theorem WV:∀(O:List (List Int))(L:List (List Int))(cur:List Int),(∀x∈O,46∉x)->lbG L cur (jnG false O)=L++cur::O
 |[],L,cur,_=>rfl
 |x::r,L,cur,h=>by
  show lbG L cur (46::(x++jnG false r))=_
  rw[lbG,pP' rfl,O6 x _ _ _ (h x (List.mem_cons_self ..)),WV r _ _ λy a=>h y (List.mem_cons_of_mem _ a)];simp
theorem aUa{O:List (List Int)}(h:O≠[])(a:∀x∈O,46∉x):nK (jnL O)=O:=by
 cases O with
 |nil=>exact absurd rfl h
 |cons x r=>
  show lbG [] [] (x++jnG false r)=_
  rw[O6 x _ _ _ (a x (List.mem_cons_self ..)),WV r _ _ λy b=>a y (List.mem_cons_of_mem _ b)];rfl
theorem Oa{P:Int->Prop}(b:P 46):∀(f:Bool)(O:List (List Int)),(∀x∈O,∀c∈x,P c)->∀c∈jnG f O,P c
 |_,[],_,c,a=>by cases a
 |f,x::r,h,c,a=>by
  unfold jnG at a;rw[List.mem_append]at a;rcases a with a|a
  .split at a
   .exact h x (List.mem_cons_self ..) c a
   .rcases List.mem_cons.1 a with rfl|a
    .exact b
    .exact h x (List.mem_cons_self ..) c a
  .exact Oa b false r (λy d=>h y (List.mem_cons_of_mem _ d)) c a
theorem aUi{T:aj}{s:List Int}(h:(fG T s).2.2=0):(∀c∈(fG T s).1,nameB c=true\/c=46)/\(fG T s).2.1=0/\1<=(fG T s).1.length/\(fG T s).1.length<=253/\jF (nK (fG T s).1)=(0,0):=by
 obtain⟨j,k,m⟩:=X0 h;obtain⟨n,o,p⟩:=WW m;have q:=(BK j).2;obtain⟨t,w,A,B,y⟩:=WX o;have a:yj (dV T s).1≠[]:=λe=>t (by rw[e];rfl)
 have f:∀x∈yj (dV T s).1,∀c∈x,nameB c=true:=by
  intro x b;unfold yj at b;rw[List.mem_map]at b;obtain⟨l,g,rfl⟩:=b;exact aTR (q l g).1 (O7 n l g)
 rw[k,p];refine⟨Oa (.inr rfl) true _ λx b c d=>.inl (f x b c d),rfl,?_,?_,?_⟩
 .have:=Ik a;have z:=Nw _ _ w;show 1<=(jnL _).length
  cases i:yj (dV T s).1 with
  |nil=>exact absurd i a
  |cons x r=>
   have:=(z x (by rw[i];exact List.mem_cons_self ..)).1;show 1<=(x++jnG false r).length
   rw[lA'];omega
 .have:=Ik a;show(jnL _).length<=253
  omega
 .show jF (nK (jnL _))=_
  rw[aUa a λx b d=>(Xd (f x b 46 d)).2.2.1 rfl];exact y
theorem X5{T:aj}{c:Int}(h:dZ T c=1\/dZ T c=4):bf c=true:=by
 cases a:bf c with
 |true=>rfl
 |false=>
  rw[dZ,nI,pP' a]at h;omega
theorem X6{T:aj}:∀{l:List Int}{i:Int},(∀c∈l,dZ T c≠0)->jR T i l= -1
 |[],_,_=>rfl
 |c::r,i,h=>by
  unfold jR;rw[nN' (h c (List.mem_cons_self ..))];exact X6 λx a=>h x (List.mem_cons_of_mem _ a)
theorem map_id{T:aj}{q:List Int}(j:dh T=true)(b:∀c∈q,dZ T c=1\/dZ T c=4)(k:q.length<=4096):jS T q=0/\lQ T q=q:=by
 have g:aX T q=0:=oW' j (λc a=>X5 (b c a)) k;have d:q.flatMap (iR T)=q:=by
  have:∀L:List Int,(∀c∈L,dZ T c=1\/dZ T c=4)->L.flatMap (iR T)=L:=by
   intro L
   induction L with
   |nil=>intro _;rfl
   |cons x r ih=>
    intro h;have i:=h x (List.mem_cons_self ..);rw[List.flatMap_cons,ih λc a=>h c (List.mem_cons_of_mem _ a),iR,nN' (by omega),pP' i];rfl
  exact this q b
 have f:jS T q=0:=by
  unfold jS;rw[nN' (by rw[g];simp),nN' (by rw[X6 λc a=>by have:=b c a;omega];simp),nN' (by rw[d];omega)]
 exact⟨f,by rw[lQ,pP' f,d]⟩
theorem aVL{q:List Int}(b:∀c∈q,bf c=true)(d:q.length<=4096):mF q=(mD q,0):=by
 unfold mF;rw[nN' (by omega),nN'];rw[List.any_eq_true];rintro⟨c,a,h⟩;rw[b c a]at h;cases h
theorem X8(a b:List Int)(c:45∉b):∀k,k<=b.length->jq 45 (a++b) (a.length+k)=jq 45 (a++b) a.length
 |0,_=>rfl
 |k+1,hk=>by
  have d:(a++b).getD (a.length+k) 0=b.getD k 0:=by
   rw[List.getD,List.getD,List.getElem?_append_right (by omega),Nat.add_sub_cancel_left]
  have f:b.getD k 0≠45:=by
   rw[getD_lt b k 0 (by omega)];exact λe=>c (by rw[<- e];exact gM' _)
  rw[<- Nat.add_assoc,jq,d,nN' f,X8 a b c k (by omega)]
theorem aVj{d:Int}(h:0<=d/\d<36):fO (eU d)=some d:=by
 unfold fO eU;by_cases a:d<26
 .rw[pP' a,pP' (by omega)];congr 1;omega
 .rw[nN' a,nN' (by omega),nN' (by omega),pP' (by omega)];congr 1;omega
theorem aVg(l:List Int):jP l 0 (plc l 128 0)=jd l:=by
 have:∀(r p:List Int),l=p++r->jP r p.length (plc l 128 0)=jd r:=by
  intro r
  induction r with
  |nil=>intro p _;rfl
  |cons x r ih=>
   intro p a;have d:p.length<l.length:=(by rw[a];simp);have f:l[p.length]=x:=(by simp[a]);have b:=ih (p++[x]) (by rw[a];simp);rw[lA',List.length_singleton]at b;rw[jP,b,qR d,f];unfold jd;rw[List.filter_cons];by_cases c:x<128
   .simp[c]
   .have e:¬x=128\/True:=.inr trivial;simp[c]
 exact this l [] rfl
theorem aVQ{l:List Int}(y:∀x∈l,bf x=true)(z:l.length<=256)(D:(kN l).length<=2048):pdU (kN l)=(l,0):=by
 obtain⟨A,q,_⟩:=Ii (O8 y) z;have m:45∉(y8 l).map eU:=by
  intro h;rw[List.mem_map]at h;obtain⟨d,n,g⟩:=h;have:=q d n;unfold eU at g;split at g<;>omega
 have i:((y8 l).map eU).map fO=(y8 l).map some:=by
  rw[List.map_map];exact List.map_congr_left λd h=>aVj (q d h)
 have o:hyB (kN l)=(jd l).length/\qy (kN l)=(y8 l).map eU:=by
  have e:kN l=mG l++(y8 l).map eU:=rfl;have s:jq 45 (kN l) (kN l).length=jq 45 (kN l) (mG l).length:=by
   rw[e,lA'];exact X8 _ _ m _ (lr' _)
  cases j:jd l with
  |nil=>
   have a:mG l=[]:=(by unfold mG;rw[j];rfl);have f:hyB (kN l)=0:=by
    unfold hyB;rw[s,a];rfl
   refine⟨f,?_⟩;unfold qy;rw[pP' f,e,a];rfl
  |cons x r=>
   have a:mG l=(x::r)++[45]:=(by unfold mG;rw[j];rfl);have f:hyB (kN l)=(x::r).length:=by
    unfold hyB;rw[s,a];have:((x::r)++[45]:List Int).length=(x::r).length+1:=by simp
    rw[this,jq,pP']
    .simp
    .rw[e,a,List.getD,List.getElem?_append_left (by simp),List.getElem?_append_right (by simp)];simp
   refine⟨f,?_⟩;unfold qy;rw[nN' (by rw[f];simp),f,e,a];have:((x::r)++[45]:List Int).length=(x::r).length+1:=by simp
   rw[<- this,List.drop_left]
 obtain⟨B,b⟩:=o;have p:(kN l).take (jd l).length=jd l:=by
  unfold kN mG;rw[List.append_assoc,List.take_left]
 unfold pdU;rw[nN' (by omega),B,p,nN',b,i,<- aVg l]
 .rw[aIY y z A _ (by simp) (by decide) (by decide) (bI _)]
  .rfl
  .intro k C t;rw[qR C]at t;have a:¬l[k]<128:=λe=>by simp[e]at t
   exact⟨by omega,λ_=>bI _⟩
 .rw[List.any_eq_true];rintro⟨c,w,h⟩;rw[jd,List.mem_filter]at w;have:=of_decide_eq_true w.2;have:=of_decide_eq_true h;omega
theorem aVZ{l:List Int}(c:(alE l).2=0):l.length<=(alE l).1.length:=by
 cases a:jQ l with
 |true=>rw[(WZ a c).1];exact lr' _
 |false=>
  obtain⟨e,g,d,f,_⟩:=X3 a c;have b:=Nv (kN l);rw[aVQ f d (by omega)]at b;rw[e,lA'];exact Nat.le_trans b (Nat.le_add_left _ _)
theorem X7:∀(f:Bool)(L:List (List Int)),(∀l∈L,(alE l).2=0)->(jnG f L).length<=(jnG f (yj L)).length
 |_,[],_=>lr' _
 |f,x::r,h=>by
  have b:=X7 false r λy a=>h y (List.mem_cons_of_mem _ a)
  have c:=aVZ (h x (List.mem_cons_self ..));show((if f then x else 46::x)++jnG false r).length<=((if f then(alE x).1 else 46::(alE x).1)++jnG false (yj r)).length
  rw[lA',lA'];split
  .omega
  .simp only[List.length_cons];omega
theorem uni_ok{T:aj}{s:List Int}(h:(fG T s).2.2=0):mF (jnL (dV T s).1)=(mD (jnL (dV T s).1),0)/\uniD T s=(mD (jnL (dV T s).1),0,0):=by
 obtain⟨d,_,f⟩:=X0 h;obtain⟨g,i,_⟩:=WW f;have j:=O7 g;obtain⟨k,_,_,p,_⟩:=WX i;have a:=Ik (ls:=yj (dV T s).1) (λe=>k (by rw[e];rfl));have l:=X7 true _ j;have q:(jnL (dV T s).1).length<=(jnL (yj (dV T s).1)).length:=l;have m:∀c∈jnL (dV T s).1,bf c=true:=Oa (by decide) true _ λx n c o=>X5 (X4 ((WY ((BK d).2 x n).1).2.2.2.2 c o)).2
 have b:=aVL m (by omega);refine⟨b,?_⟩;unfold uniD;rw[nN' (by rw[h];simp),b]
def aWl(wo:World)(x:List Int)(g:Nat)(s13 s66:Value)(wx:World):Prop:=
 ∃j:Nat,g+j=x.length/\s66=.int .i64 j/\s13=.string (sB (x.take j))/\Ext wo wx
theorem O4(ht:aW w t T)(hs:IsB s):Calls prog 21 #[t.v,.string (sB s)] w (II w (dV T s)):=by
 have aE:=dw w t;have r:=ah aE;have HT:=ah (ht.aC aE);have HC:=ah (XT t T (tW' w t) HT.out)
 have HD:Hid (dV T s=if dh T=false then([],0,2)else if s.length=0 then([],0,10)else if(gZ s).2.2≠0 then([],(gZ s).2.1,(gZ s).2.2)
  else if jS T (gZ s).1≠0 then([],qA T (gZ s).1,jS T (gZ s).1)else if fB T (lQ T (gZ s).1)≠0 then([],0,fB T (lQ T (gZ s).1))
  else vX T (nK (lH T (lQ T (gZ s).1)))):=rfl
 generalize dV T s=D at*;by_cases hw:dh T=false
 .have p:=ah (HD.out.trans (pP' hw));have J:(mM T != 0)=true:=by rw[bne_iff_ne];exact λh=>by have:=(BP T).1 h;rw[hw]at this;cases this
  go_enter func21,ntmps21;go_wp2_with fail;refine HC.out.mono ?_;rintro e w1⟨rfl,W⟩;have G:=r.out.trans' W;go_wp2;go_ret3;exact⟨none,0,0,by rw[p.out];rfl,by rw[p.out];exact qW _,G⟩
 have aM:=ah (HD.out.trans (nN' hw));rw[(BP T).2 (by cases h:dh T;exact absurd h hw;rfl)]at HC;have HW:Hid (dh T=true):=ah (by cases h:dh T;exact absurd h hw;rfl);have aR:=y9 s;by_cases h0:s.length=0
 .have p:=ah (aM.out.trans (pP' h0));rw[List.eq_nil_of_length_eq_zero h0,show([]:List Int).isEmpty=true from rfl]at aR;rw[List.eq_nil_of_length_eq_zero h0];go_enter func21,ntmps21;go_wp2_with fail;refine HC.out.mono ?_;rintro e w1⟨rfl,W⟩;have G:=r.out.trans' W;go_wp2;go_ret3;exact⟨none,0,0,by rw[p.out];rfl,by rw[p.out];exact qW _,G⟩
 have ai:=ah (aM.out.trans (nN' h0));rw[show s.isEmpty=false from by cases s with|nil=>exact absurd rfl h0|cons a b=>rfl]at aR;have HU:Hid (∀w':World,Calls prog 56 #[.string (sB s)] w' (Iy w' (gZ s))):=ah λw'=>a9s s hs w'
 generalize gZ s=V at*;obtain⟨l,di,de⟩:=V;simp only[]at ai;go_enter func21,ntmps21;go_wp2_with fail;refine HC.out.mono ?_;rintro e w1⟨rfl,W⟩;have bq:=ah W;go_wp2_with fail;refine(HU.out w1).mono ?_;rintro e w2⟨A,n,c,rfl,br,F⟩;have a5:=ah (bq.out.trans' F);have b0:=ah br;have bs:=r.out.trans' a5.out;simp only[]at b0;by_cases f:de=0
 case neg=>
  have p:=ah (ai.out.trans (pP' f));have J:(de != 0)=true:=bN' f;go_wp2;go_ret3;exact⟨none,0,0,by rw[p.out];rfl,by rw[p.out];exact qW _,bs⟩
 have b1:=ah (ai.out.trans (nN' (by rw[f];simp)));have J:(de != 0)=false:=bZ' f;have rT:∀k:Nat,w2.cell? ⟨w.heap.size,k,none⟩=t.v.cells[k]? :=aQ a5.out;go_wp2_with fail;refine(aPb T t l A n c w2 (HT.out.aC a5.out) b0.out).mono ?_;rintro e w3⟨A3,n3,c3,rfl,K,a6⟩;have a7:=ah (a5.out.trans' K);have bt:=ah a6;have bu:=r.out.trans' a7.out;generalize jS T l=me at*;generalize qA T l=mi at*;generalize lQ T l=ml at*;by_cases f:me=0
 case neg=>
  have p:=ah (b1.out.trans (pP' f));have J:(me != 0)=true:=bN' f;go_wp2;go_ret3;exact⟨none,0,0,by rw[p.out];rfl,by rw[p.out];exact qW _,bu⟩
 have b4:=ah (b1.out.trans (nN' (by rw[f];simp)));have J:(me != 0)=false:=bZ' f;have rT:∀k:Nat,w3.cell? ⟨w.heap.size,k,none⟩=t.v.cells[k]? :=aQ a7.out;go_wp2_with fail;refine(OT T t ml A3 n3 c3 w3 (HT.out.aC a7.out) bt.out).mono ?_;rintro e w4⟨A4,n4,c4,rfl,bv,bw⟩;have am:=ah (a7.out.trans' bv);have bx:=ah bw
 have bz:Hid (fB T ml=0->(lH T ml).length<=4096):=ah (λh=>by
  have h2:=(AL h).2;have h3:=Jh (T:=T) ml;rw[lH,pP' h]
  omega)
 have bA:=r.out.trans' am.out;generalize fB T ml=ne at*;generalize lH T ml=nl at*;by_cases f:ne=0
 case neg=>
  have p:=ah (b4.out.trans (pP' f));have J:(ne != 0)=true:=bN' f;go_wp2;go_ret3;exact⟨none,0,0,by rw[p.out];rfl,by rw[p.out];exact qW _,bA⟩
 have X:=ah (b4.out.trans (nN' (by rw[f];simp)));have J:(ne != 0)=false:=bZ' f;have zk:=ah (bz.out f);go_wp2_with fail;refine(aMq nl A4 n4 c4 w4 bx.out (by have:=zk.out;omega)).mono ?_;rintro e w5⟨A5,N,C,rfl,bB,b5⟩;obtain⟨g,S5,rfl,b6⟩:=bB.lsp b5;have aZ:=ah (am.out.trans' b5);have bE:=ah b6;have bH:Hid ((nK nl).length<=5000):=ah (by have:=NY nl;have:=zk.out;omega);have bJ:Hid (∀x∈nK nl,x.length<=4096):=ah (λx G=>by have:=WI G;have:=zk.out;omega);have bK:(nK nl).length=N:=b6.len;generalize nK nl=L at*;have c9:N<=5000:=by have:=bH.out;omega
 have a8:=ah bK;go_wp2;go_loopg[57] N (λgh bL wx=>PrL T w4 (tW' w t) g N C L gh bL wx);exact⟨0,S5,L,by omega,rfl,bE,ah rfl,ah rfl,ah rfl,aZ⟩;obtain⟨k,S,M,ca,rfl,HP,b7,b8,H,HB⟩:=hrel;by_cases hk:k<N
 .obtain⟨an,rfl⟩:=gS' gk;have Y:k<L.length:=by have:=a8.out;omega
  have ao:k<M.length:=by have:=HP.out.len;omega
  have ba:M[k]=L[k]:=by
   have f:=b8.out;rw[drop_at M k ao,drop_at L k Y]at f;exact(List.cons.inj f).1
  have bN:M.drop (k+1)=L.drop (k+1):=by
   have f:=b8.out;rw[drop_at M k ao,drop_at L k Y]at f;exact(List.cons.inj f).2
  have bO:M.length=L.length:=by have:=HP.out.len;have:=a8.out;omega
  obtain⟨b,o,za,zn,zc,hA,ap,hz⟩:=HP.out.lists.at_ ao;injection hA with hA;injection hA with bR aq;subst bR aq;rw[ba]at hz;rw[Nat.zero_add]at ap;have O:=ah (WM (T:=T) Y);have ar:=ah (bJ.out _ (gM' Y));have HZ:=ah hz;have av:Hid (∀y,y=(iD T L[k]).1->(M.set k y).take (k+1)=(L.take (k+1)).map λl=>(iD T l).1):=ah (λy hy=>by rw[hy];exact WL (λl=>(iD T l).1) L M bO k Y b7.out);have aw:Hid (∀y,(M.set k y).drop (k+1)=L.drop (k+1)):=ah (λy=>by rw[List.drop_set_of_lt (by omega)];exact bN);have bc:Hid (M.set k L[k]=M):=ah (by rw[<- ba];exact List.set_getElem_self _);generalize L[k]=x at*;have cb:=z0' k;have cc:(k:Int)<(N:Int):=by omega
  have bS:=HZ.out.len.1;subst bS;have aa:=ah (Nr x za x.length zc wr HZ.out);have bd:Hid (iD T x=if(oP x).2≠0 then([],(oP x).2)else if iy T (oP x).1≠0 then([],iy T (oP x).1)else((oP x).1,0)):=rfl;have P:Hid (oP x=if(jQ x&&isX x)=true then alD x else(x,0)):=rfl;have be:Hid (oP x=(x,0)->iD T x=if iy T x≠0 then([],iy T x)else(x,0)):=ah (λh=>by rw[bd.out,h];exact nN' (by simp));generalize cd:iD T x=Dx at*;cases ab:jQ x
  .rw[ab]at aa P;have I:=ah (be.out P.out);have bh:=ap;have Z:=HZ;have a0:=HP;have U:=HB;have Q:Hid (M=M.set k x):=ah bc.out.symm;go_wp2_with fail;refine aa.out.mono ?_;rintro e w0⟨rfl,rfl⟩;have rT:∀j:Nat,wr.cell? ⟨w.heap.size,j,none⟩=t.v.cells[j]? :=aQ U.out;go_wp2_with fail;go_region_law((go_simp;go_at_call 63;refine(OU T t x za x.length zc _ (HT.out.aC (U.out.trans' eR'.dL)) (Z.out.ext eR'.dL)).mono ?_;rintro e w6⟨rfl,q⟩;have eY:Hid (Ext wr w6):=ah (eR'.dL.trans' q);clear q))
   all_goals
    have a1:=ah (a0.out.aC eY.out);have qQ:=ah (U.out.trans' eY.out);generalize iy T x=ev at*;by_cases f:ev=0
    .have J:(ev != 0)=false:=bZ' f;have i:Dx=(x,0):=I.out.trans (nN' (by rw[f];simp));have a2:Hid (mJ T ((k+1:Nat):Int) (L.drop (k+1))=mJ T 0 L):=ah (by rw[<- H.out,O.out,i];exact(nN' (by simp)).symm);have a3:Hid (M.take (k+1)=(L.take (k+1)).map λl=>(iD T l).1):=ah (by rw[Q.out];exact av.out x (by rw[i]));have a4:Hid (M.drop (k+1)=L.drop (k+1)):=ah (by rw[Q.out];exact aw.out x);go_wp2;go_roundg an;exact⟨k+1,S,M,by omega,by go_num,a1,a3,a4,a2,qQ⟩;omega
    .have J:(ev != 0)=true:=bN' f;have i:Dx=([],ev):=I.out.trans (pP' f);have p:Hid (D=([],((k:Int),ev))):=ah (X.out.trans (BJ (by rw[<- H.out,O.out,i];exact pP' f)));have G:=r.out.trans' qQ.out;go_wp2;go_ret3;exact⟨none,0,0,by rw[p.out];rfl,by rw[p.out];exact qW _,G⟩
  .rw[ab]at aa P;have bU:=ah (F6 ab);have bi:=ah (NT ab);go_wp2_with fail;refine aa.out.mono ?_;rintro e w0⟨rfl,rfl⟩;generalize wr=wo at*;go_wp2;go_loopg[13,66] x.length (λgh bW bX wx=>aWl wo x gh bW bX wx);exact⟨0,by omega,rfl,rfl,eR'⟩;obtain⟨j,hg,rfl,rfl,hb⟩:=hrel;have R:=ah hb;by_cases hj:j<x.length
   .obtain⟨b2,o2,aq,ce⟩:=(HZ.out.ext R.out).at_ hj;subst aq;have hr:=bU.out _ (gM' hj);have bZ:Hid (x.take j++[x[j]]=x.take (j+1)):=ah (tS' hj).symm;have cf:(x.take j).length<=4096:=(by rw[List.length_take];have:=ar.out;omega);have cg:x.length<=4096:=ar.out;have c0:∀cs,Ext wo (wr.alloc (.cells cs 5)):=λcs=>R.out.aB _
    generalize x[j]=xj at*;have bj:=yY wr #[.int .u8 xj] [xj] 1 rfl rfl (by omega);have ch:[xj].length<=1:=lr' _;generalize[xj]=E at*;generalize x.take j=S0 at*;go_wp2;go_roundg (x.length-(j+1));exact⟨j+1,by omega,by go_num,by rw[bZ.out],c0 _⟩;omega
   .have he:x.take j=x:=tL' (by omega);rw[he];have ac:=ah (UA x bi.out wr);have bk:=bg (bD R.out) ap;have c1:=ah (HZ.out.ext R.out);have bl:=ah (HP.out.aC R.out);have mZ:=ah (HB.out.trans' R.out);cases bm:isX x
    .rw[bm]at ac P;have I:=ah (be.out P.out);go_wp2_with fail;refine ac.out.mono ?_;rintro e w2⟨rfl,F⟩;have bh:=bg (bD F) bk;have Z:=ah (c1.out.ext F);have a0:=ah (bl.out.aC F);have U:=ah (mZ.out.trans' F);have Q:Hid (M=M.set k x):=ah bc.out.symm;have rT:∀j:Nat,w2.cell? ⟨w.heap.size,j,none⟩=t.v.cells[j]? :=aQ U.out;go_wp2_with fail;go_region_law((go_simp;go_at_call 63;refine(OU T t x za x.length zc _ (HT.out.aC (U.out.trans' eR'.dL)) (Z.out.ext eR'.dL)).mono ?_;rintro e w6⟨rfl,q⟩;have eY:Hid (Ext w2 w6):=ah (eR'.dL.trans' q);clear q))
     all_goals
      have a1:=ah (a0.out.aC eY.out);have qQ:=ah (U.out.trans' eY.out);generalize iy T x=ev at*;by_cases f:ev=0
      .have J:(ev != 0)=false:=bZ' f;have i:Dx=(x,0):=I.out.trans (nN' (by rw[f];simp));have a2:Hid (mJ T ((k+1:Nat):Int) (L.drop (k+1))=mJ T 0 L):=ah (by rw[<- H.out,O.out,i];exact(nN' (by simp)).symm);have a3:Hid (M.take (k+1)=(L.take (k+1)).map λl=>(iD T l).1):=ah (by rw[Q.out];exact av.out x (by rw[i]));have a4:Hid (M.drop (k+1)=L.drop (k+1)):=ah (by rw[Q.out];exact aw.out x);go_wp2;go_roundg an;exact⟨k+1,S,M,by omega,by go_num,a1,a3,a4,a2,qQ⟩;omega
      .have J:(ev != 0)=true:=bN' f;have i:Dx=([],ev):=I.out.trans (pP' f);have p:Hid (D=([],((k:Int),ev))):=ah (X.out.trans (BJ (by rw[<- H.out,O.out,i];exact pP' f)));have G:=r.out.trans' qQ.out;go_wp2;go_ret3;exact⟨none,0,0,by rw[p.out];rfl,by rw[p.out];exact qW _,G⟩
    .rw[bm]at ac P;have HE:Hid (oP x=alD x):=P;have ax:Hid (Dx=if(alD x).2≠0 then([],(alD x).2)else if iy T (alD x).1≠0 then([],iy T (alD x).1)else((alD x).1,0)):=ah (by rw[<- HE.out];exact bd.out);go_wp2_with fail;refine ac.out.mono ?_;rintro e w2⟨rfl,F⟩;have c2:=ah (aMh x bi.out (by have:=ar.out;omega) w2);have bj:=bg (bD F) bk;have ay:=ah (bl.out.aC F);have c5:=ah (mZ.out.trans' F);generalize alD x=AD at*;obtain⟨y,ya⟩:=AD;simp only[]at ax;go_wp2_with fail;refine c2.out.mono ?_;rintro e w3⟨B,m,d,rfl,a6,K⟩;have ci:w3.frozen? ⟨g,k,none⟩=false:=World.ownsRow.frozenAt (ay.out.aC K).own k;have bn:=bg (bD K) bj;have a0:=ah ((ay.out.aC K).set hk (z:=⟨B,m,d⟩) (x:=y) a6);have U:Hid (Ext (tW' w t) (w3.setCell ⟨g,k,none⟩ (.slice B m d))):=ah ((c5.out.trans' K).kQ (Nat.le_trans am.out.b.size (Own.lt (ay.out.aC K).own g rfl).1) _);have bh:(w3.setCell ⟨g,k,none⟩ (.slice B m d)).cell? ⟨g,k,none⟩=some (.slice B m d):=World.cell?_setCell_same _ _ _ bn;have Z:Hid (aF (w3.setCell ⟨g,k,none⟩ (.slice B m d)) ⟨B,m,d⟩ y):=ah (a6.NZ (z:=⟨za,x.length,zc⟩) bn _);by_cases f:ya=0
     .have J:(ya != 0)=false:=bZ' f;have I:Hid (Dx=if iy T y≠0 then([],iy T y)else(y,0)):=ah (ax.out.trans (nN' (by rw[f];simp)));have Q:Hid True:=ah trivial;go_wp2_with fail;generalize w3.setCell ⟨g,k,none⟩ (.slice B m d)=wz at*;have rT:∀j:Nat,wz.cell? ⟨w.heap.size,j,none⟩=t.v.cells[j]? :=aQ U.out;go_wp2_with fail;go_region_law((go_simp;go_at_call 63;refine(OU T t y B m d _ (HT.out.aC (U.out.trans' eR'.dL)) (Z.out.ext eR'.dL)).mono ?_;rintro e w6⟨rfl,q⟩;have eY:Hid (Ext wz w6):=ah (eR'.dL.trans' q);clear q))
      all_goals
       have a1:=ah (a0.out.aC eY.out);have qQ:=ah (U.out.trans' eY.out);generalize iy T y=ev at*;by_cases f:ev=0
       .have J:(ev != 0)=false:=bZ' f;have i:Dx=(y,0):=I.out.trans (nN' (by rw[f];simp));have a2:Hid (mJ T ((k+1:Nat):Int) (L.drop (k+1))=mJ T 0 L):=ah (by rw[<- H.out,O.out,i];exact(nN' (by simp)).symm);have a3:Hid ((M.set k y).take (k+1)=(L.take (k+1)).map λl=>(iD T l).1):=ah (by exact av.out y (by rw[i]));have a4:Hid ((M.set k y).drop (k+1)=L.drop (k+1)):=ah (by exact aw.out y);go_wp2;go_roundg an;exact⟨k+1,(S.set k ⟨B,m,d⟩),(M.set k y),by omega,by go_num,a1,a3,a4,a2,qQ⟩;omega
       .have J:(ev != 0)=true:=bN' f;have i:Dx=([],ev):=I.out.trans (pP' f);have p:Hid (D=([],((k:Int),ev))):=ah (X.out.trans (BJ (by rw[<- H.out,O.out,i];exact pP' f)));have G:=r.out.trans' qQ.out;go_wp2;go_ret3;exact⟨none,0,0,by rw[p.out];rfl,by rw[p.out];exact qW _,G⟩
     .have J:(ya != 0)=true:=bN' f;have i:Dx=([],ya):=ax.out.trans (pP' f);have p:Hid (D=([],((k:Int),ya))):=ah (X.out.trans (BJ (by rw[<- H.out,O.out,i];exact pP' f)));have G:=r.out.trans' U.out;go_wp2;go_ret3;exact⟨none,0,0,by rw[p.out];rfl,by rw[p.out];exact qW _,G⟩
 .have c6:k=N:=by omega
  subst c6
  have bo:Hid (M=L.map λl=>(iD T l).1):=ah (by
   have f:=b7.out;have h2:=a8.out;have h3:=HP.out.len
   rwa[tL' (by omega),tL' (by omega)]at f)
  have bp:Hid (mJ T 0 L=none):=ah (by
   have h2:=a8.out;rw[<- H.out,List.drop_of_length_le (by omega)]
   rfl)
  have EK:Hid (∀l∈M,aX T l=0):=ah (λl hl=>by
   rw[bo.out,List.mem_map]at hl;obtain⟨x,G,rfl⟩:=hl
   exact Fe (O1 (Iz bp.out x G)))
  have az:=ah (X.out.trans (IB bp.out));rw[<- bo.out]at az;have c7:=ah (aQj T t M _ _ _ wr (HT.out.aC HB.out) HP.out.lists HW.out EK.out (by have:=HP.out.len;omega));have rT:∀k:Nat,wr.cell? ⟨w.heap.size,k,none⟩=t.v.cells[k]? :=aQ HB.out;go_wp2_with fail;refine c7.out.mono ?_;rintro e w6⟨rfl,q⟩;have c8:=ah (HP.out.aC q);have G:=r.out.trans' (HB.out.trans' q);generalize vW T M=dmi at*;generalize uU T M=dme at*;by_cases f:dme=0
  .have J:(dme != 0)=false:=bZ' f;have p:=ah (az.out.trans (nN' (by rw[f];simp)));go_wp2;go_ret3;exact⟨_,_,_,by rw[p.out];rfl,by rw[p.out];exact c8.out.lists,G⟩
  .have J:(dme != 0)=true:=bN' f;have p:=ah (az.out.trans (pP' f));go_wp2;go_ret3;exact⟨none,0,0,by rw[p.out];rfl,by rw[p.out];exact qW _,G⟩
theorem Xe(ht:aW w t T)(hs:IsB s):Calls prog 49 #[t.v,.string (sB s)] w (Ai w (fG T s)):=by
 have G:=dw w t;have f:=ah G;have HP:=ah (O4 T t s (tW' w t) (ht.aC G) hs);have S:Hid (fG T s=if(dV T s).2.2≠0 then([],(dV T s).2)else vY (dV T s).1):=rfl;have H:=ah (@BK T s);generalize fG T s=D at*;generalize dV T s=Y at*;obtain⟨L,pi,U⟩:=Y;simp only[]at S H |-;go_enter func49,ntmps49;go_wp2_with fail;refine HP.out.mono ?_;rintro e V⟨A,n,c,rfl,W,I⟩;have g:=ah I;have i:=ah W;have X:=f.out.trans' I;simp only[]at i;by_cases a:U=0
 case neg=>
  have j:=ah (S.out.trans (pP' a));have e1:(U != 0)=true:=bN' a;go_wp2;go_ret3;exact⟨by rw[j.out];rfl,X⟩
 have J:=ah (S.out.trans (nN' (by rw[a];simp)));have e1:(U != 0)=false:=bZ' a;have HO:=ah (H.out a);have hn:=i.out.len.1;subst hn;have hm:L.length<=5000:=HO.out.1;go_wp2;go_loopg[10,32] L.length (λgh Z a0 wx=>AsL V L gh Z a0 wx);exact⟨0,none,0,by omega,rfl,rfl,ah (Own.nil_ _ _ _ _),ah rfl,ah eR'⟩;obtain⟨k,A2,c2,ax,rfl,rfl,p,q,E⟩:=hrel;have a1:=f.out.trans' (g.out.trans' E.out);by_cases F:k<L.length
 .obtain⟨a2,rfl⟩:=gS' gk;obtain⟨b,o,za,zn,zc,rfl,aL,hz⟩:=(i.out.ext E.out).at_ F;have r:=ah (WO F);have N:Hid (((L.take (k+1)).map λl=>(alE l).1)=((L.take k).map λl=>(alE l).1)++[(alE L[k]).1]):=ah (by rw[tS' F,List.map_append];rfl);have HE:=ah (UJ L[k] za zn zc wr hz (by have:=(HO.out.2 _ (gM' F)).2;omega));generalize L[k]=x at*;generalize alE x=Y at*;obtain⟨y,ev⟩:=Y;simp only[]at r N;have aY:=z0' k;have b0:(k:Int)<(L.length:Int):=by omega
  go_wp2_with fail;refine HE.out.mono ?_;rintro e w2⟨rfl,a5⟩;have d:=ah a5;by_cases a:ev=0
  .have e2:(ev != 0)=false:=bZ' a;have a7:=ah ((r.out.trans (nN' (by rw[a];simp))).symm.trans q.out);obtain⟨A5,c5,w5,P,z,Q⟩:=IC (Own.ext p.out d.out) y (by omega) (E.out.trans' d.out).b.size;have a8:Ext w2 (w2.alloc (.cells #[.string (sB y)] 9)):=eR'.aB _;have bK:Hid (oQ w5 V.heap.size A5 (k+1) c5 ((L.take (k+1)).map λl=>(alE l).1)):=ah (by rw[N.out];exact z);have aZ:Hid (Ext V w5):=ah (dW ((E.out.trans' d.out).trans' a8) Q (λk F=>(Own.lt (Own.ext p.out d.out) k F).1));go_wp2_with(at_builtin;refine dG rfl _ _ _ rfl _ _ rfl rfl _ _ P ?_);go_roundg a2;exact⟨k+1,A5,c5,by omega,by go_num,rfl,bK,a7,aZ⟩;omega
  .have e2:(ev != 0)=true:=bN' a;have j:=ah (J.out.trans (Fh (q.out.symm.trans (r.out.trans (pP' a)))));have hx:=f.out.trans' (g.out.trans' (E.out.trans' d.out));go_wp2;go_ret3;exact⟨by rw[j.out];rfl,hx⟩
 .have aa:k=L.length:=by omega
  subst aa;have ab:Hid (oU 0 L=none):=ah (by rw[<- q.out,List.drop_of_length_le (by omega)];rfl);have B:=ah (J.out.trans (Fg ab.out));have C:=oQ.sts p.out;rw[List.take_length]at C;have ac:=ah (V3 _ _ _ _ wr C (by rw[List.length_map];omega));have ad:=ah (aNm _ _ _ _ wr C (by rw[List.length_map];omega));have R:Hid ((jF (L.map λl=>(alE l).1)).2=0->(pK (L.map λl=>(alE l).1)).2=0):=ah (λh=>by unfold pK;rw[nN' (by rw[h];simp)]);generalize(L.map λl=>(alE l).1)=O at*;generalize jF O=K at*;generalize pK O=M at*;obtain⟨ki,ke⟩:=K;obtain⟨m,me⟩:=M;simp only[]at B R;go_wp2_with fail;refine ac.out.mono ?_;rintro e w2⟨he,rfl⟩;unfold IE2 at he;subst he;simp only[];by_cases a:ke=0
  .have e2:(ke != 0)=false:=bZ' a;have j:=ah (B.out.trans (nN' (by rw[a];simp)));have af:=ah (R.out a);go_wp2_with fail;refine ad.out.mono ?_;rintro e w3⟨rfl,ag⟩;have hx:=f.out.trans' (g.out.trans' (E.out.trans' ag));go_wp2;go_ret3;exact⟨by rw[j.out,af.out];rfl,hx⟩
  .have e2:(ke != 0)=true:=bN' a;have j:=ah (B.out.trans (pP' a));go_wp2;go_ret3;exact⟨by rw[j.out];rfl,a1⟩
theorem aWj(ht:aW w t T)(M:IsB s):Calls prog 51 #[t.v,.string (sB s)] w (Ai w (uniD T s)):=by
 have b:=dw w t;have l:=ah b;have H:=ah (ht.aC b);have N:=ah M;have O:=ah (Xe T t s (tW' w t) H.out M);have I:Hid (uniD T s=if(fG T s).2.2≠0 then([],(fG T s).2)else((mF (jnL (dV T s).1)).1,0,(mF (jnL (dV T s).1)).2)):=rfl;have d:=ah (@uni_ok T s);have J:=ah (@WR T s);generalize uniD T s=V at*;generalize fG T s=D at*;obtain⟨m,X,o⟩:=D;simp only[]at I J d;go_enter func51,ntmps51;go_wp2_with fail;refine O.out.mono ?_;rintro e K⟨rfl,a⟩;have p:=ah a;have f:=l.out.trans' a;have Z:∀k:Nat,K.cell? ⟨w.heap.size,k,none⟩=t.v.cells[k]? :=aQ a;simp only[];by_cases g:o=0
 .have h:=ah (J.out g);have i:=ah (d.out g);have q:=ah (O4 T t s K (H.out.aC p.out) N.out);have P:(o != 0)=false:=bZ' g;generalize dV T s=Y at*;obtain⟨L,pi,pe⟩:=Y;simp only[]at h i;go_wp2_with fail;refine q.out.mono ?_;rintro e Q⟨A,n,c,rfl,r,x⟩;have j:=ah r;have y:=f.trans' x;simp only[]at j |-;go_wp2_with fail;refine(aNU L A n c Q j.out h.out).mono ?_;rintro e R⟨S,U,W,rfl,z,B⟩;have C:=ah z;have E:=y.trans' B;go_wp2_with fail;refine(ED (jnL L) S U W R C.out).mono ?_;rintro e w4⟨rfl,F⟩;have G:=E.trans' F;go_wp2;go_ret3;exact⟨by rw[i.out.2,i.out.1];rfl,G⟩
 .have i:=ah (I.out.trans (pP' g));have P:(o != 0)=true:=bN' g;go_wp2;go_ret3;exact⟨by rw[i.out];rfl,f⟩
def qC:Nm:=([],[],[])
abbrev nmV(p:Nm):Value:=.agg #[.string (sB p.1),.string (sB p.2.1),.string (sB p.2.2)]
abbrev ny:Array Value:= #[.string ⟨#[]⟩,.string ⟨#[]⟩,.string ⟨#[]⟩]
noncomputable def Ap(T:aj)(s l:List Int):Nm×Int:=if 4<uf T l then(qC,20)else if(lF T l).2≠0 then(qC,(lF T l).2)else if(lF T l).1.length=0 then(qC,10)else(((fG T s).1,(uniD T s).1,(lF T l).1),0)
noncomputable def oD(T:aj)(s:List Int):Nm×Int:=if(fG T s).2.2≠0 then(qC,(fG T s).2.2)else if(dV T s).1.length≠1 then(qC,21)else Ap T s ((dV T s).1.getD 0 [])
def Oq(w:World)(d:Nm×Int)(e:Ending)(w':World):Prop:=e=.returned (.tuple #[nmV d.1,.int .i64 d.2])/\Ext w w'
theorem IW{w w':World}{A:Obj}{a:Array Value}{ty:TypeId}(h:Ext ((w.alloc A).alloc (.cells a ty)) w'):w'.heap[w.heap.size+1]? =some (.cells a ty (0,0)):=
 (h.b.block _ (by simp)).trans (heap_alloc2_new w _ _)
theorem nP{w w':World}{g:Nat}(h:Ext w w')(d:w.heap.size<=g)(c:Array Value):Ext w (w'.setRow g c):=
 dW (row:=some g) h ⟨rfl,rfl,rfl,by simp[World.setRow],λk a b=>setRow_other _ _ _ _ λe=>b (by rw[e])⟩ (λk a=>by injection a with a;omega)
theorem results_cell_row_tmp{c:Func}{p u:Tmp}{ty:TypeId}(h:c.results= #[.cell p ty,.tmp u])(a:Array Value)(w:World)(g:Nat)(t:TypeId)(b:Array Value)(d:Nat×Nat){fs}
 (f:a.getD p undef=.pointer (some ⟨g,0,none⟩)) (i:w.heap[g]? =some (.cells b t d))
 (j:prog.underlying ty=some (.struct fs)) (k:(prog.info? ty).map (·.size)=some b.size):
 (results c a).run prog w=.ok (.tuple #[.agg b,a.getD u undef]) w:=by
 rw[results_cell_tmp h,f];simp[asAddr,Result.andThen,run_loadVar_row w g t ty b d (.struct fs) i j rfl k]
theorem pU(a b c:ByteArray):(#[.string a,.string b,.string c]:Array Value).all (·.oneCell')=true:=by simp[Value.oneCell']
theorem aZN(ht:aW w t T)(hs:IsB s):Calls prog 14 #[t.v,.string (sB s)] w (Oq w (oD T s)):=by
 obtain⟨I,y⟩:=eX' ((w.alloc (.cells #[.slice t.s0.a t.s0.n t.s0.c,.slice t.s1.a t.s1.n t.s1.c,.slice t.s2.a t.s2.n t.s2.c,.slice t.s3.a t.s3.n t.s3.c,.slice t.s4.a t.s4.n t.s4.c,.slice t.s5.a t.s5.n t.s5.c,.slice t.s6.a t.s6.n t.s6.c,.slice t.s7.a t.s7.n t.s7.c,.slice t.s8.a t.s8.n t.s8.c,.slice t.s9.a t.s9.n t.s9.c,.slice t.s10.a t.s10.n t.s10.c,.slice t.s11.a t.s11.n t.s11.c] 26)).alloc (.cells ny 32));have K:Ext w I:=by rw[y];exact(eR'.aB _).aB _
 have j:=ah K;have HT:=ah (ht.aC K);have M:Hid (∀f,Ext I f->∀k:Nat,f.cell? ⟨w.heap.size,k,none⟩=t.v.cells[k]?):=ah (λf h=>aQ ((eR'.aB _).trans' (by rw[y]at h;exact h)));have g:Hid (∀f,Ext I f->f.heap[w.heap.size+1]? =some (.cells ny 32 (0,0))):=ah (λf h=>IW (by rw[y]at h;exact h));have C1:Hid (∀f,Ext I f->Calls prog 44 #[t.v,.string (sB s)] f (Ai f (fG T s))):=ah (λf h=>aSS T t s f (HT.out.aC h) hs);have C2:Hid (∀f,Ext I f->Calls prog 45 #[t.v,.string (sB s)] f (Ai f (uniD T s))):=ah (λf h=>aSW T t s f (HT.out.aC h) hs);have C3:Hid (∀f,Ext I f->Calls prog 46 #[t.v,.string (sB s)] f (II f (dV T s))):=ah (λf h=>WJ T t s f (HT.out.aC h) hs);have HD:Hid (oD T s=if(fG T s).2.2≠0 then(qC,(fG T s).2.2)else if(dV T s).1.length≠1 then(qC,21)else Ap T s ((dV T s).1.getD 0 [])):=rfl;have gG:Hid (∀l,Ap T s l=if 4<uf T l then(qC,20)else if(lF T l).2≠0 then(qC,(lF T l).2)else if(lF T l).1.length=0 then(qC,10)else(((fG T s).1,(uniD T s).1,(lF T l).1),0)):=ah λ_=>rfl
 have HU:Hid ((fG T s).2.2=0->(uniD T s).2.2=0):=ah λh=>by rw[(uni_ok h).2]
 have HP:Hid ((fG T s).2.2=0->(dV T s).2.2=0/\∀l∈(dV T s).1,aX T l=0):=ah λh=>by
  have N:(dV T s).2.2=0:=by
   unfold fG at h;split at h
   .exact absurd h ‹_›
   .exact Decidable.not_not.1 ‹_›
  exact⟨N,λl hl=>Fe ((BK N).2 l hl).1⟩
 generalize Ap T s=CL at*;generalize oD T s=D at*;generalize fG T s=DA at*;generalize uniD T s=Jj at*;generalize dV T s=DP at*;obtain⟨a,ai,ae⟩:=DA;obtain⟨u,ui,ue⟩:=Jj;obtain⟨L,pi,pe⟩:=DP;simp only[]at HD gG HU HP;clear ht hs K;go_enter func14,ntmps14;go_wp2_with fail;rw[<- y];refine(C1.out _ eR').mono ?_;rintro e w1⟨rfl,a4⟩;have q:=ah (a4);have lZ:=M.out _ q.out;clear a4 y;by_cases J:ae=0
 case neg=>
  have e0:(ae != 0)=true:=bN' J;have B:=ah (HD.out.trans (pP' J));clear J HD gG HU HP C2 C3;go_wp2_with(refine wpList_store_row rfl _ _ _ rfl (w.heap.size+1) _ rfl rfl 32 ny (g.out _ q.out) (by kernel_rfl) rfl (pU _ _ _) ?_)
  (try simp only[Exit.inBlock,Exit.then])
  refine bodyPost_ret (results_cell_row_tmp (p:=4) (u:=5) (ty:=32) (by kernel_rfl) _ _ (w.heap.size+1) 32 _ (0,0) (by first|rfl|simp[Act.put]) (setRow_heap _ _ _ _ _ _ (g.out _ q.out)) underlying32 (by kernel_rfl)) rfl ?_;exact⟨by rw[B.out];rfl,nP (j.out.trans' q.out) (Nat.le_succ _) _⟩
 have O:=ah (HD.out.trans (nN' (by rw[J];simp)));have aq:=ah (HU.out J);have P:=ah (HP.out J);have e0:(ae != 0)=false:=bZ' J;clear J HD HU HP;have eu:(ue != 0)=false:=by rw[aq.out];rfl
 go_wp2_with fail;refine(C2.out _ q.out).mono ?_;rintro e w2⟨rfl,a5⟩;have Q:=ah (q.out.trans' a5);have gB:=M.out _ Q.out;clear a5 lZ;have ep:(pe != 0)=false:=by rw[P.out.1];rfl
 go_wp2_with fail;refine(C3.out _ Q.out).mono ?_;rintro e w3⟨A,m,d,rfl,hl,a6⟩;have i:=ah (Q.out.trans' a6);have iq:=M.out _ i.out;clear a6 gB;have HL:=ah hl;have hm:=hl.len.1;simp only[]at hm HL;clear hl;by_cases N:L.length=1
 case neg=>
  have B:=ah (O.out.trans (pP' N));have e1:(((m:Nat):Int) != 1)=true:=by rw[bne_iff_ne];omega
  have av:(m != 1)=true:=by rw[bne_iff_ne];omega
  clear N O gG;go_wp2_with(refine wpList_store_row rfl _ _ _ rfl (w.heap.size+1) _ rfl rfl 32 ny (g.out _ i.out) (by kernel_rfl) rfl (pU _ _ _) ?_)
  (try simp only[Exit.inBlock,Exit.then])
  refine bodyPost_ret (results_cell_row_tmp (p:=4) (u:=5) (ty:=32) (by kernel_rfl) _ _ (w.heap.size+1) 32 _ (0,0) (by first|rfl|simp[Act.put]) (setRow_heap _ _ _ _ _ _ (g.out _ i.out)) underlying32 (by kernel_rfl)) rfl ?_;exact⟨by rw[B.out];rfl,nP (j.out.trans' i.out) (Nat.le_succ _) _⟩
 have a7:=ah (O.out.trans (nN' (by rw[N];simp)));have e1:(((m:Nat):Int) != 1)=false:=by rw[show m=1 by omega];rfl
 have av:(m != 1)=false:=by rw[show m=1 by omega];rfl
 obtain⟨b,o,R,S,U,rfl,a8,hz⟩:=HL.out.at_ (show 0<L.length by omega);have V:=ah (P.out.2 _ (gM' (show 0<L.length by omega)));have W:=ah (gG.out (L[0]'(by omega)));have a9:Hid (D=CL (L[0]'(by omega))):=ah (by rw[a7.out,getD_lt L 0 [] (by omega)]);have HZ:=ah hz;have BH:=ah a8;have ax:m=1:=by omega
 clear hz P gG a7 a8;generalize L[0]'(by omega)=x at*;subst ax;clear N hm HL;have aa:Hid (qG T x=uf T x):=ah (by rw[qG,pP' V.out])
 have ab:Hid (∀f,Ext w3 f->cE' 47 #[t.v,.slice R S U] f (.tuple #[.int .i64 (uf T x),.int .i64 0])):=ah (λf h=>by
  have h':=nP' t T x R S U f (HT.out.aC (i.out.trans' h)) (HZ.out.ext h)
  rwa[aa.out,V.out]at h')
 have HK:Hid (∀f,Ext w3 f->cE' 48 #[t.v,.slice R S U] f (.tuple #[.string (sB (lF T x).1),.int .i64 (lF T x).2])):=ah (λf h=>aYd T t x R S U f (HT.out.aC (i.out.trans' h)) (HZ.out.ext h));generalize uf T x=lv at*;generalize lF T x=kd at*;obtain⟨k,ke⟩:=kd;simp only[]at W HK;have F:=ah (a9.out.trans W.out);have rL:∀z:ak w3,∀p:Nat,z.w.cell? ⟨w.heap.size,p,none⟩=t.v.cells[p]? :=λz=>M.out _ (i.out.trans' z.h)
 have cL:∀z:ak w3,z.w.cell? ⟨b,o,none⟩=some (.slice R S U):=cZ BH.out;clear a9 W aa V HZ iq;go_wp2_with fail;refine rX' ?_
 repeat(go_big_quiet_step(first|(go_at_call 47;with_reducible exact aS (ab.out _ (ak.h _)))))
 refine wpQuiet_nil ?_;rintro _⟨v,rfl⟩;have r:=ah (i.out.trans' v.h);have ac:=ah v.h;have dA:=M.out _ r.out;clear rL cL ab;generalize v.w=v1 at*;clear v;by_cases Y:4<lv
 .have d2:decide (4<lv)=true:=dt' Y;have B:=ah (F.out.trans (pP' Y));clear Y F;go_wp2_with(refine wpList_store_row rfl _ _ _ rfl (w.heap.size+1) _ rfl rfl 32 ny (g.out _ r.out) (by kernel_rfl) rfl (pU _ _ _) ?_)
  (try simp only[Exit.inBlock,Exit.then])
  refine bodyPost_ret (results_cell_row_tmp (p:=4) (u:=5) (ty:=32) (by kernel_rfl) _ _ (w.heap.size+1) 32 _ (0,0) (by first|rfl|simp[Act.put]) (setRow_heap _ _ _ _ _ _ (g.out _ r.out)) underlying32 (by kernel_rfl)) rfl ?_;exact⟨by rw[B.out];rfl,nP (j.out.trans' r.out) (Nat.le_succ _) _⟩
 have G:=ah (F.out.trans (nN' Y));have d2:decide (4<lv)=false:=df' Y;have rL:∀z:ak v1,∀p:Nat,z.w.cell? ⟨w.heap.size,p,none⟩=t.v.cells[p]? :=λz=>M.out _ (r.out.trans' z.h)
 have cL:∀z:ak v1,z.w.cell? ⟨b,o,none⟩=some (.slice R S U):=cZ (bg (bD ac.out) BH.out);have ad:Hid (∀f,Ext v1 f->cE' 48 #[t.v,.slice R S U] f (.tuple #[.string (sB k),.int .i64 ke])):=ah (λf h=>HK.out f (ac.out.trans' h));clear Y F dA HK;go_wp2_with fail;refine rX' ?_
 repeat(go_big_quiet_step(first|(go_at_call 48;with_reducible exact aS (ad.out _ (ak.h _)))))
 refine wpQuiet_nil ?_;rintro _⟨v,rfl⟩;have E:=ah (r.out.trans' v.h);have rK:=M.out _ E.out;clear rL cL ad;generalize v.w=v2 at*;clear v;by_cases Z:ke=0
 case neg=>
  have e3:(ke != 0)=true:=bN' Z;have B:=ah (G.out.trans (pP' Z));clear Z G;go_wp2_with(refine wpList_store_row rfl _ _ _ rfl (w.heap.size+1) _ rfl rfl 32 ny (g.out _ E.out) (by kernel_rfl) rfl (pU _ _ _) ?_)
  (try simp only[Exit.inBlock,Exit.then])
  refine bodyPost_ret (results_cell_row_tmp (p:=4) (u:=5) (ty:=32) (by kernel_rfl) _ _ (w.heap.size+1) 32 _ (0,0) (by first|rfl|simp[Act.put]) (setRow_heap _ _ _ _ _ _ (g.out _ E.out)) underlying32 (by kernel_rfl)) rfl ?_;exact⟨by rw[B.out];rfl,nP (j.out.trans' E.out) (Nat.le_succ _) _⟩
 have e3:(ke != 0)=false:=bZ' Z;have H:=ah (G.out.trans (nN' (by rw[Z];simp)));have af:=y9 k;clear Z G;by_cases X:k.length=0
 .have B:=ah (H.out.trans (pP' X));rw[List.eq_nil_of_length_eq_zero X,show([]:List Int).isEmpty=true from rfl]at af;rw[List.eq_nil_of_length_eq_zero X];clear X H;go_wp2_with(refine wpList_store_row rfl _ _ _ rfl (w.heap.size+1) _ rfl rfl 32 ny (g.out _ E.out) (by kernel_rfl) rfl (pU _ _ _) ?_)
  (try simp only[Exit.inBlock,Exit.then])
  refine bodyPost_ret (results_cell_row_tmp (p:=4) (u:=5) (ty:=32) (by kernel_rfl) _ _ (w.heap.size+1) 32 _ (0,0) (by first|rfl|simp[Act.put]) (setRow_heap _ _ _ _ _ _ (g.out _ E.out)) underlying32 (by kernel_rfl)) rfl ?_;exact⟨by rw[B.out];rfl,nP (j.out.trans' E.out) (Nat.le_succ _) _⟩
 have B:=ah (H.out.trans (nN' X));rw[show k.isEmpty=false from by cases k with|nil=>exact absurd rfl X|cons a b=>rfl]at af;clear X H;go_wp2_with(refine wpList_store_row rfl _ _ _ rfl (w.heap.size+1) _ rfl rfl 32 ny (g.out _ E.out) (by kernel_rfl) rfl (pU _ _ _) ?_)
 (try simp only[Exit.inBlock,Exit.then])
 refine bodyPost_ret (results_cell_row_tmp (p:=4) (u:=5) (ty:=32) (by kernel_rfl) _ _ (w.heap.size+1) 32 _ (0,0) (by first|rfl|simp[Act.put]) (setRow_heap _ _ _ _ _ _ (g.out _ E.out)) underlying32 (by kernel_rfl)) rfl ?_;exact⟨by rw[B.out];rfl,nP (j.out.trans' E.out) (Nat.le_succ _) _⟩
theorem Xw(ht:aW w t T)(hs:IsB s):Calls prog 15 #[t.v,.string (sB s)] w (Oq w (oD T s)):=by
 obtain⟨I,y⟩:=eX' ((w.alloc (.cells #[.slice t.s0.a t.s0.n t.s0.c,.slice t.s1.a t.s1.n t.s1.c,.slice t.s2.a t.s2.n t.s2.c,.slice t.s3.a t.s3.n t.s3.c,.slice t.s4.a t.s4.n t.s4.c,.slice t.s5.a t.s5.n t.s5.c,.slice t.s6.a t.s6.n t.s6.c,.slice t.s7.a t.s7.n t.s7.c,.slice t.s8.a t.s8.n t.s8.c,.slice t.s9.a t.s9.n t.s9.c,.slice t.s10.a t.s10.n t.s10.c,.slice t.s11.a t.s11.n t.s11.c] 26)).alloc (.cells ny 32));have K:Ext w I:=by rw[y];exact(eR'.aB _).aB _
 have j:=ah K;have Z:=ah (ht.aC K);have W:Hid (∀f,Ext I f->∀k:Nat,f.cell? ⟨w.heap.size,k,none⟩=t.v.cells[k]?):=ah (λf h=>aQ ((eR'.aB _).trans' (by rw[y]at h;exact h)));have g:Hid (∀f,Ext I f->f.heap[w.heap.size+1]? =some (.cells ny 32 (0,0))):=ah (λf h=>IW (by rw[y]at h;exact h));have C1:Hid (∀f,Ext I f->Calls prog 49 #[t.v,.string (sB s)] f (Ai f (fG T s))):=ah (λf h=>Xe T t s f (Z.out.aC h) hs);have C2:Hid (∀f,Ext I f->Calls prog 51 #[t.v,.string (sB s)] f (Ai f (uniD T s))):=ah (λf h=>aWj T t s f (Z.out.aC h) hs);have C3:Hid (∀f,Ext I f->Calls prog 21 #[t.v,.string (sB s)] f (II f (dV T s))):=ah (λf h=>O4 T t s f (Z.out.aC h) hs);have HD:Hid (oD T s=if(fG T s).2.2≠0 then(qC,(fG T s).2.2)else if(dV T s).1.length≠1 then(qC,21)else Ap T s ((dV T s).1.getD 0 [])):=rfl;have gG:Hid (∀l,Ap T s l=if 4<uf T l then(qC,20)else if(lF T l).2≠0 then(qC,(lF T l).2)else if(lF T l).1.length=0 then(qC,10)else(((fG T s).1,(uniD T s).1,(lF T l).1),0)):=ah λ_=>rfl
 have HU:Hid ((fG T s).2.2=0->(uniD T s).2.2=0):=ah λh=>by rw[(uni_ok h).2]
 have HP:Hid ((fG T s).2.2=0->(dV T s).2.2=0/\∀l∈(dV T s).1,aX T l=0):=ah λh=>by
  have M:(dV T s).2.2=0:=by
   unfold fG at h;split at h
   .exact absurd h ‹_›
   .exact Decidable.not_not.1 ‹_›
  exact⟨M,λl hl=>Fe ((BK M).2 l hl).1⟩
 generalize Ap T s=CL at*;generalize oD T s=D at*;generalize fG T s=DA at*;generalize uniD T s=Jj at*;generalize dV T s=DP at*;obtain⟨a,ai,ae⟩:=DA;obtain⟨u,ui,ue⟩:=Jj;obtain⟨L,pi,pe⟩:=DP;simp only[]at HD gG HU HP;clear ht hs K;go_enter func15,ntmps15;go_wp2_with fail;rw[<- y];refine(C1.out _ eR').mono ?_;rintro e w1⟨rfl,a3⟩;have q:=ah (a3);have lZ:=W.out _ q.out;clear a3 y;by_cases J:ae=0
 case neg=>
  have e0:(ae != 0)=true:=bN' J;have B:=ah (HD.out.trans (pP' J));clear J HD gG HU HP C2 C3;go_wp2_with(refine wpList_store_row rfl _ _ _ rfl (w.heap.size+1) _ rfl rfl 32 ny (g.out _ q.out) (by kernel_rfl) rfl (pU _ _ _) ?_)
  (try simp only[Exit.inBlock,Exit.then])
  refine bodyPost_ret (results_cell_row_tmp (p:=4) (u:=5) (ty:=32) (by kernel_rfl) _ _ (w.heap.size+1) 32 _ (0,0) (by first|rfl|simp[Act.put]) (setRow_heap _ _ _ _ _ _ (g.out _ q.out)) underlying32 (by kernel_rfl)) rfl ?_;exact⟨by rw[B.out];rfl,nP (j.out.trans' q.out) (Nat.le_succ _) _⟩
 have N:=ah (HD.out.trans (nN' (by rw[J];simp)));have b3:=ah (HU.out J);have O:=ah (HP.out J);have e0:(ae != 0)=false:=bZ' J;clear J HD HU HP;have ep:(pe != 0)=false:=by rw[O.out.1];rfl
 go_wp2_with fail;refine(C3.out _ q.out).mono ?_;rintro e w2⟨A,m,d,rfl,hl,a4⟩;have i:=ah (q.out.trans' a4);have gB:=W.out _ i.out;clear a4 lZ;have HL:=ah hl;have hm:=hl.len.1;simp only[]at hm HL;clear hl;by_cases M:L.length=1
 case neg=>
  have B:=ah (N.out.trans (pP' M));have e1:(((m:Nat):Int) != 1)=true:=by rw[bne_iff_ne];omega
  have aq:(m != 1)=true:=by rw[bne_iff_ne];omega
  clear M N gG;go_wp2_with(refine wpList_store_row rfl _ _ _ rfl (w.heap.size+1) _ rfl rfl 32 ny (g.out _ i.out) (by kernel_rfl) rfl (pU _ _ _) ?_)
  (try simp only[Exit.inBlock,Exit.then])
  refine bodyPost_ret (results_cell_row_tmp (p:=4) (u:=5) (ty:=32) (by kernel_rfl) _ _ (w.heap.size+1) 32 _ (0,0) (by first|rfl|simp[Act.put]) (setRow_heap _ _ _ _ _ _ (g.out _ i.out)) underlying32 (by kernel_rfl)) rfl ?_;exact⟨by rw[B.out];rfl,nP (j.out.trans' i.out) (Nat.le_succ _) _⟩
 have a5:=ah (N.out.trans (nN' (by rw[M];simp)));have e1:(((m:Nat):Int) != 1)=false:=by rw[show m=1 by omega];rfl
 have aq:(m != 1)=false:=by rw[show m=1 by omega];rfl
 obtain⟨b,o,P,Q,R,rfl,a6,hz⟩:=HL.out.at_ (show 0<L.length by omega);have S:=ah (O.out.2 _ (gM' (show 0<L.length by omega)));have U:=ah (gG.out (L[0]'(by omega)));have a7:Hid (D=CL (L[0]'(by omega))):=ah (by rw[a5.out,getD_lt L 0 [] (by omega)]);have HZ:=ah hz;have BH:=ah a6;have av:m=1:=by omega
 clear hz O gG a5 a6;generalize L[0]'(by omega)=x at*;subst av;clear M hm HL;have a8:Hid (qG T x=uf T x):=ah (by rw[qG,pP' S.out])
 have a9:Hid (∀f,Ext w2 f->cE' 50 #[t.v,.slice P Q R] f (.tuple #[.int .i64 (uf T x),.int .i64 0])):=ah (λf h=>by
  have h':=YF t T x P Q R f (Z.out.aC (i.out.trans' h)) (HZ.out.ext h)
  rwa[a8.out,S.out]at h')
 have HK:Hid (∀f,Ext w2 f->cE' 22 #[t.v,.slice P Q R] f (.tuple #[.string (sB (lF T x).1),.int .i64 (lF T x).2])):=ah (λf h=>aYc T t x P Q R f (Z.out.aC (i.out.trans' h)) (HZ.out.ext h));generalize uf T x=lv at*;generalize lF T x=kd at*;obtain⟨k,ke⟩:=kd;simp only[]at U HK;have E:=ah (a7.out.trans U.out);have rL:∀z:ak w2,∀p:Nat,z.w.cell? ⟨w.heap.size,p,none⟩=t.v.cells[p]? :=λz=>W.out _ (i.out.trans' z.h)
 have cL:∀z:ak w2,z.w.cell? ⟨b,o,none⟩=some (.slice P Q R):=cZ BH.out;clear a7 U a8 S HZ gB;go_wp2_with fail;refine rX' ?_
 repeat(go_big_quiet_step(first|(go_at_call 50;with_reducible exact aS (a9.out _ (ak.h _)))))
 refine wpQuiet_nil ?_;rintro _⟨v,rfl⟩;have r:=ah (i.out.trans' v.h);have aa:=ah v.h;have dA:=W.out _ r.out;clear rL cL a9;generalize v.w=v1 at*;clear v;by_cases X:4<lv
 .have d2:decide (4<lv)=true:=dt' X;have B:=ah (E.out.trans (pP' X));clear X E;go_wp2_with(refine wpList_store_row rfl _ _ _ rfl (w.heap.size+1) _ rfl rfl 32 ny (g.out _ r.out) (by kernel_rfl) rfl (pU _ _ _) ?_)
  (try simp only[Exit.inBlock,Exit.then])
  refine bodyPost_ret (results_cell_row_tmp (p:=4) (u:=5) (ty:=32) (by kernel_rfl) _ _ (w.heap.size+1) 32 _ (0,0) (by first|rfl|simp[Act.put]) (setRow_heap _ _ _ _ _ _ (g.out _ r.out)) underlying32 (by kernel_rfl)) rfl ?_;exact⟨by rw[B.out];rfl,nP (j.out.trans' r.out) (Nat.le_succ _) _⟩
 have F:=ah (E.out.trans (nN' X));have d2:decide (4<lv)=false:=df' X;have rL:∀z:ak v1,∀p:Nat,z.w.cell? ⟨w.heap.size,p,none⟩=t.v.cells[p]? :=λz=>W.out _ (r.out.trans' z.h)
 have cL:∀z:ak v1,z.w.cell? ⟨b,o,none⟩=some (.slice P Q R):=cZ (bg (bD aa.out) BH.out);have ab:Hid (∀f,Ext v1 f->cE' 22 #[t.v,.slice P Q R] f (.tuple #[.string (sB k),.int .i64 ke])):=ah (λf h=>HK.out f (aa.out.trans' h));clear X E dA HK;go_wp2_with fail;refine rX' ?_
 repeat(go_big_quiet_step(first|(go_at_call 22;with_reducible exact aS (ab.out _ (ak.h _)))))
 refine wpQuiet_nil ?_;rintro _⟨v,rfl⟩;have G:=ah (r.out.trans' v.h);have rK:=W.out _ G.out;clear rL cL ab;generalize v.w=v2 at*;clear v;by_cases Y:ke=0
 case neg=>
  have e3:(ke != 0)=true:=bN' Y;have B:=ah (F.out.trans (pP' Y));clear Y F;go_wp2_with(refine wpList_store_row rfl _ _ _ rfl (w.heap.size+1) _ rfl rfl 32 ny (g.out _ G.out) (by kernel_rfl) rfl (pU _ _ _) ?_)
  (try simp only[Exit.inBlock,Exit.then])
  refine bodyPost_ret (results_cell_row_tmp (p:=4) (u:=5) (ty:=32) (by kernel_rfl) _ _ (w.heap.size+1) 32 _ (0,0) (by first|rfl|simp[Act.put]) (setRow_heap _ _ _ _ _ _ (g.out _ G.out)) underlying32 (by kernel_rfl)) rfl ?_;exact⟨by rw[B.out];rfl,nP (j.out.trans' G.out) (Nat.le_succ _) _⟩
 have e3:(ke != 0)=false:=bZ' Y;have H:=ah (F.out.trans (nN' (by rw[Y];simp)));have ac:=y9 k;clear Y F;by_cases V:k.length=0
 .have B:=ah (H.out.trans (pP' V));rw[List.eq_nil_of_length_eq_zero V,show([]:List Int).isEmpty=true from rfl]at ac;rw[List.eq_nil_of_length_eq_zero V];clear V H;go_wp2_with(refine wpList_store_row rfl _ _ _ rfl (w.heap.size+1) _ rfl rfl 32 ny (g.out _ G.out) (by kernel_rfl) rfl (pU _ _ _) ?_)
  (try simp only[Exit.inBlock,Exit.then])
  refine bodyPost_ret (results_cell_row_tmp (p:=4) (u:=5) (ty:=32) (by kernel_rfl) _ _ (w.heap.size+1) 32 _ (0,0) (by first|rfl|simp[Act.put]) (setRow_heap _ _ _ _ _ _ (g.out _ G.out)) underlying32 (by kernel_rfl)) rfl ?_;exact⟨by rw[B.out];rfl,nP (j.out.trans' G.out) (Nat.le_succ _) _⟩
 have B:=ah (H.out.trans (nN' V));rw[show k.isEmpty=false from by cases k with|nil=>exact absurd rfl V|cons a b=>rfl]at ac;clear V H;go_wp2_with fail;refine(C2.out _ G.out).mono ?_;rintro e v3⟨rfl,ad⟩;have aY:=ah (G.out.trans' ad);clear ad rK;go_wp2_with(refine wpList_store_row rfl _ _ _ rfl (w.heap.size+1) _ rfl rfl 32 ny (g.out _ aY.out) (by kernel_rfl) rfl (pU _ _ _) ?_)
 (try simp only[Exit.inBlock,Exit.then])
 refine bodyPost_ret (results_cell_row_tmp (p:=4) (u:=5) (ty:=32) (by kernel_rfl) _ _ (w.heap.size+1) 32 _ (0,0) (by first|rfl|simp[Act.put]) (setRow_heap _ _ _ _ _ _ (g.out _ aY.out)) underlying32 (by kernel_rfl)) rfl ?_;exact⟨by rw[B.out];rfl,nP (j.out.trans' aY.out) (Nat.le_succ _) _⟩
abbrev Ou(d:Int×Int×List Int):Value:=.agg #[.int .i64 d.1,.int .i64 d.2.1,.string (sB d.2.2),.int .i64 0,.int .i64 0,.string ⟨#[]⟩,.int .i64 0,.int .i64 0]
abbrev gW:Array Value:= #[.int .i64 0,.int .i64 0,.string ⟨#[]⟩,.int .i64 0,.int .i64 0,.string ⟨#[]⟩,.int .i64 0,.int .i64 0]
theorem qZ(a b c d e f:Int)(s t:ByteArray):(#[.int .i64 a,.int .i64 b,.string s,.int .i64 c,.int .i64 d,.string t,.int .i64 e,.int .i64 f]:Array Value).all (·.oneCell')=true:=by simp[Value.oneCell']
theorem results_tt_cell{d:Func}{p u v:Tmp}{ty:TypeId}(h:d.results= #[.tmp u,.tmp v,.cell p ty])(a:Array Value)(w:World)(g:Nat)(t:TypeId)(b:Array Value)(f:Nat×Nat){fs}
 (i:a.getD p undef=.pointer (some ⟨g,0,none⟩)) (j:w.heap[g]? =some (.cells b t f))
 (k:prog.underlying ty=some (.struct fs)) (l:(prog.info? ty).map (·.size)=some b.size):
 (results d a).run prog w=.ok (.tuple #[a.getD u undef,a.getD v undef,.agg b]) w:=by
 have c:a[p]?.getD undef=.pointer (some ⟨g,0,none⟩):=by simpa using i
 simp[results,h,c,asAddr,run_loadVar_row w g t ty b f (.struct fs) j k rfl l]
theorem Dz(g:Nat)(b:Array Value):Kp [g] w (w.setRow g b):=
 ⟨rfl,rfl,rfl,by simp[World.setRow],λk _ a=>setRow_other _ _ _ _ λe=>a (by simp[e])⟩
abbrev st8(w:World)(g:Nat)(a b:Int)(s:ByteArray):World:=
 (((((((w.setCell ⟨g,0,none⟩ (.int .i64 a)).setCell ⟨g,1,none⟩ (.int .i64 b)).setCell ⟨g,2,none⟩ (.string s)).setCell ⟨g,3,none⟩ (.int .i64 0)).setCell ⟨g,4,none⟩ (.int .i64 0)).setCell ⟨g,5,none⟩ (.string ⟨#[]⟩)).setCell ⟨g,6,none⟩ (.int .i64 0)).setCell ⟨g,7,none⟩ (.int .i64 0)
theorem XD{w:World}{g:Nat}{ty:TypeId}(h:w.heap[g]? =some (.cells gW ty (0,0)))(a b:Int)(s:ByteArray):(st8 w g a b s).heap[g]? =some (.cells #[.int .i64 a,.int .i64 b,.string s,.int .i64 0,.int .i64 0,.string ⟨#[]⟩,.int .i64 0,.int .i64 0] ty (0,0)):=by
 obtain⟨c,d,f⟩:=wZ (g:=g) [.int .i64 a,.int .i64 b,.string s,.int .i64 0,.int .i64 0,.string ⟨#[]⟩,.int .i64 0,.int .i64 0] 0 gW w h (lr' _);obtain rfl:c= #[.int .i64 a,.int .i64 b,.string s,.int .i64 0,.int .i64 0,.string ⟨#[]⟩,.int .i64 0,.int .i64 0]:=Array.toList_inj.1 f;exact d
theorem XE{c w:World}{g:Nat}(h:Ext c w)(d:c.heap.size<=g)(a b:Int)(s:ByteArray):Ext c (st8 w g a b s):=
 tC d [.int .i64 a,.int .i64 b,.string s,.int .i64 0,.int .i64 0,.string ⟨#[]⟩,.int .i64 0,.int .i64 0] 0 _ h
theorem b0f{w:World}{g:Nat}{o:Obj}(h:w.heap[g]? =some o):w.drew.heap[g]? =some o:=h
noncomputable def qF(T:aj):Int->List (List Int)->Option (Int×Int)
 |_,[]=>none
 |i,s::r=>if(oD T s).2≠0 then some (i,(oD T s).2)else qF T (i+1) r
noncomputable def fC(T:aj)(R:List (List Int)):List Nm:=R.map λs=>(oD T s).1
noncomputable def mkE(T:aj)(R:List (List Int)):Int×Int×List Int:=
 if R.length=0 then(10,-1,[])else if 16<R.length then(7,-1,[])else match qF T 0 R with
 |some q=>(q.2,q.1,[])
 |none=>match pO (fC T R)with
  |some p=>(22,p.2,p.1.1)
  |none=>(0,-1,[])
noncomputable def mkS(T:aj)(R:List (List Int)):List P3:=if(mkE T R).1=0 then bC (fC T R)else[]
theorem Ov{T:aj}{R:List (List Int)}{k:Nat}(a:k<R.length):qF T k (R.drop k)=if(oD T R[k]).2≠0 then some ((k:Int),(oD T R[k]).2)else qF T ((k+1:Nat):Int) (R.drop (k+1)):=by
 rw[drop_at R k a];rfl
theorem XA{T:aj}{R:List (List Int)}{k:Nat}(a:k<R.length):fC T (R.take (k+1))=fC T (R.take k)++[(oD T R[k]).1]:=by
 unfold fC;rw[tS' a,List.map_append];rfl
def zx(w:World)(d:Int×Int×List Int)(S:List P3)(e:Ending)(w':World):Prop:=∃A n c B m f,e=.returned (.tuple #[.slice A n c,.slice B m f,Ou d])/\(∃q,w.heap.size<=q/\kE w' q A n c (S.map Prod.fst)/\aK w' q B m f (S.map λp=>(p.2:Int)))/\Ext w w'
theorem Aq{w w':World}{d:Int×Int×List Int}{T:aj}{R:List (List Int)}(a:mkE T R=d)(b:d.1≠0)(c:Ext w w'){e:Ending}(h:e=.returned (.tuple #[.slice none 0 0,.slice none 0 0,Ou d])):zx w (mkE T R) (mkS T R) e w':=by
 have:mkS T R=[]:=by rw[mkS,nN' (by rw[a];exact b)]
 rw[this,a];exact⟨none,0,0,none,0,0,h,⟨_,lr' _,Own.nil_ _ _ _ _,Own.nil_ _ _ _ _⟩,c⟩
theorem IY(e p:Int)(s:List Int)(w:World):cE' 52 #[.int .i64 e,.int .i64 p,.string (sB s)] w (.tuple #[.slice none 0 0,.slice none 0 0,Ou (e,p,s)]):=by
 go_enter func52,ntmps52;go_wp2_with(refine wpList_store_row rfl _ _ _ rfl w.heap.size _ rfl rfl 42 gW (heap_alloc_new w _) (by kernel_rfl) rfl (qZ _ _ _ _ _ _ _ _) ?_)
 (try simp only[Exit.inBlock,Exit.then])
 refine bodyPost_ret (results_tt_cell (u:=6) (v:=7) (p:=8) (ty:=42) (by kernel_rfl) _ _ w.heap.size 42 _ (0,0) (by first|rfl|simp[Act.put]) (setRow_heap _ _ _ _ _ _ (heap_alloc_new w _)) underlying42 (by kernel_rfl)) rfl ?_;exact⟨rfl,nP (eR'.aB _) (lr' _) _⟩
def MkL(T:aj)(wb:World)(R:List (List Int))(gh:Nat)(s7 s8 s31:Value)(wx:World):Prop:=
 ∃(k:Nat)(A:Option Addr)(c:Nat)(B:Option Addr)(d:Nat),k+gh=R.length/\s31=.int .i64 k/\s7=.slice A k c/\s8=.slice B k d/\Hid (kE wx wb.heap.size A k c ((bC (fC T (R.take k))).map Prod.fst))/\Hid (aK wx wb.heap.size B k d ((bC (fC T (R.take k))).map λp=>(p.2:Int)))/\Hid (qF T k (R.drop k)=qF T 0 R)/\Hid (Ext wb wx)
theorem Ot{T:aj}{R:List (List Int)}{k:Nat}(a:k<=R.length):(bC (fC T (R.take k))).length=k:=by
 rw[Xm,fC,List.length_map,List.length_take];omega
theorem Xz:∀(l:List Int),(∀c∈l,bf c=true)->IsB (mD l)
 |[],_=>rU
 |c::r,h=>Ep (D7 (h c (List.mem_cons_self ..))) (Xz r λx a=>h x (List.mem_cons_of_mem _ a))
theorem Xy(l:List Int):IsB (mF l).1:=by
 unfold mF;split
 .exact rU
 .split
  .exact rU
  .rename_i d a;refine Xz l λc b=>?_
   simp only[List.any_eq_true,not_exists,not_and,Bool.not_eq_true',Bool.not_eq_false]at a;exact a c b
theorem b0D(l:List Int):IsB (lF T l).1:=by
 unfold lF;split
 .exact rU
 .exact Xy _
theorem uni_isB:IsB (uniD T s).1:=by
 unfold uniD;split
 .exact rU
 .exact Xy _
theorem b0B:IsB (fG T s).1:=by
 by_cases h:(fG T s).2.2=0
 .intro c a;rcases(aUi h).1 c a with b|rfl
  .have:=Xd b;omega
  .omega
 .rw[(aUg h).1];exact rU
theorem Fv{T:aj}{s:List Int}(_:IsB s):IsB (oD T s).1.1/\IsB (oD T s).1.2.1/\IsB (oD T s).1.2.2:=by
 have a:IsB qC.1/\IsB qC.2.1/\IsB qC.2.2:=⟨rU,rU,rU⟩;unfold oD;split
 .exact a
 split
 .exact a
 unfold Ap;split
 .exact a
 split
 .exact a
 split
 .exact a
 exact⟨b0B T s,uni_isB T s,b0D T _⟩
theorem XB{T:aj}{R:List (List Int)}(d:∀s∈R,IsB s):∀p∈bC (fC T R),IsB p.1.1/\IsB p.1.2.1/\IsB p.1.2.2:=by
 intro p b;have h:=IJ.1 b;obtain⟨c,e⟩:=List.getElem?_eq_some_iff.1 h;have a:p.2<R.length:=by simpa[fC]using c
 rw[<- e];simp only[fC,List.getElem_map];exact Fv (d _ (gM' a))
theorem b0E{T:aj}{R:List (List Int)}(a:∀s∈R,IsB s)(p:P3)(b:p∈bC (fC T R)):IsB (kyP p):=(XB a p b).2.2
theorem Fz(R:List (List Int))(A:Option Addr)(n c:Nat)(w:World)(ht:aW w t T)(hr:oC w ⟨A,n,c⟩ R)(hB:∀s∈R,IsB s):Calls prog 17 #[t.v,.slice A n c] w (zx w (mkE T R) (mkS T R)):=by
 obtain⟨G,l⟩:=eX' ((w.alloc (.cells #[.slice t.s0.a t.s0.n t.s0.c,.slice t.s1.a t.s1.n t.s1.c,.slice t.s2.a t.s2.n t.s2.c,.slice t.s3.a t.s3.n t.s3.c,.slice t.s4.a t.s4.n t.s4.c,.slice t.s5.a t.s5.n t.s5.c,.slice t.s6.a t.s6.n t.s6.c,.slice t.s7.a t.s7.n t.s7.c,.slice t.s8.a t.s8.n t.s8.c,.slice t.s9.a t.s9.n t.s9.c,.slice t.s10.a t.s10.n t.s10.c,.slice t.s11.a t.s11.n t.s11.c] 26)).alloc (.cells gW 42));have U:Ext w G:=by rw[l];exact(eR'.aB _).aB _
 have J:=ah U;have HT:=ah (ht.aC U);have HR:=ah (hr.ext U);have V:=ah hB;have gQ:Hid (∀B,Ext G B->∀k:Nat,B.cell? ⟨w.heap.size,k,none⟩=t.v.cells[k]?):=ah (λB h=>aQ ((eR'.aB _).trans' (by rw[l]at h;exact h)));have g:Hid (∀B,Ext G B->B.heap[w.heap.size+1]? =some (.cells gW 42 (0,0))):=ah (λB h=>IW (by rw[l]at h;exact h));have bL:w.heap.size+2<=G.heap.size:=by rw[l];simp
 have hn:n=R.length:=hr.1.1;subst hn;clear ht hr hB U;by_cases H:R.length=0
 .have Q:Hid (mkE T R=(10,-1,[])):=ah (by rw[mkE,pP' H]);have H0:Hid (((10,-1,[]):Int×Int×List Int).1≠0):=ah (by decide);have e1:(R.length==0)=true:=by rw[bq'];exact H
  have e2:((R.length:Int)==0)=true:=by rw[bq'];omega
  clear H;go_enter func17,ntmps17;go_wp2_with fail;rw[<- l];refine(IY 10 (-1) [] G).mono ?_;rintro e w1⟨rfl,f⟩;go_wp2_with(refine wpList_store_row rfl _ _ _ rfl (w.heap.size+1) _ rfl rfl 42 gW (g.out _ f) (by kernel_rfl) rfl (qZ _ _ _ _ _ _ _ _) ?_)
  (try simp only[Exit.inBlock,Exit.then])
  refine bodyPost_ret (results_tt_cell (u:=4) (v:=5) (p:=6) (ty:=42) (by kernel_rfl) _ _ (w.heap.size+1) 42 _ (0,0) (by first|rfl|simp[Act.put]) (setRow_heap _ _ _ _ _ _ (g.out _ f)) underlying42 (by kernel_rfl)) rfl ?_;exact Aq Q.out H0.out (nP (J.out.trans' f) (Nat.le_succ _) _) rfl
 have e1:(R.length==0)=false:=by rw[aO];exact H
 have e2:((R.length:Int)==0)=false:=bF';by_cases C:16<R.length
 .have Q:Hid (mkE T R=(7,-1,[])):=ah (by rw[mkE,nN' H,pP' C]);have H0:Hid (((7,-1,[]):Int×Int×List Int).1≠0):=ah (by decide);have d1:decide (16<R.length)=true:=dt' C;have d2:decide (16<(R.length:Int))=true:=dT';clear H C;go_enter func17,ntmps17;go_wp2_with fail;rw[<- l];refine(IY 7 (-1) [] G).mono ?_;rintro e w1⟨rfl,f⟩;go_wp2_with(refine wpList_store_row rfl _ _ _ rfl (w.heap.size+1) _ rfl rfl 42 gW (g.out _ f) (by kernel_rfl) rfl (qZ _ _ _ _ _ _ _ _) ?_)
  (try simp only[Exit.inBlock,Exit.then])
  refine bodyPost_ret (results_tt_cell (u:=4) (v:=5) (p:=6) (ty:=42) (by kernel_rfl) _ _ (w.heap.size+1) 42 _ (0,0) (by first|rfl|simp[Act.put]) (setRow_heap _ _ _ _ _ _ (g.out _ f)) underlying42 (by kernel_rfl)) rfl ?_;exact Aq Q.out H0.out (nP (J.out.trans' f) (Nat.le_succ _) _) rfl
 have d1:decide (16<R.length)=false:=df' C;have d2:decide (16<(R.length:Int))=false:=dF';have bH:R.length<=16:=by omega
 have bJ:0<R.length:=by omega
 have HM:Hid (mkE T R=match qF T 0 R with
  |some q=>(q.2,q.1,[])
  |none=>match pO (fC T R)with
   |some p=>(22,p.2,p.1.1)
   |none=>(0,-1,[])):=ah (by rw[mkE,nN' H,nN' C])
 clear H C;go_enter func17,ntmps17;go_wp2_with fail;rw[<- l];clear l;go_loopg[7,8,31] R.length (λgh s7 s8 bh wx=>MkL T G R gh s7 s8 bh wx);exact⟨0,none,0,none,0,by omega,rfl,rfl,rfl,ah (Own.nil_ _ _ _ _),ah (Own.nil_ _ _ _ _),ah rfl,ah eR'⟩;obtain⟨k,A2,c2,B2,aD,bN,rfl,rfl,rfl,HO,HI,K,HB⟩:=hrel;have rT:=gQ.out _ HB.out;by_cases hk:k<R.length
 .obtain⟨bi,rfl⟩:=gS' gk;obtain⟨b,o,rfl,bj⟩:=(HR.out.ext HB.out).at_ hk;have HC:=ah (aZN T t R[k] wr (HT.out.aC HB.out) (V.out _ (gM' hk)));have W:=ah (Ov (T:=T) hk);have aa:=ah (XA (T:=T) hk);have X:=ah (λp hp=>b0E (T:=T) (R:=R.take k) (λs hs=>V.out s (List.mem_of_mem_take hs)) p hp);have aL:=ah (Fv (T:=T) (V.out _ (gM' hk))).2.2;have m:=ah (Ot (T:=T) (R:=R) (k:=k) (by omega));generalize R[k]=x at*;generalize oD T x=D at*;obtain⟨d,ev⟩:=D;simp only[]at W aa aL;have bO:=z0' k;have bR:(k:Int)<(R.length:Int):=by omega
  go_wp2_with fail;refine HC.out.mono ?_;rintro e r⟨rfl,Y⟩;have ab:=ah (HB.out.trans' Y);have dJ:=ah (Own.ext HO.out Y);have aM:=ah (Own.ext HI.out Y);have Z:Ext r (r.alloc (.cells #[.string (sB d.1),.string (sB d.2.1),.string (sB d.2.2)] 32)):=eR'.aB _;clear Y rT bj HC HO HI;by_cases I:ev=0
  case neg=>
   have f1:(ev != 0)=true:=bN' I;have Q:Hid (mkE T R=(ev,(k:Int),[])):=ah (by rw[HM.out,<- K.out,W.out,pP' I]);have H0:Hid (((ev,(k:Int),[]):Int×Int×List Int).1≠0):=ah I;clear I;go_wp2_with(refine wpList_store_row rfl _ _ _ rfl r.heap.size _ rfl rfl 32 ny (heap_alloc_new r _) (by kernel_rfl) rfl (pU _ _ _) ?_;rw[World.setRow_alloc_new]);refine(IY ev k [] _).mono ?_;rintro e w4⟨rfl,aR⟩;have ac:=ah ((ab.out.trans' Z).trans' aR);clear aR Z;go_wp2_with(refine wpList_store_row rfl _ _ _ rfl (w.heap.size+1) _ rfl rfl 42 gW (g.out _ ac.out) (by kernel_rfl) rfl (qZ _ _ _ _ _ _ _ _) ?_)
   (try simp only[Exit.inBlock,Exit.then])
   refine bodyPost_ret (results_tt_cell (u:=4) (v:=5) (p:=6) (ty:=42) (by kernel_rfl) _ _ (w.heap.size+1) 42 _ (0,0) (by first|rfl|simp[Act.put]) (setRow_heap _ _ _ _ _ _ (g.out _ ac.out)) underlying42 (by kernel_rfl)) rfl ?_;exact Aq Q.out H0.out (nP (J.out.trans' ac.out) (Nat.le_succ _) _) rfl
  have f1:(ev != 0)=false:=bZ' I;have bk:=ah ((W.out.trans (nN' (by rw[I];simp))).symm.trans K.out);clear I W K
  have gU:Hid (bC (fC T (R.take (k+1)))=yu (bC (fC T (R.take k))) (d,k)):=ah (by
   rw[aa.out,Xl,fC,List.length_map,List.length_take,Nat.min_eq_left (by omega)])
  generalize bC (fC T (R.take k))=S at*;have HY:Hid (IsB d.2.2/\∀p∈S,IsB (kyP p)):=ah ⟨aL.out,X.out⟩;obtain⟨W5,a0⟩:=eX' (r.alloc (.cells #[.string (sB d.1),.string (sB d.2.1),.string (sB d.2.2)] 32));have a1:Ext r W5:=by rw[a0];exact Z
  have aZ:=ah (ab.out.trans' a1);have bK:=ah (Own.ext dJ.out a1);have lM:=ah (Own.ext aM.out a1)
  have dU:Hid (∀B,Ext W5 B->B.cell? ⟨r.heap.size,0,none⟩=some (.string (sB d.1))/\B.cell? ⟨r.heap.size,1,none⟩=some (.string (sB d.2.1))/\B.cell? ⟨r.heap.size,2,none⟩=some (.string (sB d.2.2))):=ah (λB h=>by
   rw[a0]at h
   exact⟨bg (bD h) (World.cell?_alloc_new r _ _ 0),bg (bD h) (World.cell?_alloc_new r _ _ 1),bg (bD h) (World.cell?_alloc_new r _ _ 2)⟩)
  clear Z a1 ab dJ aM aa;go_wp2_with(refine wpList_store_row rfl _ _ _ rfl r.heap.size _ rfl rfl 32 ny (heap_alloc_new r _) (by kernel_rfl) rfl (pU _ _ _) ?_;rw[World.setRow_alloc_new,<- a0];clear a0);have Ib:=m.out;go_loopg[13] k (λgh bl wx=>bl=.int .i64 gh/\gh<=k/\Hid (l9 d.2.2 S gh=l9 d.2.2 S k)/\Hid (Ext W5 wx));exact⟨rfl,lr' _,ah rfl,ah eR'⟩;obtain⟨rfl,bS,HP,E⟩:=hrel;have ad:=ah (Own.ext bK.out E.out);have cN:∀z:ak wr,z.w.cell? ⟨r.heap.size,2,none⟩=some (.string (sB d.2.2)):=λz=>(dU.out _ (E.out.trans' z.h)).2.2
  have bm:(decide (0<gk)=false/\Hid (l9 d.2.2 S k=gk))\/(decide (0<gk)=true/\∃(j:Nat)(q:List Int)(g0 o0:Nat),(gk:Int)-1=(j:Int)/\j<k/\Hid (gk=j+1)/\A2=some ⟨g0,o0,none⟩/\(∀z:ak wr,z.w.cell? ⟨g0,o0+j*3+2,none⟩=some (.string (sB q)))/\
   ((Op.bytesLess (sB q).toList (sB d.2.2).toList=true/\Hid (l9 d.2.2 S k=gk))\/(Op.bytesLess (sB q).toList (sB d.2.2).toList=false/\((sB q).toList==(sB d.2.2).toList)=true/\Hid (l9 d.2.2 S k=gk))\/
    (Op.bytesLess (sB q).toList (sB d.2.2).toList=false/\((sB q).toList==(sB d.2.2).toList)=false/\Hid (l9 d.2.2 S j=l9 d.2.2 S k)))):=by
   by_cases hz:gk=0
   .exact .inl ⟨df' (by omega),ah (by have:=HP.out;rw[hz]at this |-;exact this.symm)⟩
   .obtain⟨j,hj⟩:∃j,gk=j+1:=⟨gk-1,by omega⟩;have L:j<S.length:=(by omega);obtain⟨g0,o0,hA,_,_,h2⟩:=NmS.at_ (kE.nms ad.out) (i:=j) (by rw[List.length_map];omega);rw[List.getElem_map]at h2;have hP:=HP.out;rw[hj,l9,dif_pos L]at hP;have b1:=HY.out.2 _ (gM' L);refine .inr ⟨dt' (by omega),j,S[j].1.2.2,g0,o0,by omega,by omega,ah hj,hA,λz=>bg (bD z.h) h2,?_⟩;rw[Fp b1 HY.out.1,rV b1 HY.out.1];by_cases M:ltS d.2.2 (kyP S[j])=true
    .rw[pP' M]at hP;exact .inr (.inr ⟨IL M,df' (λe=>BN M e.symm),ah hP⟩)
    .rw[nN' M]at hP;have b2:ltS d.2.2 S[j].1.2.2=false:=(by cases h:ltS d.2.2 S[j].1.2.2;rfl;exact absurd h M);cases hq:ltS S[j].1.2.2 d.2.2 with
     |true=>exact .inl ⟨rfl,ah (by rw[hj];exact hP.symm)⟩
     |false=>exact .inr (.inl ⟨rfl,dt' (BL hq b2),ah (by rw[hj];exact hP.symm)⟩)
  rcases bm with⟨hd,a2⟩|⟨hd,j,q,g0,o0,bn,bU,bo,rfl,cQ,⟨f,a2⟩|⟨f,bp,a2⟩|⟨f,bp,bq⟩⟩
  all_goals
   go_wp2_with fail;refine rX' ?_
   repeat(go_big_quiet_step(fail))
   refine wpQuiet_nil ?_;rintro _⟨z,rfl⟩
  rotate_left 3
  .have N:=ah (E.out.trans' z.h);clear cN cQ;go_wp2;go_roundg j;exact⟨by go_num,by omega,bq,N⟩;have:=bo.out;omega
  all_goals
   have N:=ah (E.out.trans' z.h);have iC:=ah (aZ.out.trans' N.out);have ae:(S.map Prod.fst).length=k:=(by rw[List.length_map];exact m.out);have af:(S.map λp=>(p.2:Int)).length=k:=by rw[List.length_map];exact m.out
   have y:=ah (Own.ext lM.out N.out);have O:=ah (Own.ext ad.out z.h);obtain⟨k0,k1,k2⟩:=dU.out _ N.out;generalize z.w=w6 at*;have Oz:=ah (aYm G w6 _ c2 (S.map Prod.fst) d gk (by rw[ae];exact O.out) iC.out (by omega) (by omega));rw[ae]at Oz
   have ag:Hid ((S.map Prod.fst).take gk++d::(S.map Prod.fst).drop gk=(bC (fC T (R.take (k+1)))).map Prod.fst/\oO (S.map λp=>(p.2:Int)) gk (k:Int)=(bC (fC T (R.take (k+1)))).map λp=>(p.2:Int)):=ah (by
    rw[gU.out,yu,show l9 (kyP (d,k)) S S.length=gk from by rw[m.out];exact a2.out]
    simp[oO,List.map_take,List.map_drop])
   clear a2 E N cN ad HP ae;go_wp2_with fail;refine Oz.out.mono ?_;rintro e w7⟨A7,c7,rfl,vK,F,b3⟩;have ai:=ah vK;have al:=ah (Own.kp (Own.ext y.out (eR'.aB _)) b3 (λb hb hm=>Own.types y.out O.out (by decide) b hb (by simpa using hm)));have qQ:=ah F;have Oy:=ah (Xu G w7 B2 aD (S.map λp=>(p.2:Int)) (k:Int) gk (by rw[af];exact al.out) F (by omega) (by omega));rw[af]at Oy;clear vK F b3 Oz y O k0 k1 k2;go_wp2_with fail;refine Oy.out.mono ?_;rintro e w8⟨⟨B8,n8,d8,rfl,b4,pW,b5⟩,b6⟩;have O9:n8=k+1:=(by rw[b4,Ah _ _ _ (by omega),af]);subst O9;have b7:=ah (Own.kp (Own.ext ai.out (eR'.aB _)) b6 (λb hb hm=>Own.types ai.out al.out (by decide) b hb (by simpa using hm)));rw[ag.out.1]at b7;rw[ag.out.2]at pW;have br:=ah pW;have bs:=ah b5;clear pW b5 b6 Oy al ai ag b4;go_wp2;go_roundg bi;exact⟨k+1,A7,c7,B8,d8,by omega,by go_num,rfl,rfl,b7,br,bk,bs⟩;omega
 .have bt:k=R.length:=by omega
  subst bt;have b8:Hid (qF T 0 R=none):=ah (by rw[<- K.out,List.drop_of_length_le (lr' _)];rfl);rw[List.take_length]at HO HI;have m:Hid ((bC (fC T R)).length=R.length):=ah (by have:=Ot (T:=T) (R:=R) (lr' _);rwa[List.take_length]at this);have X:=ah (XB (T:=T) V.out)
  have b9:Hid (mkE T R=match pO (fC T R)with
   |some p=>(22,p.2,p.1.1)
   |none=>(0,-1,[])):=ah (by rw[HM.out,b8.out])
  have ba:Hid (mkS T R=if(mkE T R).1=0 then bC (fC T R)else[]):=rfl;have bu:Hid (pO (fC T R)=qY (bC (fC T R)) (bC (fC T R)).length 1):=rfl;generalize pO (fC T R)=TW at*;generalize bC (fC T R)=S at*;have bv:R.length-1+1=R.length:=by omega
  clear HM K b8;go_wp2;go_loopg[14] (R.length-1) (λgh bw wx=>∃i:Nat,i+gh=R.length/\1<=i/\bw=.int .i64 i/\Hid (qY S (gh+1) i=TW)/\Hid (Ext wr wx));exact⟨1,by omega,lr' _,rfl,ah (by rw[bv,bu.out,m.out]),ah eR'⟩;obtain⟨i,bW,bX,rfl,P,E⟩:=hrel;by_cases hi:i<R.length
  .obtain⟨g2,rfl⟩:=gS' gk;obtain⟨j,rfl⟩:=gS' i;have L:j+1<S.length:=(by have:=m.out;omega);have a3:Hid (TW=if S[j+1].1.2.2=S[j].1.2.2 then some S[j+1]else qY S (g2+1) (j+2)):=ah (by rw[<- P.out,qY,dif_pos L];rfl);have ao:=kE.nms (Own.ext HO.out E.out);have y:=ah (aK.ints (Own.ext HI.out E.out));obtain⟨g0,o0,rfl,_,_,H⟩:=NmS.at_ ao (i:=j) (by rw[List.length_map];omega);obtain⟨bZ,c3,hA,I,_,h2⟩:=NmS.at_ ao (i:=j+1) (by rw[List.length_map];omega);cases hA;rw[List.getElem_map]at H I h2;have bb:=rV (X.out _ (gM' L)).2.2 (X.out _ (gM' (show j<S.length by omega))).2.2;obtain⟨g1,o1,rfl,h3⟩:=y.out.at_ (i:=j+1) (by rw[List.length_map];omega);rw[List.getElem_map]at h3;have bx:=ah I;have bz:=ah h3;generalize S[j+1]=p1 at*;generalize S[j].1=q0 at*;have c0:∀z:ak wr,z.w.cell? ⟨g0,o0+j*3+2,none⟩=some (.string (sB q0.2.2)):=cZ H;have c1:∀z:ak wr,z.w.cell? ⟨g0,o0+(j+1)*3+2,none⟩=some (.string (sB p1.1.2.2)):=cZ h2;have bn:((j+1:Nat):Int)-1=(j:Int):=(by omega);clear ao H I h2 h3 rT;by_cases he:p1.1.2.2=q0.2.2
   .rw[dt' he]at bb;have HF:=ah (a3.out.trans (pP' he));have Q:Hid (mkE T R=(22,(p1.2:Int),p1.1.1)):=ah (by rw[b9.out,HF.out]);have H0:Hid (((22,(p1.2:Int),p1.1.1):Int×Int×List Int).1≠0):=ah (by show(22:Int)≠0;omega);clear he a3 P;go_wp2_with fail;refine rX' ?_
    repeat(go_big_quiet_step(fail))
    refine wpQuiet_nil ?_;rintro _⟨z,rfl⟩;have N:=ah (E.out.trans' z.h);have I:=cZ bx.out z;have h3:=cZ bz.out z;generalize z.w=w6 at*;have c4:(0:Int)<=(j:Int)+1:=(by omega);have c5:(j:Int)+1<(R.length:Int):=(by omega);have c6:((j:Int)+1).toNat=j+1:=(by omega);clear c0 c1 z;go_wp2_with fail;go_region_law((go_simp;go_at_call 52;refine(IY 22 p1.2 p1.1.1 _).mono ?_;rintro e w7⟨rfl,F⟩;have jA:Hid (Ext w6 w7):=ah (eR'.dL.trans' F);have ap:=ah (g.out w7 (HB.out.trans' (N.out.trans' jA.out)));have cR:∀k:Nat,w7.cell? ⟨w.heap.size+1,k,none⟩=gW[k]? :=λk=>cell_of_row w7 _ k gW _ (0,0) ap.out;have fR:∀k:Nat,w7.frozen? ⟨w.heap.size+1,k,none⟩=false:=λk=>frozen_of_row w7 _ k gW _ ap.out;clear F))
    all_goals
     have bA:=XD ap.out 22 p1.2 (sB p1.1.1);have aY:=ah (XE (J.out.trans' (HB.out.trans' (N.out.trans' jA.out))) (Nat.le_succ w.heap.size) 22 p1.2 (sB p1.1.1));clear cR fR;go_wp2_with fail
     (try simp only[Exit.inBlock,Exit.then])
     refine bodyPost_ret (results_tt_cell (u:=4) (v:=5) (p:=6) (ty:=42) (by kernel_rfl) _ _ (w.heap.size+1) 42 _ (0,0) (by first|rfl|simp[Act.put]) bA underlying42 (by kernel_rfl)) rfl ?_;exact Aq Q.out H0.out aY.out rfl
   .rw[df' he]at bb;have bB:=ah (a3.out.trans (nN' he));clear he a3 P;go_wp2_with fail;refine rX' ?_
    repeat(go_big_quiet_step(fail))
    refine wpQuiet_nil ?_;rintro _⟨z,rfl⟩;have N:=ah (E.out.trans' z.h);generalize z.w=w6 at*;clear c0 c1 z;go_wp2;go_roundg g2;exact⟨j+2,by omega,by omega,by go_num,ah bB.out.symm,N⟩;omega
  .have bE:i=R.length:=by omega
   have bd:Hid (TW=none):=ah (by rw[<- P.out,qY,dif_neg (by rw[m.out];omega)]);have Q:Hid (mkE T R=(0,-1,[])):=ah (by rw[b9.out,bd.out]);have be:Hid (mkS T R=S):=ah (by rw[ba.out,pP' (by rw[Q.out])]);have aY:=ah (HB.out.trans' E.out);have O:=ah (λcs:Array Value=>(Own.kp (Own.ext HO.out E.out) (Dz _ (w.heap.size+1) cs) (λb hb hm=>by have:=(Own.lt HO.out b hb).1;simp at hm;omega)));have y:=ah (λcs:Array Value=>(Own.kp (Own.ext HI.out E.out) (Dz _ (w.heap.size+1) cs) (λb hb hm=>by have:=(Own.lt HI.out b hb).1;simp at hm;omega)));clear bE bd ba P rT;go_wp2_with(refine wpList_store_row rfl _ _ _ rfl (w.heap.size+1) _ rfl rfl 42 gW (g.out _ aY.out) (by kernel_rfl) rfl (qZ _ _ _ _ _ _ _ _) ?_)
   (try simp only[Exit.inBlock,Exit.then])
   refine bodyPost_ret (results_tt_cell (u:=4) (v:=5) (p:=6) (ty:=42) (by kernel_rfl) _ _ (w.heap.size+1) 42 _ (0,0) (by first|rfl|simp[Act.put]) (setRow_heap _ _ _ _ _ _ (g.out _ aY.out)) underlying42 (by kernel_rfl)) rfl ?_;exact⟨A2,_,c2,B2,_,aD,by rw[Q.out];rfl,⟨G.heap.size,by omega,by rw[be.out];exact O.out _,by rw[be.out];exact y.out _⟩,nP (J.out.trans' aY.out) (Nat.le_succ _) _⟩
end Go.Proofs.YtlmkgaoakcjlnaaGreatDoor
