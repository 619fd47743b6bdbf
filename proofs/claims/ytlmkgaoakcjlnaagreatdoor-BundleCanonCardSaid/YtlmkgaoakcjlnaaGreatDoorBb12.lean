/- Part Bb12. -/
import Derived.Laws.Tables
import Derived.Laws.Rows
import Derived.Test.YtlmkgaoakcjlnaaGreatDoorBb11
import Derived.Shelf.Spec.SlicesInsertGrow
import Derived.Deep.LoopGhost
import Derived.Test.YtlmkgaoakcjlnaaGreatDoorRows
import Derived.ProofKit
import Derived.OpenShut
import Derived.Deep.Slices
import Derived.Deep.MidRow
import Derived.Deep.DeepHandedRow
import Derived.Lib.LaidTab
import Derived.Below
import Derived.Carry
import Derived.ChangeSame
open Go.Proofs.Tryz
namespace Go.Proofs.YtlmkgaoakcjlnaaGreatDoor
set_option maxHeartbeats 25600000
set_option maxRecDepth 100000
open Go.RowKit
theorem Xw(l m:List Int)(A:Option Addr)(n c:Nat)(I:Option Addr)(J K:Nat)(w:World)(h:aF w ⟨A,n,c⟩ l)(L:aF w ⟨I,J,K⟩ m):
 Calls prog 276 #[.slice A n c,.slice I J K] w λe w'=>e= .returned (.bool (jA l m))/\Ext w w':=by
 obtain⟨M,_,_⟩:=h.len;obtain⟨t,_,_⟩:=L.len;subst M t;have N:=ah h;have O:=ah L;by_cases a:l.length=m.length
 .have P:((l.length:Int) != (m.length:Int))=false:=by rw[a];simp
  have D:=ah a;have Q:Hid ((m.length:Int)=(l.length:Int)):=ah (by rw[a]);clear a;go_enter func276,ntmps276;go_wp2;go_loopw[13] (λi wr=>∃(k:Nat),k<=l.length/\i= .int .i64 k/\Hid (jA l m=jA (l.drop k) (m.drop k))/\Ext w wr) (λi _=>l.length - (intOf i).toNat);exact⟨0,Nat.zero_le _,rfl,rfl,Ext.refl _⟩;obtain⟨k,hk,rfl,r,f⟩:=hrel;by_cases j:k<l.length
  .have g:k<m.length:=by rw[<- D.out];exact j
   obtain⟨b,o,R,E⟩:=(N.out.ext f).at_ j;obtain⟨S,T,z,F⟩:=(O.out.ext f).at_ g;subst R z;have G:=ah (drop_at l k j);have H:=ah (drop_at m k g);generalize l[k]=x at*;generalize m[k]=y at*;have s:=aI r (show _=(x==y&&jA (l.drop (k+1)) (m.drop (k+1)))from by rw[G.out,H.out];rfl);clear r G H;have U:∀B:ak wr,B.w.cell? ⟨b,o+k,none⟩=some (.int .i64 x):=dD E;have V:∀B:ak wr,B.w.cell? ⟨S,T+k,none⟩=some (.int .i64 y):=dD F;have W:=z0' k;have X:(k:Int)<(l.length:Int):=(by omega);have Y:(k:Int)<(m.length:Int):=(by omega);go_wp2_with fail;refine rX' ?_
   repeat(go_big_quiet_step(fail))
   refine wpQuiet_nil ?_;rintro _⟨Z,rfl⟩;have q:=f.trans' Z.h;clear U V E F;by_cases d:x=y
   .have C:(x != y)=false:=(by rw[d];simp);have p:=aI s (show _=jA (l.drop (k+1)) (m.drop (k+1))from by rw[d];simp);clear s d;go_wp2;go_roundw;exact⟨k+1,by omega,by go_num,p,q⟩;simp[intOf];omega
   .have C:(x != y)=true:=bN' d;have p:=aI s (show _=false from by rw[beq_eq_false_iff_ne.2 d];rfl);clear s d;go_wp2;go_ret;exact⟨aO p.out.symm,q⟩
  .have p:=aI r (show _=true from by rw[bQ l k (by omega),bQ m k (by rw[<- D.out];omega)];rfl);clear r;go_wp2;go_ret;exact⟨aO p.out.symm,f⟩
 .have P:((l.length:Int) != (m.length:Int))=true:=by rw[bne_iff_ne];omega
  have p:=ah (Fb l m a);clear a;go_enter func276,ntmps276;go_wp2;go_ret;exact⟨aO p.out.symm,Ext.refl _⟩
def kU(T:aj)(l:List Int):List Int:=if eP T l=0 then Nb T l else[]
theorem zY{T:aj}{l:List Int}(a:eP T l=0):bY T=true/\(mW T l).length<=4096:=by
 unfold eP at a;by_cases b:aX T l=0
 .rw[if_neg (by rw[b];simp)]at a;refine⟨(qA b).1,?_⟩;by_cases c:4096<((mW T l).length:Int)
  .rw[if_pos c]at a;omega
  .omega
 .rw[if_pos b]at a;exact absurd a b
theorem ZC(T:aj)(t:TV)(l:List Int)(A:Option Addr)(n c:Nat)(w:World)(ht:aV w t T)(I:aF w ⟨A,n,c⟩ l):
 Calls prog 82 #[t.v,.slice A n c] w λe w'=>∃B m d,e= .returned (.tuple #[.slice B m d,.int .i64 (eP T l)])/\Ext w w'/\aF w' ⟨B,m,d⟩ (kU T l)/\∀b,aG B=some b->w.heap.size<=b:=by
 have a:=cZ w t;have F:=ah (ht.aB a);have J:=ah (I.ext a);clear ht I;go_enter func82,ntmps82;go_wp2_with fail;refine(JU T t l A n c _ F.out J.out).mono ?_;rintro e G⟨B,m,d,rfl,i,j⟩;have f:=ah i;have o:=ah j;have M:∀k:Nat,G.cell? ⟨w.heap.size,k,none⟩=t.v.cells[k]? :=aQ i;clear i j;by_cases g:eP T l=0
 .have y:(eP T l==0)=true:=by rw[beq_iff_eq];exact g
  have z:Hid (aF G ⟨B,m,d⟩ (mW T l)):=ah (by have:=o.out;rw[kF,if_pos g]at this;exact this);have x:=ah g;have p:=ah (zY g);clear g o;go_wp2_with fail;refine(Y2 T p.out.1 t (mW T l) B m d _ (F.out.aB f.out) z.out (by have:=p.out.2;omega)).mono ?_;rintro e N⟨H,K,L,rfl,q,r,s⟩;have C:=ah q;have D:=(a.trans' f.out).trans' r;have E:Hid (∀b,aG H=some b->w.heap.size<=b):=ah (λb h=>Nat.le_trans (a.trans' f.out).b.size (s b h));clear q r s;go_wp2;go_ret2;exact⟨H,K,L,by rw[x.out];rfl,D,by rw[kU,x.out,if_pos rfl];exact C.out,E.out⟩
 .have y:(eP T l==0)=false:=by rw[aP];exact g
  have x:=ah g;have D:=a.trans' f.out;clear g;go_wp2;go_ret2;exact⟨none,0,0,rfl,D,by rw[kU,if_neg x.out];exact aF.nil_ _,λb h=>by cases h⟩
theorem VX(T:aj)(t:TV)(l:List Int)(A:Option Addr)(n c:Nat)(w:World)(ht:aV w t T)(a:aF w ⟨A,n,c⟩ l):
 Calls prog 82 #[t.v,.slice A n c] w λe w'=>∃B m d,e= .returned (.tuple #[.slice B m d,.int .i64 (eP T l)])/\Ext w w'/\aF w' ⟨B,m,d⟩ (kU T l):=
 (ZC T t l A n c w ht a).mono λ_ _⟨B,m,d,h1,h2,h3,_⟩=>⟨B,m,d,h1,h2,h3⟩
def pV(T:aj)(l:List Int):Bool:=(eP T l==0)&&jA (kU T l) l
theorem zA'(T:aj)(t:TV)(l:List Int)(A:Option Addr)(n c:Nat)(w:World)(ht:aV w t T)(q:aF w ⟨A,n,c⟩ l):
 Calls prog 230 #[t.v,.slice A n c] w λe w'=>e= .returned (.bool (pV T l))/\Ext w w':=by
 have a:=cZ w t;have r:=ah (ht.aB a);have o:=ah (q.ext a);clear ht q;go_enter func230,ntmps230;go_wp2_with fail;refine(VX T t l A n c _ r.out o.out).mono ?_;rintro e s⟨B,m,d,rfl,f,g⟩;have b:=ah f;have h:=ah g;clear f g;cases p:(eP T l==0)
 .have i:Hid (pV T l=false):=ah (by rw[pV,p];rfl);have j:=a.trans' b.out;go_wp2;go_ret;exact⟨aO i.out.symm,j⟩
 .have i:Hid (pV T l=jA (kU T l) l):=ah (by rw[pV,p];rfl);go_wp2_with(go_at_call 276;refine(Xw (kU T l) l B m d A n c _ h.out (o.out.ext b.out)).mono ?_;rintro e x⟨rfl,k⟩);have j:=(a.trans' b.out).trans' k;go_ret;exact⟨aO i.out.symm,j⟩
def zf(T:aj)(l:List Int):Nat->Int->Bool
 |0,_=>false
 |n+1,k=>if eU T l (aK 3 ||| aK k)=true then true else zf T l n (k+1)
theorem ZX(T:aj)(l:List Int):qy T l=zf T l 3 61:=by
 simp only[qy,zf];rw[show(61:Int)+1=62 from rfl,show(62:Int)+1=63 from rfl];cases eU T l (aK 3 ||| aK 61)<;>cases eU T l (aK 3 ||| aK 62)<;>cases eU T l (aK 3 ||| aK 63)<;>rfl
theorem or8(k:Int):bits .or .u64 8 (uv (aK k))=uv (aK 3 ||| aK k):=by
 rw[<- tH,show uv (aK 3)=8 from by decide+kernel]
theorem aF2(v:BitVec 64):eG v kV=(v != 0#64):=by
 unfold eG;rw[show kV=BitVec.allOnes 64 from by decide+kernel,BitVec.and_allOnes]
theorem Xh(t:TV)(T:aj)(l:List Int)(A:Option Addr)(n c:Nat)(w:World)(ht:aV w t T)(h:aF w ⟨A,n,c⟩ l):
 Calls prog 50 #[t.v,.slice A n c] w λe w'=>e= .returned (.tuple #[.int .i64 (pR T l),.int .i64 (aX T l)])/\Ext w w':=by
 obtain⟨hn,b0,ba⟩:=h.len;subst hn;have g:=cZ w t;have HT:=ah (ht.aB g);have HI:=ah (h.ext g);have HO:=ah (rW t T l A l.length c _ HT.out HI.out);clear ht h;by_cases M:aX T l=0
 .have HW:=ah (Dp M);have J:=ah M;have E:Hid (pR T l=sJ T l):=ah (by rw[pR,if_pos M])
  have HS:Hid (∀x v,mJ T x=v->∀w',Ext (tW' w t) w'->Calls prog 97 #[t.v,.int .i64 x] w' λe r=>e= .returned (.int .u64 (uv v))/\Ext w' r):=ah (λx v i w' j=>by
   have K:=IK t T x w' (HT.out.aB j) HW.out;rw[i]at K
   exact K)
  have Z:Hid (∀v,(resT T l != 0#64)=v->∀w',Ext (tW' w t) w'->Calls prog 98 #[t.v,.slice A l.length c] w' λe r=>e= .returned (.bool v)/\Ext w' r):=ah (λv i w' j=>by
   have K:=X5 t T l A l.length c w' (HT.out.aB j) (HI.out.ext j);rw[show xP T l=(resT T l != 0#64)from by rw[xP,J.out];rfl,i]at K
   exact K)
  have a0:Hid (∀m v,eU T l m=v->∀w',Ext (tW' w t) w'->Calls prog 99 #[t.v,.slice A l.length c,.int .u64 (uv m)] w' λe r=>e= .returned (.bool v)/\Ext w' r):=ah (λm v i w' j=>by
   have K:=WT t T l m A l.length c w' (HT.out.aB j) (HI.out.ext j);rw[show Bg T l m=eU T l m from by rw[Bg,J.out];rfl,i]at K
   exact K)
  have a1:Hid (sJ T l=if nP l=true then 1 else if(resT T l != 0#64)=true then 2 else if qy T l=true then 3 else if mX T l 58 3=true then 4 else if eU T l kV=true then 5 else 6):=rfl;have a2:=ah (ZX T l);have a3:Hid ((resT T l != 0#64)=false->sD T l 58 3=mX T l 58 3):=ah mod_eq;clear M;go_enter func50,ntmps50;go_wp2_with fail;refine HO.out.mono ?_;rintro e w1⟨rfl,F⟩;rw[J.out];have ao:=ah F;clear F;go_wp2;go_loopw[7,8,21] (λs7 s8 N wr=>∃(k:Nat)(a b:Bool),k<=l.length/\N= .int .i64 k/\s7= .bool a/\s8= .bool b/\Hid (nP l=(a&&nP (l.drop k)))/\Hid (eU T l kV=(b&&eU T (l.drop k) kV))/\Ext (tW' w t) wr) (λ_ _ N _=>l.length - (intOf N).toNat);exact⟨0,true,true,Nat.zero_le _,rfl,rfl,rfl,rfl,rfl,ao.out⟩;obtain⟨k,a,b,hk,rfl,rfl,rfl,HA,HK,d⟩:=hrel;have O:=ah d;have rT:∀k:Nat,wr.cell? ⟨w.heap.size,k,none⟩=t.v.cells[k]? :=aQ d;clear d;by_cases s:k<l.length
  .obtain⟨bb,o,ha,h1⟩:=(HI.out.ext O.out).at_ s;subst ha;have HD:=ah (drop_at l k s);generalize l[k]=x at*;obtain⟨v,i⟩:=eY' (mJ T x);have HC:=ah (HS.out x v i wr O.out);have y:Hid (nP l=((a&&decide (x<=127))&&nP (l.drop (k+1)))):=ah (by rw[HA.out,HD.out,nP,List.all_cons,Bool.and_assoc];rfl);have z:Hid (eU T l kV=((b&&eG v kV)&&eU T (l.drop (k+1)) kV)):=ah (by rw[HK.out,HD.out,eU,List.all_cons,i,Bool.and_assoc];rfl);have q1:(uv v != 0)=eG v kV:=(by rw[aF2,<- uv_zero,bne,uv_beq];rfl);have dx:decide (x<128)=decide (x<=127):=by
    by_cases h:x<=127
    .rw[decide_eq_true h,decide_eq_true (by omega)]
    .rw[decide_eq_false h,decide_eq_false (by omega)]
   obtain⟨p,hp⟩:=eY' (decide (x<=127));obtain⟨q,hq⟩:=eY' (eG v kV);rw[hp]at y dx;rw[hq]at z q1;clear HA HK HD i hp hq;cases a<;>cases b<;>cases p
   all_goals
    go_wp2_with(go_at_call 97;refine HC.out.mono ?_;rintro e w2⟨rfl,ar⟩);go_roundw
    case rel=>
     first
      |exact⟨k+1,_,_,by omega,by go_num,rfl,rfl,y,z,O.out⟩
      |exact⟨k+1,_,q,by omega,by go_num,rfl,rfl,y,z,O.out.trans' ar⟩
    case measure=>simp[intOf];omega
  .have y:Hid (nP l=a):=ah (by rw[HA.out,bQ l k (by omega)];simp[nP]);have z:Hid (eU T l kV=b):=ah (by rw[HK.out,bQ l k (by omega)];simp[eU]);clear HA HK;obtain⟨r2,G⟩:=eY' (resT T l != 0#64);have av:=ah (Z.out r2 G wr O.out);have Ti:Hid (r2=false->sD T l 58 3=mX T l 58 3):=ah (λh=>a3.out (G.trans h));have DW:Hid (pR T l=if a=true then 1 else if r2=true then 2 else if qy T l=true then 3 else if mX T l 58 3=true then 4 else if b=true then 5 else 6):=ah (by rw[E.out,a1.out,y.out,z.out,G]);obtain⟨L,hL⟩:=eY' (pR T l);rw[hL]at DW;have B:=ah hL;clear hL G E a1 a3 Z;cases a
   case true=>
    have H:Hid (L=1):=ah DW.out;have I:=g.trans' O.out;go_wp2;go_ret2;exact⟨qU (B.out.trans H.out).symm J.out.symm,I⟩
   go_wp2_with fail;refine av.out.mono ?_;rintro e w3⟨rfl,a6⟩;have iL:=ah (O.out.trans' a6);clear a6 rT;cases r2
   case true=>
    have H:Hid (L=2):=ah DW.out;have I:=g.trans' iL.out;go_wp2;go_ret2;exact⟨qU (B.out.trans H.out).symm J.out.symm,I⟩
   have a7:=ah (Ti.out rfl);obtain⟨R1,P⟩:=eY' (qy T l);obtain⟨Q,S⟩:=eY' (mX T l 58 3);have U:Hid (L=if R1=true then 3 else if Q=true then 4 else if b=true then 5 else 6):=ah (by rw[DW.out,P,S];rfl);have a9:Hid (R1=zf T l 3 61):=ah (by rw[<- P,a2.out]);have ax:Hid (Q=sD T l 58 3):=ah (by rw[<- S,a7.out]);clear P S DW a7 Ti a2;go_wp2;go_loopw[11] (λV wr=>∃(k:Int)(f:Nat),61<=k/\k<=64/\k+f=64/\V= .int .i64 k/\Hid (R1=zf T l f k)/\Ext (tW' w t) wr) (λV _=>(64 - intOf V).toNat);exact⟨61,3,by omega,by omega,by omega,rfl,a9,iL.out⟩;obtain⟨k,f,ay,az,aD,rfl,C,d⟩:=hrel;obtain⟨w4,rfl⟩:=eX' wr;have W:=ah d;have rT:∀k:Nat,w4.cell? ⟨w.heap.size,k,none⟩=t.v.cells[k]? :=aQ d;clear d;by_cases s:k<=63
   .obtain⟨f,rfl⟩:=gS' f;obtain⟨v,i⟩:=eY' (eU T l (aK 3 ||| aK k));have D:Hid (R1=if v=true then true else zf T l f (k+1)):=ah (by rw[C.out,zf,i]);have HC:=ah (a0.out _ v i w4 W.out);have q1:=or8 k;have aL:IntKind.u64.wrap (2 ^ k.toNat)=uv (aK k):=F5 (by omega) s;have k0:0<=k:=(by omega);clear C i;go_wp2_with fail;refine HC.out.mono ?_;rintro e w5⟨rfl,aa⟩;have gB:=ah (W.out.trans' aa);clear aa;cases v
    .have E:Hid (R1=zf T l f (k+1)):=ah (by rw[D.out];rfl);go_wp2;go_roundw;exact⟨k+1,f,by omega,by omega,by omega,by go_num,E,gB.out⟩;simp[intOf];omega
    .have H:Hid (L=3):=ah (by rw[U.out,D.out];rfl);have I:=g.trans' gB.out;go_wp2;go_ret2;exact⟨qU (B.out.trans H.out).symm J.out.symm,I⟩
   .have aM:k=64:=(by omega);subst aM;have X:f=0:=(by omega);subst X;have ab:Hid (L=if Q=true then 4 else if b=true then 5 else 6):=ah (by rw[U.out,C.out];rfl);clear C U a9;go_wp2;go_loopw[12] (λY wr=>∃(k:Int)(f:Nat),3<=k/\k<=61/\k+f=61/\Y= .int .i64 k/\Hid (Q=sD T l f k)/\Ext (tW' w t) wr) (λY _=>(61 - intOf Y).toNat);exact⟨3,58,by omega,by omega,by omega,rfl,ax,W.out⟩;obtain⟨k,f,ay,az,aD,rfl,C,d⟩:=hrel;obtain⟨w6,rfl⟩:=eX' wr;have jC:=ah d;have Fe:∀k:Nat,w6.cell? ⟨w.heap.size,k,none⟩=t.v.cells[k]? :=aQ d;clear d;by_cases s:k<=60
    .obtain⟨f,rfl⟩:=gS' f;by_cases KP:k=3\/k=4\/k=5
     .have E:Hid (Q=sD T l f (k+1)):=ah (by rw[C.out,sD];rcases KP with rfl|rfl|rfl<;>rfl);clear C;rcases KP with rfl|rfl|rfl
      all_goals
       go_wp2;go_roundw;exact⟨_,f,by omega,by omega,by omega,by go_num,E,jC.out⟩;simp[intOf]
     .have e3:(k != 3)=true:=(by rw[bne_iff_ne];omega);have e4:(k != 4)=true:=(by rw[bne_iff_ne];omega);have e5:(k != 5)=true:=(by rw[bne_iff_ne];omega);obtain⟨v,i⟩:=eY' (eU T l (aK 3 ||| aK k));have D:Hid (Q=if v=true then true else sD T l f (k+1)):=ah (by rw[C.out,sD,e3,e4,e5,i];rfl);have HC:=ah (a0.out _ v i w6 jC.out);have q1:=or8 k;have aL:IntKind.u64.wrap (2 ^ k.toNat)=uv (aK k):=F5 (by omega) (by omega);have k0:0<=k:=(by omega);have bo:k<=64:=(by omega);clear C i KP;go_wp2_with fail;refine HC.out.mono ?_;rintro e w7⟨rfl,ac⟩;have nV:=ah (jC.out.trans' ac);clear ac;cases v
      .have E:Hid (Q=sD T l f (k+1)):=ah (by rw[D.out];rfl);go_wp2;go_roundw;exact⟨k+1,f,by omega,by omega,by omega,by go_num,E,nV.out⟩;simp[intOf];omega
      .have H:Hid (L=4):=ah (by rw[ab.out,D.out];rfl);have I:=g.trans' nV.out;go_wp2;go_ret2;exact⟨qU (B.out.trans H.out).symm J.out.symm,I⟩
    .have KZ:k=61:=(by omega);subst KZ;have X:f=0:=(by omega);subst X;have H:Hid (L=if b=true then 5 else 6):=ah (by rw[ab.out,C.out];rfl);have I:=g.trans' jC.out;clear C;cases b
     all_goals
      have aZ:=ah H.out;go_wp2;go_ret2;exact⟨qU ((B.out.trans aZ.out).trans rfl).symm J.out.symm,I⟩
 .have E:Hid (pR T l=0):=ah (by rw[pR,if_neg M]);have d1:(aX T l != 0)=true:=bN' M;clear M;generalize aX T l=ee at*;go_enter func50,ntmps50;go_wp2_with fail;refine HO.out.mono ?_;rintro e w1⟨rfl,F⟩;go_wp2;go_ret2;exact⟨qU E.out.symm rfl,g.trans' F⟩
def gy(j bias:Int):Int:=min (max (36*(j+1) - bias) 1) 26
theorem AA(j a:Int):1<=gy j a/\gy j a<=26:=by unfold gy;omega
def iP(bias:Int):Nat->Int->Int->List Int
 |0,_,_=>[]
 |f+1,j,v=>if v<gy j bias then[v]else(gy j bias+(v - gy j bias) % (36 - gy j bias))::iP bias f (j+1) ((v - gy j bias) / (36 - gy j bias))
def qJ:Int:=2147483648
def jl(bias:Int):List (Option Int)->Int->Int->Int->Option (Int × List (Option Int))
 |[],_,_,_=>none
 |none::_,_,_,_=>none
 |some d::r,j,v,w=>if d<gy j bias then some (min (v+d*w) qJ,r)else jl bias r (j+1) (min (v+d*w) qJ) (min (w*(36 - gy j bias)) qJ)
theorem QF{a:Int}:∀(f:Nat)(j v:Int),0<=v->∀d∈iP a f j v,0<=d/\d<36
 |0,_,_,_,d,c=>by cases c
 |f+1,j,v,h,d,c=>by
  have ht:=AA j a;unfold iP at c;split at c
  .simp only[List.mem_singleton]at c;omega
  .rcases List.mem_cons.1 c with rfl|c
   .have g:=Int.emod_nonneg (v - gy j a) (b:=36 - gy j a) (by omega);have i:=Int.emod_lt_of_pos (v - gy j a) (b:=36 - gy j a) (by omega);omega
   .exact QF f (j+1) _ (Int.ediv_nonneg (by omega) (by omega)) d c
theorem aDy{c:Int}:∀(f:Nat)(j v a w:Int)(r:List (Option Int)),0<=v->0<=a->0<w->v<2 ^ f->a+v*w<qJ->jl c ((iP c (f+1) j v).map some++r) j a w=some (a+v*w,r):=by
 intro f
 induction f with
 |zero=>
  intro j v a w r h n g o p;have ht:=AA j c;have i:v=0:=by have:(2:Int) ^ 0=1:=rfl;omega
  subst i;unfold iP;rw[if_pos (by omega)];show jl c (some 0::r) j a w=_
  unfold jl;rw[if_pos (by omega),Int.min_eq_left (by omega)]
 |succ f ih=>
  intro j v a w r h n g o p;have ht:=AA j c;unfold iP;split
  .rename_i d;show jl c (some v::r) j a w=_
   unfold jl;rw[if_pos d,Int.min_eq_left (by omega)]
  .rename_i d;generalize s:gy j c=t at*;have E:=Int.emod_nonneg (v - t) (b:=36 - t) (by omega);have x:=Int.emod_lt_of_pos (v - t) (b:=36 - t) (by omega);have k:0<=(v - t) / (36 - t):=Int.ediv_nonneg (by omega) (by omega);have y:(36 - t)*((v - t) / (36 - t))+(v - t) % (36 - t)=v - t:=Int.mul_ediv_add_emod (v - t) (36 - t);generalize F:(v - t) / (36 - t)=q at*;generalize G:(v - t) % (36 - t)=m at*;show jl c (some (t+m)::((iP c (f+1) (j+1) q).map some++r)) j a w=_
   unfold jl;rw[s,if_neg (by omega)];have i:v=t+m+(36 - t)*q:=(by omega);have e:a+v*w=(a+(t+m)*w)+q*(w*(36 - t)):=by
    rw[i,Int.add_mul,Int.mul_comm (36 - t) q,Int.mul_assoc,Int.mul_comm (36 - t) w];omega
   have z:0<=q*(w*(36 - t)):=Int.mul_nonneg k (Int.mul_nonneg (by omega) (by omega));have A:0<=(t+m)*w:=Int.mul_nonneg (by omega) (by omega);rw[Int.min_eq_left (by omega)];have B:2*q<=v:=by
    have:q*2<=q*(36 - t):=Int.mul_le_mul_of_nonneg_left (by omega) k;rw[Int.mul_comm (36 - t) q]at i;omega
   have C:(2:Int) ^ (f+1)=2 ^ f*2:=Int.pow_succ 2 f;by_cases l:q=0
   .subst l;rw[ih (j+1) 0 _ _ r (by omega) (by omega) (by have:0<w*(36 - t):=Int.mul_pos g (by omega);unfold qJ;omega) (by omega) (by omega)];rw[e];simp
   .have D:w*(36 - t)<=q*(w*(36 - t)):=by
     have:=Int.mul_le_mul_of_nonneg_right (show(1:Int)<=q by omega) (Int.mul_nonneg (Int.le_of_lt g) (show(0:Int)<=36 - t by omega));omega
    rw[Int.min_eq_left (by omega),ih (j+1) q _ _ r k (by omega) (Int.mul_pos g (by omega)) (by omega) (by omega),e]
def adG:Nat->Int->Int->Int
 |0,k,_=>k
 |f+1,k,d=>if d<=455 then k+36*d / (d+38)else adG f (k+36) (d / 35)
def nJ(delta pts:Int)(first:Bool):Int:=
 if delta<0\/1099511627776<delta\/pts<1\/4096<pts then 0
 else adG 64 0 ((if first then delta / 700 else delta / 2)+(if first then delta / 700 else delta / 2) / pts)
def bU(pl:Nat->Bool)(q:Nat):Nat:=(List.range q).countP pl
theorem yG(a:Nat->Bool)(q:Nat):bU a (q+1)=bU a q+if a q=true then 1 else 0:=by
 unfold bU;rw[List.range_succ,List.countP_append,List.countP_singleton]
theorem uZ(a:Nat->Bool)(q:Nat):bU a q<=q:=by
 have:=List.countP_le_length (p:=a) (l:=List.range q);simpa[bU]using this
theorem AL{f:Nat->Bool}{a:Nat}(d:f a=false):∀q,bU (λk=>f k||k==a) q=bU f q+if a<q then 1 else 0
 |0=>by simp[bU]
 |q+1=>by
  rw[yG,yG,AL d q];by_cases h:q=a
  .subst h;simp[d]
  .have e:(q==a)=false:=by simp[h]
   rw[e,Bool.or_false];by_cases c:a<q
   .have b:a<q+1:=(by omega);rw[if_pos c,if_pos b];omega
   .have b:¬a<q+1:=(by omega);rw[if_neg c,if_neg b];omega
def AB(l:List Int)(pl:Nat->Bool)(a:Nat):Prop:=
 ∃h:a<l.length,pl a=false/\∀k(hk:k<l.length),pl k=false->l[a]<=l[k]/\(l[k]=l[a]->a<=k)
theorem AB.eq{l:List Int}{c:Nat->Bool}{a b:Nat}(x:AB l c a)(y:AB l c b):a=b:=by
 obtain⟨d,f,g⟩:=x;obtain⟨h,i,j⟩:=y;have k:=g b h i;have m:=j a d f;have e:l[a]=l[b]:=by omega
 have n:=k.2 e.symm;have o:=m.2 e;omega
inductive nX(l:List Int):(Nat->Bool)->Int->Int->Int->Bool->List Int->Prop
 |done {pl n i b f} (h:∀k,k<l.length->pl k=true):nX l pl n i b f []
 |step {pl n i b f a v ds} (h:a<l.length) (hl:AB l pl a) (hv:v=(l[a] - n)*(bU pl l.length+1)+bU pl a - i)
  (hr:nX l (λk=>pl k||k==a) l[a] (bU pl a+1) (nJ v (bU pl l.length+1) f) false ds):nX l pl n i b f (iP b 64 0 v++ds)
theorem nX.det{l:List Int}{g:Nat->Bool}{n i b:Int}{f:Bool}{j d:List Int}(x:nX l g n i b f j)(y:nX l g n i b f d):j=d:=by
 induction x generalizing d with
 |done h=>
  cases y with
  |done _=>rfl
  |step h' hl _ _=>obtain⟨c,a,_⟩:=hl;rw[h _ c]at a;cases a
 |step h hl hv hr ih=>
  cases y with
  |done h'=>obtain⟨c,a,_⟩:=hl;rw[h' _ c]at a;cases a
  |step h' hl' hv' hr'=>
   have e:=hl.eq hl';subst e;subst hv hv';rw[ih hr']
theorem nX.congr{l:List Int}{p q:Nat->Bool}{n i b:Int}{f:Bool}{a:List Int}(x:nX l p n i b f a)(h:p=q):nX l q n i b f a:=h▸x
def plc(l:List Int)(m:Int)(p:Nat)(k:Nat):Bool:=match l[k]? with
 |some c=>decide (c<128)||decide (c<m)||(decide (c=m)&&decide (k<p))
 |none=>false
theorem ql{l:List Int}{k:Nat}(h:k<l.length)(m:Int)(p:Nat):plc l m p k=(decide (l[k]<128)||decide (l[k]<m)||(decide (l[k]=m)&&decide (k<p))):=by
 unfold plc;rw[List.getElem?_eq_getElem h]
theorem zG{l:List Int}{k:Nat}(h:l.length<=k)(m:Int)(p:Nat):plc l m p k=false:=by
 unfold plc;rw[List.getElem?_eq_none h]
theorem Qv{l:List Int}{m:Int}{p:Nat}(h:p<l.length)(b:l[p]≠m):plc l m (p+1)=plc l m p:=by
 funext k;by_cases a:k<l.length
 .rw[ql a,ql a];by_cases e:k=p
  .subst e;have:decide (l[k]=m)=false:=decide_eq_false b;rw[this,Bool.false_and,Bool.false_and]
  .have:decide (k<p+1)=decide (k<p):=by rw[decide_eq_decide];omega
   rw[this]
 .rw[zG (by omega),zG (by omega)]
theorem Qw{l:List Int}{m:Int}{p:Nat}(h:p<l.length)(c:l[p]=m):plc l m (p+1)=λk=>plc l m p k||k==p:=by
 funext k;by_cases b:k<l.length
 .rw[ql b,ql b];by_cases e:k=p
  .subst e;simp[c]
  .have:decide (k<p+1)=decide (k<p):=by rw[decide_eq_decide];omega
   have a:(k==p)=false:=(by simp[e]);rw[this,a,Bool.or_false]
 .have a:(k==p)=false:=by simp;omega
  rw[zG (by omega),zG (by omega),a];rfl
theorem Qs{l:List Int}{m:Int}{p:Nat}(h:p<l.length)(b:l[p]=m)(c:128<=m):AB l (plc l m p) p:=by
 refine⟨h,?_,λk d a=> ?_⟩
 .rw[ql h,b];simp;omega
 .rw[ql d]at a;simp only[Bool.or_eq_false_iff,aA,Bool.and_eq_false_iff]at a;rw[b];exact⟨by omega,λe=>by rcases a.2 with f|f<;>omega⟩
theorem Qu{l:List Int}{m d:Int}(h:m<d)(j:∀c∈l,128<=c->m<c->d<=c):plc l m l.length=plc l d 0:=by
 funext k;by_cases a:k<l.length
 .rw[ql a,ql a];have f:=j l[k] (List.getElem_mem a);rw[Bool.eq_iff_iff];simp only[Bool.or_eq_true,aW,au,Nat.not_lt_zero,and_false,or_false];by_cases g:l[k]<128
  .simp[g]
  .constructor
   .rintro((b|b)|b)<;>omega
   .rintro(b|b)
    .omega
    .by_cases n:l[k]<m
     .omega
     .by_cases i:l[k]=m
      .exact .inr ⟨i,a⟩
      .have:=f (by omega) (by omega);omega
 .rw[zG (by omega),zG (by omega)]
def FwP(l:List Int)(m:Int)(p:Nat)(n i b:Int)(f:Bool)(acc:List Int):Prop:=∀ds,nX l (plc l m p) n i b f ds->nX l (plc l 128 0) 128 0 72 true (acc++ds)
theorem ZH(l:List Int):FwP l 128 0 128 0 72 true []:=λ_ h=>h
theorem QA{l:List Int}{m n i b:Int}{p:Nat}{f:Bool}{a:List Int}(h:FwP l m p n i b f a)(g:p<l.length)(j:l[p]≠m):FwP l m (p+1) n i b f a:=by
 intro d c;rw[Qv g j]at c;exact h d c
theorem aDp{l:List Int}{m d n i b:Int}{f:Bool}{a:List Int}(h:FwP l m l.length n i b f a)(k:m<d)(o:∀c∈l,128<=c->m<c->d<=c):FwP l d 0 n i b f a:=by
 intro j g;rw[<- Qu k o]at g;exact h j g
theorem aDv{l:List Int}{m n i b v:Int}{p:Nat}{f:Bool}{a:List Int}(h:FwP l m p n i b f a)(g:p<l.length)(d:l[p]=m)(c:128<=m)(k:v=(m - n)*(bU (plc l m p) l.length+1)+bU (plc l m p) p - i):
 FwP l m (p+1) m (bU (plc l m p) p+1) (nJ v (bU (plc l m p) l.length+1) f) false (a++iP b 64 0 v):=by
 intro o j;rw[Qw g d]at j;rw[List.append_assoc];exact h _ (.step g (Qs g d c) (by rw[d];exact k) (by rw[d];exact j))
theorem aDo{l:List Int}{m n i b:Int}{p:Nat}{f:Bool}{a:List Int}(h:FwP l m p n i b f a)(c:∀k,k<l.length->plc l m p k=true):nX l (plc l 128 0) 128 0 72 true a:=by
 have:=h [] (.done c);rwa[List.append_nil]at this
theorem Qx{l:List Int}{m:Int}{p:Nat}(a:p<l.length)(c:l[p]≠m)(b:128<=m):
 bU (plc l m (p+1)) l.length=bU (plc l m p) l.length/\bU (plc l m (p+1)) (p+1)=bU (plc l m p) p+if l[p]<m then 1 else 0:=by
 rw[Qv a c];refine⟨rfl,?_⟩;rw[yG,ql a];by_cases h:l[p]<m
 .rw[if_pos h,if_pos (by simp[h])]
 .rw[if_neg h,if_neg (by simp;omega)]
theorem aDn{l:List Int}{m:Int}{p:Nat}(c:p<l.length)(d:l[p]=m)(a:128<=m):
 bU (plc l m (p+1)) l.length=bU (plc l m p) l.length+1/\bU (plc l m (p+1)) (p+1)=bU (plc l m p) p+1:=by
 obtain⟨_,b,_⟩:=Qs c d a;rw[Qw c d,AL b,AL b,if_pos c,if_pos (Nat.lt_succ_self p),yG,b];exact⟨rfl,by simp⟩
def sO(l:List Int)(pl:Nat->Bool)(q:Nat)(a:Int):Prop:=
 (a= -1/\∀k,k<q->pl k=true)\/∃(n:Nat)(h:n<l.length),a=n/\n<q/\pl n=false/\∀k(hk:k<l.length),k<q->pl k=false->l[n]<=l[k]/\(l[k]=l[n]->n<=k)
theorem Qz(l:List Int)(a:Nat->Bool):sO l a 0 (-1):= .inl ⟨rfl,λk b=>by omega⟩
theorem QD{l:List Int}{d:Nat->Bool}{q:Nat}{a:Int}(h:sO l d q a)(i:d q=true):sO l d (q+1) a:=by
 rcases h with⟨b,f⟩|⟨n,j,b,f,m,o⟩
 .refine .inl ⟨b,λk g=> ?_⟩;by_cases e:k=q
  .subst e;exact i
  .exact f k (by omega)
 .refine .inr ⟨n,j,b,by omega,m,λk g p c=> ?_⟩;by_cases e:k=q
  .subst e;rw[i]at c;cases c
  .exact o k g (by omega) c
theorem Qy{l:List Int}{a:Nat->Bool}{q:Nat}(h:sO l a q (-1))(f:q<l.length)(g:a q=false):sO l a (q+1) q:=by
 rcases h with⟨_,c⟩|⟨n,_,i,_⟩
 .refine .inr ⟨q,f,rfl,by omega,g,λk j d b=> ?_⟩;by_cases e:k=q
  .subst e;exact⟨Int.le_refl _,λ_=>Nat.le_refl _⟩
  .rw[c k (by omega)]at b;cases b
 .omega
theorem QC{l:List Int}{a:Nat->Bool}{q n:Nat}(h:sO l a q n)(m:q<l.length)(t:n<l.length)(o:a q=false)(w:l[q]<l[n]):sO l a (q+1) q:=by
 rcases h with⟨b,_⟩|⟨c,d,b,p,r,f⟩
 .omega
 .have e:n=c:=by omega
  subst e;refine .inr ⟨q,m,rfl,by omega,o,λk g i j=> ?_⟩;by_cases e:k=q
  .subst e;exact⟨Int.le_refl _,λ_=>Nat.le_refl _⟩
  .have:=f k g (by omega) j;exact⟨by omega,λs=>by omega⟩
theorem QB{l:List Int}{a:Nat->Bool}{q n:Nat}(h:sO l a q n)(r:q<l.length)(o:n<l.length)(s:¬l[q]<l[n]):sO l a (q+1) n:=by
 rcases h with⟨b,_⟩|⟨c,d,b,p,f,g⟩
 .omega
 .have e:n=c:=by omega
  subst e;refine .inr ⟨n,o,rfl,by omega,f,λk i j m=> ?_⟩;by_cases e:k=q
  .subst e;exact⟨by omega,λ_=>by omega⟩
  .exact g k i (by omega) m
theorem QE{l:List Int}{b:Nat->Bool}{a:Int}(h:sO l b l.length a):(a= -1/\∀k,k<l.length->b k=true)\/∃n:Nat,a=n/\AB l b n:=by
 rcases h with h|⟨n,d,f,_,g,i⟩
 .exact .inl h
 .exact .inr ⟨n,f,d,g,λk c j=>i k c c j⟩
theorem QM{l:List Int}{n m:Int}(h:n<=m)(f:∀c∈l,n<=c->m<=c):plc l n 0=plc l m 0:=by
 funext k;by_cases a:k<l.length
 .rw[ql a,ql a];have b:=f l[k] (List.getElem_mem a);have e:decide (l[k]<n)=decide (l[k]<m):=by
   rw[decide_eq_decide];constructor
   .intro;omega
   .intro g;by_cases d:n<=l[k]
    .have:=b d;omega
    .omega
  rw[e];simp
 .rw[zG (by omega),zG (by omega)]
theorem aGX{l:List Int}{n m g i b:Int}{f:Bool}{a:List Int}(h:FwP l n 0 g i b f a)(k:n<=m)(o:∀c∈l,n<=c->m<=c):FwP l m 0 g i b f a:=by
 intro j d;rw[<- QM k o]at d;exact h j d
theorem Rf{f:Nat->Bool}{q:Nat}(h:bU f q=q):∀k,k<q->f k=true:=by
 have a:(List.range q).countP f=(List.range q).length:=by simpa[bU]using h
 rw[List.countP_eq_length]at a;exact λk b=>a k (List.mem_range.2 b)
theorem QZ{f:Nat->Bool}{q:Nat}(h:bU f q<q):∃k,k<q/\f k=false:=by
 by_cases a:∃k,k<q/\f k=false
 .exact a
 .exfalso;have:bU f q=q:=by
   have b:(List.range q).countP f=(List.range q).length:=List.countP_eq_length.2 (λk c=>by
    cases d:f k
    .exact absurd ⟨k,List.mem_range.1 c,d⟩ a
    .rfl)
   simpa[bU]using b
  omega
def iQ(l:List Int):List Int:=l.filter (λc=>decide (c<128))
theorem JK{l:List Int}{k:Nat}(h:k<l.length):iQ (l.take (k+1))=iQ (l.take k)++if l[k]<128 then[l[k]]else[]:=by
 unfold iQ;rw[List.take_succ_eq_append_getElem h,List.filter_append];by_cases a:l[k]<128<;>simp[a]
theorem JR{l:List Int}:∀k,k<=l.length->bU (plc l 128 0) k=(iQ (l.take k)).length
 |0,_=>by simp[bU,iQ]
 |k+1,h=>by
  rw[yG,JR k (by omega),JK (by omega),ql (by omega),List.length_append];by_cases a:l[k]<128<;>simp[a]
def mnP(n:Int)(l:List Int):Int:=l.foldl (λm c=>if n<=c then min m c else m) 1114112
theorem aGY(n:Int)(l:List Int)(c:Int):mnP n (l++[c])=if n<=c then min (mnP n l) c else mnP n l:=by simp[mnP]
theorem aGS(n:Int):∀l:List Int,mnP n l<=1114112/\(∀c∈l,n<=c->mnP n l<=c)/\(mnP n l=1114112\/(mnP n l∈l/\n<=mnP n l)):=by
 intro l;have f:∀(r:List Int)(a:Int),(r.foldl (λm c=>if n<=c then min m c else m) a<=a)/\(∀c∈r,n<=c->r.foldl (λm c=>if n<=c then min m c else m) a<=c)/\(r.foldl (λm c=>if n<=c then min m c else m) a=a\/(r.foldl (λm c=>if n<=c then min m c else m) a∈r/\n<=r.foldl (λm c=>if n<=c then min m c else m) a)):=by
  intro r
  induction r with
  |nil=>intro a;exact⟨Int.le_refl _,λc d=>(by cases d),.inl rfl⟩
  |cons x r ih=>
   intro a;simp only[List.foldl_cons];by_cases i:n<=x
   .rw[if_pos i];obtain⟨j,g,b⟩:=ih (min a x);refine⟨by omega,λc d h=> ?_,?_⟩
    .rcases List.mem_cons.1 d with rfl|d
     .omega
     .exact g c d h
    .rcases b with b|b
     .by_cases k:a<=x
      .exact .inl (by omega)
      .refine .inr ⟨?_,?_⟩
       .rw[b,Int.min_eq_right (by omega)];exact List.mem_cons_self
       .rw[b];omega
     .exact .inr ⟨List.mem_cons_of_mem _ b.1,b.2⟩
   .rw[if_neg i];obtain⟨j,g,b⟩:=ih a;refine⟨j,λc d h=> ?_,?_⟩
    .rcases List.mem_cons.1 d with rfl|d
     .omega
     .exact g c d h
    .rcases b with b|b
     .exact .inl b
     .exact .inr ⟨List.mem_cons_of_mem _ b.1,b.2⟩
 exact f l 1114112
theorem G9(b:Int):∀(f:Nat)(j v:Int),(iP b f j v).length<=f
 |0,_,_=>by simp[iP]
 |f+1,j,v=>by
  unfold iP;split
  .simp
  .have:=G9 b f (j+1) ((v - gy j b) / (36 - gy j b));simp only[List.length_cons];omega
theorem QU:∀(f:Nat)(k d:Int),0<=k->0<=d->0<=adG f k d/\adG f k d<=k+36*f+36
 |0,k,d,hk,_=>by unfold adG;omega
 |f+1,k,d,hk,hd=>by
  unfold adG;split
  .have a:0<=36*d / (d+38):=Int.ediv_nonneg (by omega) (by omega);have b:36*d / (d+38)<=36:=by
    have:=Int.ediv_mul_le (36*d) (show d+38≠0 by omega);by_cases h:36*d / (d+38)<=36
    .exact h
    .have c:37*(d+38)<=36*d / (d+38)*(d+38):=Int.mul_le_mul_of_nonneg_right (by omega) (by omega);omega
   omega
  .have:=QU f (k+36) (d / 35) (by omega) (by omega);omega
theorem Gg{d p:Int}{f:Bool}(c:0<=d)(g:1<=p):0<=nJ d p f/\nJ d p f<=2400:=by
 unfold nJ;split
 .omega
 .have a:0<=(if f=true then d / 700 else d / 2):=by cases f<;>simp<;>omega
  have b:0<=(if f=true then d / 700 else d / 2) / p:=Int.ediv_nonneg a (by omega);have:=QU 64 0 ((if f=true then d / 700 else d / 2)+(if f=true then d / 700 else d / 2) / p) (by omega) (by omega);omega
theorem Eh{a h:Int}(b:0<=a)(c:a<=1114112)(d:0<=h)(f:h<=256):0<=a*(h+1)/\a*(h+1)<=286326784:=
 ⟨Int.mul_nonneg b (by omega),Int.le_trans (Int.mul_le_mul_of_nonneg_right c (by omega)) (by omega)⟩
noncomputable def xE(l:List Int):List Int:=Classical.epsilon λds=>nX l (plc l 128 0) 128 0 72 true ds
theorem JW{l a:List Int}(h:nX l (plc l 128 0) 128 0 72 true a):xE l=a:=(Classical.epsilon_spec (p:=λa=>nX l (plc l 128 0) 128 0 72 true a) ⟨a,h⟩).det h
def nY(o:List Int)(i:Nat)(c:Int):List Int:=o.take i++c::o.drop i
inductive Dec
 |ok (l:List Int)
 |C9
 |over
def decP:Nat->List (Option Int)->List Int->Int->Int->Int->Bool->Dec
 |0,_,o,_,_,_,_=> .ok o
 |_+1,[],o,_,_,_,_=> .ok o
 |g+1,d::ds,o,n,i,b,f=>match jl b (d::ds) 0 0 1 with
  |none=> .C9
  |some (v,r)=>
   if 2147483647<v\/1114111<n+(v+i) / (o.length+1)then .over
   else if utfLen (n+(v+i) / (o.length+1))=0 then .C9
   else decP g r (nY o ((v+i) % (o.length+1)).toNat (n+(v+i) / (o.length+1))) (n+(v+i) / (o.length+1)) ((v+i) % (o.length+1)+1) (nJ v (o.length+1) f) false
def jF:List Int->Nat->(Nat->Bool)->List Int
 |[],_,_=>[]
 |c::r,k,pl=>if pl k=true then c::jF r (k+1) pl else jF r (k+1) pl
theorem JY{p q:Nat->Bool}:∀(l:List Int)(k:Nat),(∀j,k<=j->j<k+l.length->p j=q j)->jF l k p=jF l k q
 |[],_,_=>rfl
 |c::r,k,h=>by
  have a:=h k (Nat.le_refl _) (by simp);have b:=JY r (k+1) (λj d f=>h j (by omega) (by simp;omega));simp only[jF,a,b]
theorem JZ:∀(l m:List Int)(k:Nat)(p:Nat->Bool),jF (l++m) k p=jF l k p++jF m (k+l.length) p
 |[],_,_,_=>rfl
 |c::r,m,k,p=>by
  have h:=JZ r m (k+1) p;have e:k+1+r.length=k+(c::r).length:=by simp;omega
  rw[e]at h;simp only[List.cons_append,jF,h];split<;>rfl
theorem Rn{p:Nat->Bool}:∀(l:List Int)(k:Nat),(∀j,k<=j->j<k+l.length->p j=true)->jF l k p=l
 |[],_,_=>rfl
 |c::r,k,h=>by
  rw[jF,if_pos (h k (Nat.le_refl _) (by simp)),Rn r (k+1) (λj a b=>h j (by omega) (by simp;omega))]
theorem Ko(l:List Int)(p:Nat->Bool):∀a,a<=l.length->(jF (l.take a) 0 p).length=bU p a
 |0,_=>by simp[jF,bU]
 |a+1,h=>by
  have b:(l.take a).length=a:=by rw[List.length_take];omega
  rw[List.take_succ_eq_append_getElem (by omega:a<l.length),JZ,List.length_append,Ko l p a (by omega),yG,b];simp only[jF,Nat.zero_add];split<;>rfl
theorem aIW{l:List Int}{p:Nat->Bool}{a:Nat}(h:a<l.length)(n:p a=false):jF l 0 (λk=>p k||k==a)=nY (jF l 0 p) (bU p a) l[a]:=by
 have c:(l.take a).length=a:=by rw[List.length_take];omega
 have d:l=l.take a++l[a]::l.drop (a+1):=by rw[<- List.drop_eq_getElem_cons h,List.take_append_drop]
 have b:∀q:Nat->Bool,jF l 0 q=jF (l.take a) 0 q++jF (l[a]::l.drop (a+1)) a q:=by
  intro q;have:=JZ (l.take a) (l[a]::l.drop (a+1)) 0 q;rw[<- d,c,Nat.zero_add]at this;exact this
 have f:jF (l.take a) 0 (λk=>p k||k==a)=jF (l.take a) 0 p:=JY _ _ (λj _ g=>by
  have:(j==a)=false:=by simp;omega
  simp only[this,Bool.or_false])
 have i:jF (l.drop (a+1)) (a+1) (λk=>p k||k==a)=jF (l.drop (a+1)) (a+1) p:=JY _ _ (λj g _=>by
  have:(j==a)=false:=by simp;omega
  simp only[this,Bool.or_false])
 have m:=Ko l p a (by omega);rw[b,b p,f];simp only[jF,n,beq_self_eq_true,Bool.or_true,if_true,i,nY];rw[<- m];simp
theorem Rt{c:Int}(h:aY c=true):utfLen c≠0:=by
 intro e;rw[utfLen_eq_zero]at e;rw[h]at e;cases e
theorem aHz{c:Int}(h:aY c=true):0<=c/\c<=1114111:=by
 simp only[aY,aW,au]at h;exact h.1
theorem AO(p:Nat->Bool){a:Nat}:∀{q:Nat},a<=q->bU p a<=bU p q
 |0,h=>by
  have:a=0:=by omega
  subst this;exact Nat.le_refl _
 |q+1,h=>by
  rw[yG];by_cases e:a=q+1
  .subst e;rw[yG];exact Nat.le_refl _
  .have:=AO p (show a<=q by omega);omega
theorem Rq(b j v:Int)(f:Nat):iP b (f+1) j v≠[]:=by unfold iP;split<;>simp
theorem aIY{l:List Int}(hs:∀c∈l,aY c=true)(hl:l.length<=256){m:Nat->Bool}{n i b:Int}{f:Bool}{p:List Int}(x:nX l m n i b f p):
 ∀g:Nat,p.length<=g->0<=n->0<=i->i<=bU m l.length->(∀k(hk:k<l.length),m k=false->n<=l[k]/\(l[k]=n->i<=bU m k))->decP g (p.map some) (jF l 0 m) n i b f= .ok l:=by
 induction x with
 |done h=>
  intro g _ _ _ _ _;rw[Rn l 0 (λj _ hj=>h j (by omega))];cases g<;>rfl
 | @step m n i b f a v p h hll hv hr ih=>
  intro g M hn hi N t;obtain⟨E,o,w⟩:=hll;have O:=t a E o;have z:=hs _ (List.getElem_mem E);have hb:=aHz z;have A:((jF l 0 m).length:Int)=bU m l.length:=by
   have:=Ko l m l.length (Nat.le_refl _);rw[List.take_of_length_le (Nat.le_refl _)]at this;rw[this]
  have P:=uZ m l.length;have Q:bU m a<=bU m l.length:=AO m (by omega);have R:bU m a<bU m l.length+1:=by omega
  generalize S:bU m l.length=h at*;generalize hJ:bU m a=j at*;generalize hD:l[a] - n=d at*;have T:0<=d:=by omega
  have F:d<=1114111:=by omega
  have B:v+i=d*((h:Int)+1)+j:=by omega
  have I:d*((h:Int)+1)<=1114111*257:=Int.le_trans (Int.mul_le_mul_of_nonneg_right F (by omega)) (Int.mul_le_mul_of_nonneg_left (by omega) (by omega));have G:0<=v:=by
   by_cases C:d=0
   .have:=O.2 (by omega);subst C;omega
   .have:1*((h:Int)+1)<=d*((h:Int)+1):=Int.mul_le_mul_of_nonneg_right (by omega) (by omega);omega
  have U:(v+i) / ((h:Int)+1)=d:=by rw[B,Int.add_comm,Int.add_mul_ediv_right _ _ (by omega),Int.ediv_eq_zero_of_lt (by omega) (by omega)];omega
  have V:(v+i) % ((h:Int)+1)=j:=by rw[B,Int.add_comm,Int.add_mul_emod_self_right,Int.emod_eq_of_lt (by omega) (by omega)]
  have q:jl b (((iP b 64 0 v)++p).map some) 0 0 1=some (v,p.map some):=by
   rw[List.map_append,aDy 63 0 v 0 1 (p.map some) G (by omega) (by omega) (by omega) (by unfold qJ;omega)];simp
  obtain⟨J,K,W⟩:∃J K,(iP b 64 0 v++p).map some=J::K:=by
   cases X:(iP b 64 0 v++p).map some with
   |nil=>exact absurd (List.append_eq_nil_iff.1 (List.map_eq_nil_iff.1 X)).1 (Rq b 0 v 63)
   |cons y ys=>exact⟨y,ys,rfl⟩
  have Y:1<=(iP b 64 0 v).length:=by
   rcases Nat.eq_zero_or_pos (iP b 64 0 v).length with C|C
   .exact absurd (List.eq_nil_of_length_eq_zero C) (Rq b 0 v 63)
   .exact C
  rw[List.length_append]at M;obtain⟨H,rfl⟩:=gS' g;rw[W]at q |-;have r:n+d=l[a]:=by omega
  simp only[decP,q,A,U,V,r];rw[if_neg (by omega),if_neg (Rt z)];have D:nY (jF l 0 m) (j:Int).toNat l[a]=jF l 0 (λk=>m k||k==a):=by rw[aIW E o,hJ];rfl
  rw[D];refine ih H (by omega) (by omega) (by omega) ?_ ?_
  .rw[AL o,if_pos E,S];omega
  .intro k hk s;simp only[Bool.or_eq_false_iff,aP]at s;have L:=w k hk s.1;refine⟨L.1,λe=> ?_⟩;have h4:=L.2 e;have Z:a<k:=(by have:=s.2;omega);rw[AL o,if_pos Z];have h6:=AO m (show a<=k by omega);omega
def rnI:Go.Shelf.Ren:=⟨λx=>if x=21 then 54 else if x=27 then 103 else if x=28 then 104 else if x=35 then 176 else 247,
 λx=>if x=22 then 22 else if x=3 then 3 else if x=4 then 4 else 0,λx=>x⟩
theorem infoSl:(prog.info? 22).map (λi=>(i.zero,i.size,i.bytes))=some (some (.slice none 0 0),1,24):=by kernel_rfl
theorem Ej:Lays2.n21 prog rnI where
 mixed:=by kernel_rfl
 f21:=func54.trans (by kernel_rfl)
 f27:=func103.trans (by kernel_rfl)
 f28:=func104.trans (by kernel_rfl)
 f35:=func176.trans (by kernel_rfl)
 f39:=func247.trans (by kernel_rfl)
 t0:=underlying0
 a0:=Tryz.isAgg0
 z0:=Tryz.sizeOf0
 v0:=Tryz.zeroValue0
 t3:=underlying3
 a3:=Tryz.isAgg3
 z3:=Tryz.sizeOf3
 v3:=Tryz.zeroValue3
 t4:=underlying4
 a4:=Tryz.isAgg4
 z4:=Tryz.sizeOf4
 v4:=Tryz.zeroValue4
 t22:=underlying22
 a22:=λw=>by
  show(isAgg 22).run prog w=_
  simp[isAgg,run_underlying underlying22]
 z22:=λw=>by
  obtain⟨i,a,_,b,_⟩:=info_parts infoSl;show(Go.sizeOf 22).run prog w=_
  simp[Go.sizeOf,typeInfo,a,b]
 v22:=Tryz.zeroValue22
 i3:=by kernel_rfl
theorem wH{g:Nat}{e:TypeId}{a:Nat × Nat}:∀(vs:List Value)(o:Nat)(cur:Array Value)(w:World),w.heap[g]? =some (.cells cur e a)->o+vs.length<=cur.size->
 ∃cur',(w.setCells g o vs).heap[g]? =some (.cells cur' e a)/\cur'.toList=cur.toList.take o++vs++cur.toList.drop (o+vs.length)
 |[],o,cur,w,h,_=>⟨cur,h,by simp⟩
 |v::r,o,cur,w,h,hl=>by
  simp only[List.length_cons]at hl;have b:(w.setCell ⟨g,o,none⟩ v).heap[g]? =some (.cells (cur.setIfInBounds o v) e a):=by
   rw[setCell_eq_setRow w g o cur e a v h];exact setRow_heap w g cur _ e _ h
  obtain⟨cur',c,d⟩:=wH r (o+1) _ _ b (by rw[Array.size_setIfInBounds];omega);refine⟨cur',c,?_⟩;have:=list_seg_step cur.toList o v r (by simp;omega);rw[d,Array.toList_setIfInBounds];simpa[Nat.add_assoc,Nat.add_comm 1]using this
theorem rG{a:World}{g:Nat}(b:a.heap.size<=g):∀(vs:List Value)(o:Nat)(w:World),Ext a w->Ext a (w.setCells g o vs)
 |[],_,_,h=>h
 |v::r,o,_,h=>rG b r (o+1) _ (h.kD b v)
theorem Em{w:World}{b g n c:Nat}{e:TypeId}{a:Array Value}{d:List Value}(f:b<=g)(h:w.heap[g]? =some (.cells a e (0,0)))(i:n<=c)(j:c<=maxLen)(k:a.size=c)(ht:a.toList.take n=d):Own w b e 1 (some ⟨g,0,none⟩) n c d:=by
 refine⟨?_,.inr ⟨g,c,a,rfl,f,h,i,j,by omega,by rw[Nat.mul_one];exact ht⟩⟩;rw[<- ht,List.length_take,Array.length_toList];omega
theorem aJ4{O R:List Value}{x:Value}{i:Nat}(c:i<O.length)(l:R≠[]):
 ((((O++R).take (i+1)++O.drop i++(O++R).drop (O.length+1)).take i++[x]++((O++R).take (i+1)++O.drop i++(O++R).drop (O.length+1)).drop (i+1))).take (O.length+1)=O.take i++x::O.drop i:=by
 obtain⟨a,b,rfl,d⟩:∃a b,O=a++b/\a.length=i:=⟨O.take i,O.drop i,(List.take_append_drop i O).symm,by rw[List.length_take];omega⟩;subst d
 match b,R,l,c with
 |[],_,_,c=>simp at c
 |y::b,r::R,_,_=>
  have f:(a++y::b++r::R).take (a.length+1)=a++[y]:=by
   rw[show a++y::b++r::R=(a++[y])++(b++r::R)by simp];exact List.take_left' (by simp)
  have g:(a++y::b++r::R).drop ((a++y::b).length+1)=R:=by
   rw[show a++y::b++r::R=(a++y::b++[r])++R by simp];exact List.drop_left' (by simp;omega)
  have h:(a++y::b).drop a.length=y::b:=List.drop_left' rfl;rw[f,g,h,List.take_left' rfl];have j:(a++[y]++y::b++R).take a.length=a:=by
   rw[show a++[y]++y::b++R=a++([y]++y::b++R)by simp];exact List.take_left' rfl
  have k:(a++[y]++y::b++R).drop (a.length+1)=y::b++R:=by
   rw[show a++[y]++y::b++R=(a++[y])++(y::b++R)by simp];exact List.drop_left' (by simp)
  rw[j,k,show a++[x]++(y::b++R)=(a++x::y::b)++R by simp];exact List.take_left' (by simp;omega)
def Ry(w0:World)(l:List Int)(e:Ending)(w':World):Prop:=∃A n c,e= .returned (.slice A n c)/\n=l.length/\aN w' w0.heap.size A n c l/\Ext w0 w'
theorem zH(o:List Int)(i:Nat)(x:Int)(a:i<=o.length):(nY o i x).length=o.length+1:=by
 unfold nY;simp;omega
theorem CG{M:List Nat}{g:Nat}(a:g∈M):∀(vs:List Value)(o:Nat)(w:World),Kp M w (w.setCells g o vs)
 |[],_,w=>Kp.refl M w
 |v::r,o,w=>(Kp.setCell M w ⟨g,o,none⟩ v a).trans (CG a r (o+1) _)
theorem VA(w0 w:World)(A:Option Addr)(c:Nat)(o:List Int)(x:Int)(i:Nat)(M:aN w w0.heap.size A o.length c o)(hx:Ext w0 w)(hi:i<=o.length)(hb:o.length<=1099511600000):
 Calls prog 54 #[.slice A o.length c,.int .i64 i,.slice (some ⟨w.heap.size,0,none⟩) 1 1] (w.alloc (.cells #[.int .i64 x] 3)) λe w'=>Ry w0 (nY o i x) e w'/\Kp (aG A).toList (w.alloc (.cells #[.int .i64 x] 3)) w':=by
 have N:Ext w (w.alloc (.cells #[.int .i64 x] 3)):=(Ext.refl _).aC _;have Q:=Own.ext M N;have m:=hx.trans' N;have X:=Own.lt M;have y:∀(j:Nat)(v:Value),[Value.int .i64 x][j]? =some v->(w.alloc (.cells #[.int .i64 x] 3)).cell? ⟨w.heap.size,0+j,none⟩=some v:=by
  intro j v s;rw[Nat.zero_add,World.cell?_alloc_new]
  match j,s with
  |0,s=>simpa using s
  |j+1,s=>simp at s
 have z:∀v∈[Value.int .i64 x],v.oneCell'=true:=by intro v Y;simp at Y;subst Y;rfl
 have Z:∀v∈o.map (Value.int .i64),v.oneCell'=true:=by intro v Y;rw[List.mem_map]at Y;obtain⟨_,_,rfl⟩:=Y;rfl
 have ap:=N.b.size;generalize hW:w.alloc (.cells #[.int .i64 x] 3)=W at*;have a9:W.shape? w.heap.size=some (3,1):=by rw[<- hW];simp[World.shape?,World.alloc,-World.alloc_eq]
 have a0:∀k,W.frozen? ⟨w.heap.size,k,none⟩=false:=by rw[<- hW];intro k;simp[World.frozen?,World.alloc,-World.alloc_eq]
 rcases Q.2 with⟨h',h0⟩|⟨g,ar,d,h',av,hg,a2,r,ab,S⟩
 .injection h' with e1 e2 e3;subst e1 e3;have ae:i=0:=by omega
  subst ae;have ho:o=[]:=List.eq_nil_of_length_eq_zero h0;subst ho;refine(Any2.slices_Insert_int_end_grow (P:=prog) Ej none 0 0 w.heap.size 0 1 1 [] [.int .i64 x] W (by omega) (by omega) (by omega) (by omega) rfl rfl (λ_=>rfl) (λa h=>by cases h) y z).mono ?_;rintro e w'⟨rfl,rfl⟩;have B:=grownCap_ge W 1 0 3;have D:=grownCap_le_maxLen W 1 0 3 (by simp[maxLen]);have E:rnI.t 3=3:=rfl;rw[E];generalize grownCap W (0+1) 0 3=G at*;refine⟨⟨_,_,_,rfl,rfl,?_,(m.dL).aC _⟩,Kp.dn (((Ext.refl _).dL).aC _)⟩;refine Em (by have:=m.b.size;exact this) (heap_alloc_new W.drew _) B D ?_ ?_
  .simp[Builtin.zeroCells,Value.cells];omega
  .simp[nY,Builtin.zeroCells,Value.cells]
 .injection h' with e1 e2 e3;subst e1 e3;rw[Nat.mul_one]at ab S;have f:(o.map (Value.int .i64)).length=o.length:=List.length_map _;have q:d.toList=o.map (Value.int .i64)++d.toList.drop o.length:=by rw[<- S,List.take_append_drop]
  have p:∀j,W.cell? ⟨g,0+j,none⟩=d[j]? :=λj=>by rw[Nat.zero_add];exact cell_of_row W g j d _ (0,0) hg
  have F:∀(j:Nat)(v:Value),(o.map (Value.int .i64))[j]? =some v->W.cell? ⟨g,0+j,none⟩=some v:=by
   intro j v s;rw[p,<- Array.getElem?_toList,q,List.getElem?_append_left (List.getElem?_eq_some_iff.1 s).1];exact s
  have a3:∀j,W.frozen? ⟨g,0+j,none⟩=false:=λj=>by rw[Nat.zero_add];exact frozen_of_row W g j d _ hg
  have ay:g<w.heap.size:=(X g rfl).2;have H:w0.heap.size<=g:=(X g rfl).1;have af:W.shape? g=some (3,d.size):=by simp[World.shape?,hg]
  by_cases l:o.length+1<=c
  .by_cases K:i<o.length
   .refine(Any2.slices_Insert_int_shift (P:=prog) Ej g 0 o.length c i w.heap.size 0 1 1 (o.map (Value.int .i64)) [.int .i64 x] W K (by omega) l (by simp only[maxLen]at r;exact r) (by omega) f rfl F
     (λj s=>by rw[p,Array.getElem?_eq_getElem (by omega)];rfl) (λj _=>a3 j) y Z z 3 3 1 d.size a9 af (by omega) (a0 0) (a0 1)).mono ?_
    rintro e w'⟨rfl,rfl⟩;obtain⟨L,I,n⟩:=wH (g:=g) ((o.map (Value.int .i64)).drop i) (0+(i+1)) d W.drew hg (by rw[List.length_drop,f];omega);have a4:L.size=d.size:=by
     have:=congrArg List.length n;simp only[Array.length_toList,List.length_append,List.length_take,List.length_drop,f]at this;omega
    obtain⟨zM,T,J⟩:=wH (g:=g) [.int .i64 x] (0+i) L _ I (by simp;omega);have a5:zM.size=d.size:=by
     have:=congrArg List.length J;simp only[Array.length_toList,List.length_append,List.length_take,List.length_drop,List.length_singleton]at this;omega
    refine⟨⟨_,_,_,rfl,(zH o i x hi).symm,?_,rG H _ _ _ (rG H _ _ _ m.dL)⟩,((Kp.dn (Ext.refl _).dL).trans (CG (by simp[aG]) _ _ _)).trans (CG (by simp[aG]) _ _ _)⟩;refine Em H T l r (by omega) ?_;rw[J,n];simp only[Nat.zero_add];have hq:i+1+((o.map (Value.int .i64)).drop i).length=(o.map (Value.int .i64)).length+1:=(by rw[List.length_drop,f];omega);rw[hq,List.length_singleton];rw[q];have:=aJ4 (O:=o.map (Value.int .i64)) (R:=d.toList.drop o.length) (x:= .int .i64 x) (i:=i) (by rw[f];exact K) (by intro h;have:=congrArg List.length h;simp at this;omega);rw[f]at this;rw[f,this];simp[nY,List.map_take,List.map_drop]
   .have U:i=o.length:=(by omega);subst U
    refine(Any2.slices_Insert_int_end_room (P:=prog) Ej g 0 o.length c w.heap.size 0 1 1 [.int .i64 x] W (by omega) l (by simp only[maxLen]at r;exact r) rfl
     (λj s=>by rw[Nat.add_assoc,p,Array.getElem?_eq_getElem (by omega)];rfl) (λj _=>by rw[Nat.add_assoc];exact a3 _) y z).mono ?_
    rintro e w'⟨rfl,rfl⟩;obtain⟨L,I,n⟩:=wH (g:=g) [.int .i64 x] (0+o.length) d W hg (by simp;omega);have a4:L.size=d.size:=by
     have:=congrArg List.length n;simp only[Array.length_toList,List.length_append,List.length_take,List.length_drop,List.length_singleton]at this;omega
    refine⟨⟨_,_,_,rfl,(zH o _ x hi).symm,?_,rG H _ _ _ m⟩,CG (by simp[aG]) _ _ _⟩;refine Em H I l r (by omega) ?_;rw[n,Nat.zero_add,S,List.take_left' (by simp)];simp[nY]
  .by_cases K:i<o.length
   .refine(Any2.slices_Insert_int_grow (P:=prog) Ej g 0 o.length c i w.heap.size 0 1 1 (o.map (Value.int .i64)) [.int .i64 x] W K (by omega) a2 (by omega) (by omega) f rfl F y Z z).mono ?_;rintro e w'⟨rfl,rfl⟩;have B:=grownCap_ge W (o.length+1) c 3;have D:=grownCap_le_maxLen W (o.length+1) c 3 (by simp only[maxLen];omega);have E:rnI.t 3=3:=rfl;rw[E];generalize grownCap W (o.length+1) c 3=G at*;generalize hC:((o.map (Value.int .i64)).take i).toArray++Builtin.zeroCells (Value.int .i64 0).cells (o.length+1 - i)++Builtin.zeroCells (Value.int .i64 0).cells (G - (o.length+1))=C;have aD:C.size=G:=(by rw[<- hC];simp[Builtin.zeroCells,Value.cells];omega);have ai:C.toList.take i=(o.map (Value.int .i64)).take i:=by
     rw[<- hC];simp only[Array.toList_append,List.append_assoc];exact List.take_left' (by simp;omega)
    have a6:=heap_alloc_new W (.cells C 3);obtain⟨L,I,n⟩:=wH (g:=W.heap.size) [.int .i64 x] i C (W.alloc (.cells C 3)).drew a6 (by simp;omega);have a4:L.size=G:=by
     have:=congrArg List.length n;simp only[Array.length_toList,List.length_append,List.length_take,List.length_drop,List.length_singleton]at this;omega
    obtain⟨zM,T,J⟩:=wH (g:=W.heap.size) ((o.map (Value.int .i64)).drop i) (i+1) L ((W.alloc (.cells C 3)).drew.setCells W.heap.size i [.int .i64 x]).drew I (by rw[List.length_drop,f];omega);have a5:zM.size=G:=by
     have:=congrArg List.length J;simp only[Array.length_toList,List.length_append,List.length_take,List.length_drop,f]at this;omega
    have V:w0.heap.size<=W.heap.size:=m.b.size;refine⟨⟨_,_,_,rfl,(zH o i x hi).symm,?_,rG V _ _ _ (rG V _ _ _ ((m.aC _).dL)).dL⟩,Kp.dn (rG (Nat.le_refl _) _ _ _ (rG (Nat.le_refl _) _ _ _ (((Ext.refl _).aC _).dL)).dL)⟩;refine Em V T B D a5 ?_;have al:L.toList.take (i+1)=(o.map (Value.int .i64)).take i++[.int .i64 x]:=by
     rw[n,ai,List.take_left' (by simp;omega)]
    rw[J,al];rw[List.take_left' (by simp;omega)];simp[nY,List.map_take,List.map_drop]
   .have U:i=o.length:=(by omega);subst U
    refine(Any2.slices_Insert_int_end_grow (P:=prog) Ej (some ⟨g,0,none⟩) o.length c w.heap.size 0 1 1 (o.map (Value.int .i64)) [.int .i64 x] W (by omega) a2 (by omega) (by omega) f rfl (λh=>by cases h)
     (λa ha j v s=>by injection ha with ha;subst ha;rw[Addr.add_lit];exact F j v s) y z).mono ?_
    rintro e w'⟨rfl,rfl⟩;have B:=grownCap_ge W (o.length+1) c 3;have D:=grownCap_le_maxLen W (o.length+1) c 3 (by simp only[maxLen];omega);have E:rnI.t 3=3:=rfl;rw[E];generalize grownCap W (o.length+1) c 3=G at*;refine⟨⟨_,_,_,rfl,(zH o _ x hi).symm,?_,(m.dL).aC _⟩,Kp.dn (((Ext.refl _).dL).aC _)⟩;refine Em (by have:=m.b.size;exact this) (heap_alloc_new W.drew _) B D ?_ ?_
    .simp[Builtin.zeroCells,Value.cells];omega
    .simp only[Array.toList_append];rw[List.take_left' (by simp)];simp[nY]
theorem aJ6(b w:World)(A:Option Addr)(c:Nat)(o:List Int)(x:Int)(i:Nat)(a:aN w b.heap.size A o.length c o)(d:Ext b w)(f:i<=o.length)(g:o.length<=1099511600000):
 Calls prog 54 #[.slice A o.length c,.int .i64 i,.slice (some ⟨w.heap.size,0,none⟩) 1 1] (w.alloc (.cells #[.int .i64 x] 3)) (Ry b (nY o i x)):=
 (VA b w A c o x i a d f g).mono λ_ _ h=>h.1
def oL(l:List Int):Bool:=iM l 0 != 45&&iM l ((l.length:Int) - 1) != 45&& !(iM l 2==45&&iM l 3==45)
theorem EX{l:List Int}{i:Nat}(h:i<l.length):iM l (i:Int)=l[i]:=by rw[iM,if_neg (by omega),if_neg (by omega),Int.toNat_natCast,getD_lt l i 0 h]
theorem D5{l:List Int}{i:Int}(h:i<0\/(l.length:Int)<=i):iM l i= -1:=by
 unfold iM;by_cases a:i<0
 .rw[if_pos a]
 .rw[if_neg a,if_pos (by omega)]
theorem WC(l:List Int)(A:Option Addr)(n c:Nat)(w:World)(h:aF w ⟨A,n,c⟩ l):
 Calls prog 123 #[.slice A n c] w λe w'=>e= .returned (.bool (oL l))/\Ext w w':=by
 have r:=ah h;obtain⟨s,a,f⟩:=h.len;have t:(l.length:Int)<=9223372036854775807:=by omega
 have y:(0:Int)<=(l.length:Int):=bI _;subst s;clear h a f;have b:Hid (∀(i:Int)(w':World),Ext w w'->Calls prog 193 #[.slice A l.length c,.int .i64 i] w' λe g=>e= .returned (.int .i64 (iM l i))/\w'=g):=ah (λi w' h=>Jm l A _ c i w' (r.out.ext h));have j:=ah (b.out 0);have k:=ah (b.out ((l.length:Int) - 1));have m:=ah (b.out 2);have o:=ah (b.out 3);have d:Hid (oL l=(iM l 0 != 45&&iM l ((l.length:Int) - 1) != 45&& !(iM l 2==45&&iM l 3==45))):=rfl;generalize iM l 0=y0 at j d;generalize iM l ((l.length:Int) - 1)=y1 at k d;generalize iM l 2=y2 at m d;generalize iM l 3=y3 at o d;clear b;cases z:(y0 != 45)<;>cases B:(y1 != 45)<;>cases C:(y2==45)<;>cases D:(y3==45)
 all_goals
  have p:=ah d.out;rw[z,B,C,D]at p;go_enter func123,ntmps123;go_wp2_with fail
  first
   |(refine rX' ?_
     repeat(go_big_quiet_step(first
      |(go_at_call 193;with_reducible exact iI (j.out _ (ak.h _)))
      |(go_at_call 193;with_reducible exact iI (k.out _ (ak.h _)))
      |(go_at_call 193;with_reducible exact iI (m.out _ (ak.h _)))
      |(go_at_call 193;with_reducible exact iI (o.out _ (ak.h _)))))
     refine wpQuiet_nil ?_;rintro _⟨x,rfl⟩;have q:=x.h;go_wp2;go_ret
     exact⟨aO p.out.symm,q⟩)
   |(have q:=Ext.refl w
     repeat(first
      |(with_reducible refine(j.out _ (Ext.refl _)).mono ?_;rintro e w'⟨rfl,rfl⟩;go_wp2_with fail)
      |(with_reducible refine(k.out _ (Ext.refl _)).mono ?_;rintro e w'⟨rfl,rfl⟩;go_wp2_with fail)
      |(with_reducible refine(m.out _ (Ext.refl _)).mono ?_;rintro e w'⟨rfl,rfl⟩;go_wp2_with fail)
      |(with_reducible refine(o.out _ (Ext.refl _)).mono ?_;rintro e w'⟨rfl,rfl⟩;go_wp2_with fail))
     go_ret
     exact⟨aO p.out.symm,q⟩)
theorem Wx(l:List Int)(A:Option Addr)(n c:Nat)(w:World)(h:aF w ⟨A,n,c⟩ l):
 Calls prog 231 #[.slice A n c] w λe w'=>e= .returned (.bool (oL l))/\Ext w w':=by
 have C:=ah h;obtain⟨P,s,G⟩:=h.len;have Q:(l.length:Int)<=9223372036854775807:=by omega
 subst P;clear h s G;by_cases D:l.length=0
 .have d:Hid (oL l=true):=ah (by rw[oL,D5 (.inr (by omega)),D5 (.inl (by omega)),D5 (.inr (by omega)),D5 (.inr (by omega))];rfl);have R:(l.length==0)=true:=by rw[beq_iff_eq];exact D
  have S:((l.length:Int)==0)=true:=by rw[beq_iff_eq];omega
  clear D;go_enter func231,ntmps231;go_wp2_with fail
  first
   |(refine rX' ?_
     repeat(go_big_quiet_step(fail))
     refine wpQuiet_nil ?_;rintro _⟨x,rfl⟩;have t:=x.h;go_wp2;go_ret
     exact⟨aO d.out.symm,t⟩)
   |(go_ret
     exact⟨aO d.out.symm,Ext.refl _⟩)
 obtain⟨m,J⟩:∃m,l.length=m+1:=⟨l.length - 1,by omega⟩;have R:(l.length==0)=false:=by rw[aP];exact D
 have S:((l.length:Int)==0)=false:=bF';have y:(l.length:Int) - 1=(m:Int):=by omega
 have f:m<l.length:=by omega
 obtain⟨b,o,T,K⟩:=C.out.at_ (i:=0) (by omega);subst T;obtain⟨L,M,a,U⟩:=C.out.at_ (i:=m) f;injection a with a;injection a with z B;subst z B;rw[Nat.add_zero]at K;have N:iM l 0=l[0]:=EX (i:=0) (by omega);have O:iM l ((l.length:Int) - 1)=l[m]:=by rw[y];exact EX f
 have E:Hid (oL l=(l[0] != 45&&l[m] != 45&& !(iM l 2==45&&iM l 3==45))):=ah (by rw[oL,N,O]);have V:=z0' m;have W:(m:Int)<(l.length:Int):=by omega
 have X:(0:Int)<(l.length:Int):=by omega
 clear N O D;generalize l[0]=y0 at*;generalize l[m]=y1 at*;have Y:∀g:ak w,g.w.cell? ⟨b,o,none⟩=some (.int .i64 y0):=dD K;have Z:∀g:ak w,g.w.cell? ⟨b,o+m,none⟩=some (.int .i64 y1):=dD U;by_cases F:l.length<4
 .have j:Hid (oL l=(y0 != 45&&y1 != 45)):=ah (by rw[E.out,D5 (i:=3) (.inr (by omega)),show((-1:Int)==45)=false from rfl,Bool.and_false,Bool.not_false,Bool.and_true]);have d1:decide (l.length<4)=true:=decide_eq_true F;have d2:decide ((l.length:Int)<4)=true:=decide_eq_true (by omega);clear E J F f;cases H:(y0 != 45)<;>cases I:(y1 != 45)
  all_goals
   have d:=ah j.out;rw[H,I]at d;go_enter func231,ntmps231;go_wp2_with fail
   first
    |(refine rX' ?_
      repeat(go_big_quiet_step(fail))
      refine wpQuiet_nil ?_;rintro _⟨x,rfl⟩;have t:=x.h;go_wp2;go_ret
      exact⟨aO d.out.symm,t⟩)
    |(go_ret
      exact⟨aO d.out.symm,Ext.refl _⟩)
 .have d1:decide (l.length<4)=false:=decide_eq_false F;have d2:decide ((l.length:Int)<4)=false:=decide_eq_false (by omega);have k:2<l.length:=by omega
  have p:3<l.length:=by omega
  obtain⟨L,M,a,c2⟩:=C.out.at_ (i:=2) k;injection a with a;injection a with z B;subst z B;obtain⟨L,M,a,c3⟩:=C.out.at_ (i:=3) p;injection a with a;injection a with z B;subst z B;have j:Hid (oL l=(y0 != 45&&y1 != 45&& !(l[2]==45&&l[3]==45))):=ah (by rw[E.out,show iM l 2=l[2]from EX (i:=2) k,show iM l 3=l[3]from EX (i:=3) p]);generalize l[2]=y2 at*;generalize l[3]=y3 at*;have a4:∀g:ak w,g.w.cell? ⟨b,o+2,none⟩=some (.int .i64 y2):=dD c2;have a5:∀g:ak w,g.w.cell? ⟨b,o+3,none⟩=some (.int .i64 y3):=dD c3;have a6:(2:Int)<(l.length:Int):=by omega
  have a7:(3:Int)<(l.length:Int):=by omega
  clear E J F f k p;cases H:(y0 != 45)<;>cases I:(y1 != 45)<;>cases e5:(y2 != 45)<;>cases e6:(y3 != 45)
  all_goals
   have d:=ah j.out;have q:=e5;have r:=e6;simp only[bne,Bool.not_eq_false',Bool.not_eq_true']at q r;rw[H,I,q,r]at d;clear q r;go_enter func231,ntmps231;go_wp2_with fail
   first
    |(refine rX' ?_
      repeat(go_big_quiet_step(fail))
      refine wpQuiet_nil ?_;rintro _⟨x,rfl⟩;have t:=x.h;go_wp2;go_ret
      exact⟨aO d.out.symm,t⟩)
    |(go_ret
      exact⟨aO d.out.symm,Ext.refl _⟩)
def ptS:List Int:=[97,98,109,110,111,114,48,45,120,65,90,49]
def ptJ:List Int:=[4352,4449,4520,46]
def ptV(r:List Int):Int:=
 if aT 8 r<=2 then ptS.getD (aT 12 r.tail).toNat 0 else if aT 8 r=3 then 44032+aT 60 r.tail else if aT 8 r=4 then ptJ.getD (aT 4 r.tail).toNat 0 else fA.getD (aT 28 r.tail).toNat 0
def QJ(w0 w:World)(g:Nat)(r:List Int)(e:Ending)(w':World):Prop:=e= .returned (.int .i64 (ptV r))/\Src w0 w' g r.tail.tail/\Kp [g] w w'/\Ext w0 w'
theorem YF(E w:World)(g:Nat)(r:List Int)(hs:Src E w g r)(hb:Ext E w):
 Calls prog 41 #[.pointer (some ⟨g,0,none⟩)] w (QJ E w g r):=by
 have ab:g<w.heap.size:=by
  obtain⟨_,_,_,_,_,_,_,R,_⟩:=hs;exact World.block_lt_of_cell? w _ R
 have S:=fZ r (n:=8) (by decide);obtain⟨k,T⟩:∃k:Nat,aT 8 r=k:=⟨(aT 8 r).toNat,by omega⟩;have U:k<8:=by omega
 obtain⟨V,W⟩:=eX' (ptV r);have D:Hid (V=if(k:Int)<=2 then ptS.getD (aT 12 r.tail).toNat 0 else if(k:Int)=3 then 44032+aT 60 r.tail else if(k:Int)=4 then ptJ.getD (aT 4 r.tail).toNat 0 else fA.getD (aT 28 r.tail).toNat 0):=ah (by rw[W,ptV,T]);unfold QJ;rw[<- W];have HK:=ah T;have HS:=ah hs;clear W T S hs;go_enter func41,ntmps41;go_wp2_with fail;refine(J9 w).mono ?_;rintro e X⟨rfl,F,x⟩;have Y:=ah F;have Z:w.heap.size<X.heap.size:=World.block_lt_of_cell? X ⟨w.heap.size,0+0,none⟩ (by obtain⟨b,o,G,R⟩:=F.at_ (i:=0) (by decide);injection G with G;injection G with e1 e2;subst e1 e2;exact R);clear F;go_wp2_with fail;refine(iq E X g r 8 (by decide) (by decide) (HS.out.kp (M:=[]) (Kp.dn x) (by simp)) (hb.trans' x)).mono ?_;rintro e s⟨rfl,J,z,K⟩;rw[HK.out];have A:=ah J;have B:Hid (Kp [g] w s):=ah ((Kp.dn x).trans z);have a2:=ah z;have C:=ah K;have ad:=z.size;clear J z K x HS;have a3:∀k:Nat,k<=2->Hid (V=ptS.getD (aT 12 r.tail).toNat 0)->True:=λ_ _ _=>trivial
 clear a3
 match k,U with
 |0,_|1,_|2,_=>
  have t:Hid (V=ptS.getD (aT 12 r.tail).toNat 0):=D;have I:=fZ r.tail (n:=12) (by decide);obtain⟨v,c⟩:∃v:Nat,aT 12 r.tail=v:=⟨(aT 12 r.tail).toNat,by omega⟩;have m:v<12:=by omega
  have p:Hid (V=ptS.getD v 0):=ah (by rw[t.out,c,Int.toNat_natCast]);have h:=ah c;clear D t I c;go_wp2_with fail;refine(iq E s g r.tail 12 (by decide) (by decide) A.out C.out).mono ?_;rintro e L⟨rfl,d,a,f⟩;rw[h.out];have H:=ah d;have j:=ah (B.out.trans a);have l:=ah f;clear d a f h
  match v,m with
  |0,_|1,_|2,_|3,_|4,_|5,_|6,_|7,_|8,_|9,_|10,_|11,_=>
   go_wp2;go_ret;exact⟨aU (by rw[p.out];decide+kernel),H.out,j.out,l.out⟩
 |3,_=>
  have t:Hid (V=44032+aT 60 r.tail):=D;have I:=fZ r.tail (n:=60) (by decide);clear D;go_wp2_with fail;refine(iq E s g r.tail 60 (by decide) (by decide) A.out C.out).mono ?_;rintro e L⟨rfl,d,a,f⟩;have H:=ah d;have j:=ah (B.out.trans a);have l:=ah f;clear d a f;go_wp2;go_ret;exact⟨by rw[t.out];go_num,H.out,j.out,l.out⟩
 |4,_=>
  have t:Hid (V=ptJ.getD (aT 4 r.tail).toNat 0):=D;have I:=fZ r.tail (n:=4) (by decide);obtain⟨v,c⟩:∃v:Nat,aT 4 r.tail=v:=⟨(aT 4 r.tail).toNat,by omega⟩;have m:v<4:=by omega
  obtain⟨y,hy⟩:=eY' (ptJ.getD v 0);have p:Hid (V=y):=ah (by rw[t.out,c,Int.toNat_natCast,hy]);have h:=ah c;have N:Ext s (s.alloc (.cells #[.int .i64 4352,.int .i64 4449,.int .i64 4520,.int .i64 46] 3)):=(Ext.refl _).aC _;have q:(s.alloc (.cells #[.int .i64 4352,.int .i64 4449,.int .i64 4520,.int .i64 46] 3)).cell? ⟨s.heap.size,v,none⟩=some (.int .i64 y):=by
   rw[World.cell?_alloc_new,<- hy]
   match v,m with
   |0,_|1,_|2,_|3,_=>rfl
  have jL:=ah N;have O:=ah q;have a6:=z0' v;have a7:(v:Int)<4:=by omega
  clear D t I c hy N q;go_wp2_with fail;refine(iq E _ g r.tail 4 (by decide) (by decide) (A.out.kp (M:=[]) (Kp.dn jL.out) (by simp)) (C.out.trans' jL.out)).mono ?_;rintro e L⟨rfl,d,a,f⟩;rw[h.out];have a8:L.cell? ⟨s.heap.size,v,none⟩=some (.int .i64 y):=(a.cell ⟨s.heap.size,v,none⟩ (by simp) (by simp;omega)).trans O.out;have H:=ah d;have j:=ah ((B.out.trans (Kp.dn jL.out)).trans a);have l:=ah f;clear d a f h O;go_wp2;go_ret;exact⟨aU p.out.symm,H.out,j.out,l.out⟩
 |5,_|6,_|7,_=>
  have t:Hid (V=fA.getD (aT 28 r.tail).toNat 0):=D;have I:=fZ r.tail (n:=28) (by decide);obtain⟨v,c⟩:∃v:Nat,aT 28 r.tail=v:=⟨(aT 28 r.tail).toNat,by omega⟩;have m:v<28:=by omega
  have P:v<fA.length:=m;have p:Hid (V=fA[v]):=ah (by rw[t.out,c,Int.toNat_natCast,getD_lt _ _ _ P]);have h:=ah c;obtain⟨b,o,G,Q⟩:=Y.out.at_ (i:=v) P;injection G with G;injection G with e1 e2;subst e1 e2;rw[Nat.zero_add]at Q;generalize fA[v]=y at*;have a6:=z0' v;have a7:(v:Int)<28:=by omega
  clear D t I c;go_wp2_with fail;refine(iq E s g r.tail 28 (by decide) (by decide) A.out C.out).mono ?_;rintro e L⟨rfl,d,a,f⟩;rw[h.out];have a8:L.cell? ⟨w.heap.size,v,none⟩=some (.int .i64 y):=((a2.out.trans a).cell ⟨w.heap.size,v,none⟩ Z (by simp;omega)).trans Q;have H:=ah d;have j:=ah (B.out.trans a);have l:=ah f;clear d a f h;go_wp2;go_ret;exact⟨aU p.out.symm,H.out,j.out,l.out⟩
open Go.ChangeShapes Go.WideShapes Go.ChangeAt Go.RowKit Go.Deep
theorem own:ownKnob prog.godebug=none:=by kernel_rfl
theorem Qj:prog.globalNamed "namedesk/table.blocks" =some 0:=by kernel_rfl
theorem YB:(prog.globals[0]?).map (·.type)=some 23:=by kernel_rfl
theorem I9:prog.cellsOf 70=3:=by kernel_rfl
theorem EJ:prog.cellsOf 3=1:=by kernel_rfl
theorem Pg{H:Type}{enc:TypeId × Value->H}{w:World}{j:Nat}{a:Nat->Bool}{k:Bool}{n:Nat}{B:List Value}{x y z:Int}{V:List MemPlace}
 (h:DataW.trod enc prog w j a k n 70 B=some (.agg [.lit (.int .i64 x),.lit (.int .i64 y),.lit (.int .i64 z)],V)):B=[.int .i64 x,.int .i64 y,.int .i64 z]:=by
 obtain⟨b,l,c,d,g,m⟩:∃b,prog.underlying 70=some (.struct b)/\b[0]?.map (λf=>(f.type,f.offset))=some (3,0)/\b[1]?.map (λf=>(f.type,f.offset))=some (3,1)/\b[2]?.map (λf=>(f.type,f.offset))=some (3,2)/\b.size=3:=⟨_,underlying70,rfl,rfl,rfl,rfl⟩;obtain⟨E,W,_,C,D,i,o⟩:=DataW.trod_struct l h;rw[I9]at D;rw[m]at i;obtain⟨p,F,c⟩:=Option.map_eq_some_iff.1 c;obtain⟨q,G,d⟩:=Option.map_eq_some_iff.1 d;obtain⟨r,I,g⟩:=Option.map_eq_some_iff.1 g;obtain⟨J,K⟩:=Prod.mk.inj c;obtain⟨L,M⟩:=Prod.mk.inj d;obtain⟨N,O⟩:=Prod.mk.inj g
 match B,D with
 |[c0,c1,c2],_=>
  have s:=o 0 p F;have t:=o 1 q G;have A:=o 2 r I;rw[J,K,EJ]at s;rw[L,M,EJ]at t;rw[N,O,EJ]at A;simp only[List.drop_zero,List.drop_succ_cons,List.take_succ_cons,List.take_zero]at s t A
  match E,i with
  |[y0,y1,y2],_=>
   obtain⟨X,P,p,_⟩:=DataW.trod_int (x:=y0) underlying3 s;obtain⟨Y,Q,q,_⟩:=DataW.trod_int (x:=y1) underlying3 t;obtain⟨Z,R,r,_⟩:=DataW.trod_int (x:=y2) underlying3 A;subst p q r;simp only[List.map_cons,List.map_nil,Prod.mk.injEq,DataW.agg.injEq,List.cons.injEq,DataW.lit.injEq,Lit.int.injEq,true_and,and_true]at C;obtain⟨⟨S,T,U⟩,_⟩:=C;subst S T U;injection P with c;injection Q with d;injection R with g;rw[c,d,g]
theorem gB'{W:World}(h:laidMet prog [("namedesk/table.blocks",Rows.laid_namedesk_table_blocks)] W):Glob W:=by
 obtain⟨ps,⟨g',t',O,P,p,q,E,F,r,U,_,_⟩,_⟩:=h;obtain rfl:=Option.some.inj (Qj.symm.trans E);obtain rfl:=Option.some.inj (YB.symm.trans F);have d:=World.var?_cell Qj r 0;rcases open_slice underlying23 U with⟨s,g⟩|⟨a,len,j,m,n,D,Pl,s,hb,V,X,G,g,Q⟩
 .injection g with g _;cases g
 .injection g with g _;unfold Rows.laid_namedesk_table_blocks at g;injection g with t Y;have w:len=6:=by have:=congrArg List.length t;simpa using this.symm
  subst w;have Z:6<=m:=by rw[G];split<;>omega
  have R:∀i x,vS[i]? =some x->D i= .agg [.lit (.int .i64 x.lo),.lit (.int .i64 x.hi),.lit (.int .i64 x.val)]:=by
   intro i x c;have:=congrArg (λl=>l[i]?) t
   match i,c with
   |0,c|1,c|2,c|3,c|4,c|5,c=>simp[vS]at c;subst c;simpa[List.range,List.range.loop]using this.symm
   |i+6,c=>simp[vS]at c
  have H:O[0]? =some (.slice (some a) 6 j):=by
   have:O.toList[0]? =some (.slice (some a) 6 j):=by rw[s];rfl
   simpa using this
  rw[H]at d;refine⟨some a,6,j,d,⟨rfl,V,X⟩,λi x c=> ?_⟩;have tZ:i<6:=(List.getElem?_eq_some_iff.1 c).1;obtain⟨a0,y,z⟩:=Q i (by omega);rw[R i x c]at z;have A:=Pg z;rw[I9]at y;obtain⟨_,_,f⟩:=World.cells?_some y;rw[A]at f;have I:=f 0 (by omega);have J:=f 1 (by omega);have K:=f 2 (by omega);simp only[List.getElem?_cons_zero,List.getElem?_cons_succ]at I J K;obtain⟨b,o,S⟩:=a;have L:S=none:=by
   obtain⟨c3,T,B⟩:=Q 0 (by omega);rw[R 0 ⟨0,127,0⟩ rfl]at B;have M:=Pg B;rw[I9]at T;obtain⟨_,_,N⟩:=World.cells?_some T;have C:=N 0 (by omega);rw[M]at C;simp only[Nat.zero_mul,Addr.add,if_true,List.getElem?_cons_zero]at C;unfold World.cell? at C;cases S with
   |none=>rfl
   |some k=>exfalso;split at C<;>simp at C
  subst L;simp only[Addr.add_mid,Nat.add_zero]at I J K;exact⟨b,o,rfl,I,J,K⟩
theorem VQ{H:Type}{enc:TypeId × Value->H}{W:World}{q:Nat}{m:Nat->Bool}{s:Bool}{v:Value}{d:DataW H}{p:List MemPlace}{r:Reach}
 (M:Value.okWide prog W r q 22 v) (h:DataW.Trod enc prog W 0 m s 22 v d p):∃A n c l,v= .slice A n c/\aF W ⟨A,n,c⟩ l:=by
 obtain⟨N,len,D,rfl⟩:=okWide_slice underlying22 M;obtain⟨w,E⟩:=h;rcases open_ints underlying22 underlying3 EJ E with⟨f,F⟩|⟨a,y,z,B,f,_,O,G,I,F,g,J⟩
 .simp[Value.cells]at f;obtain⟨rfl,rfl,rfl⟩:=f;exact⟨none,0,0,[],rfl,aF.nil_ _⟩
 .simp[Value.cells]at f;obtain⟨rfl,rfl,rfl⟩:=f;have K:len<=B.length:=by rw[I];split<;>omega
  refine⟨_,_,_,B.take len,rfl,⟨by simp;omega,by simp;omega,G⟩,λi x j=> ?_⟩;have L:i<len:=by have:=(List.getElem?_eq_some_iff.1 j).1;simp at this;omega
  have C:=g i (by omega);obtain⟨b,t,o⟩:=a;have k:o=none:=by simpa[Addr.add]using World.cell?_spot (g 0 (by omega))
  subst k;refine⟨b,t,rfl,?_⟩;rw[Addr.add_mid]at C;rw[C];rw[List.getElem?_take_of_lt L]at j;simp[List.getD,j]
section
variable {H:Type} {enc:TypeId × Value->H}
theorem Oo{W g:World}(i:laidOutB prog=true)(j:Ext W g):∀{ts:List TypeId}{vs:List Value}{ds:List (DataW H)}{ps:List MemPlace},(∀t∈ts,prog.readableRec t=true/\t<prog.types.size)->
 DataW.TrodAll enc prog W 0 (λ_=>true) true ts vs ds ps->(∀x∈ps,x.block<W.heap.size)->∀sp:Nat->Bool,(∀x∈ps,sp x.block=true)->DataW.TrodAll enc prog g 0 sp true ts vs ds ps
 |[],[],[],_,_,h,_,_,_=>h
 |t::ts,v::vs,d::ds,ps,hT,⟨p,q,h1,h2,e⟩,hlt,sp,hs=>
  ⟨p,q,WideElems.Trod_stays i (hT t (by simp)).1 (hT t (by simp)).2 h1 (λx a=>j.b.same (hlt x (by rw[e];exact List.mem_append_left _ a))) (λx a=>hs x (by rw[e];exact List.mem_append_left _ a)),
   Oo i j (λk f=>hT k (by simp[f])) h2 (λx c=>hlt x (by rw[e];exact List.mem_append_right _ c)) sp (λx c=>hs x (by rw[e];exact List.mem_append_right _ c)),e⟩
theorem law_post{f:Func}{s:ChangeSpec}{apart d m:Bool}{W o:World}{args:Array Value}{k:List (DataW H)}{a:List MemPlace}
 (g:s.vars=[]) (Q:laidOutB prog=true) (R:∀t∈f.params.toList,prog.readableRec t=true/\t<prog.types.size) (D:DataW.Whole enc prog f.params.toList s.vars apart W args.toList k [] a)
 (G:Ext W o) (I:f.resultTypes= #[4]) (n:s.fn H (k++[])= {results:=[.lit (.bool true)],args:=k,vars:=[]}):
 s.post enc prog f apart true d m W args (.bool true) o:=by
 have E:Below W.heap.size W o:=G;have l:∀p∈a,p.block<W.heap.size:=λp h=>D.lt p h
 have r:=D;rw[g]at r;obtain⟨p,q,J,K,L,M,N⟩:=r;obtain⟨_,O⟩:=trodVars_none K;have A:a=p:=by rw[L,O,List.append_nil]
 have j:∀(b:Nat)(i:Nat->Bool)(F:Bool),DataW.TrodAll enc prog o b i F f.resultTypes.toList ((Value.bool true).resultList f.resultTypes.size) (s.fn H (k++[])).results []:=by
  intro b i F;rw[I,n];exact trodAll_cons_mk (shut_bool underlying4 _) trodAll_mk0
 have c:∀i:Nat->Bool,(∀p∈a,i p.block=true)->DataW.TrodAll enc prog o 0 i true f.params.toList args.toList (s.fn H (k++[])).args a:=by
  intro i B;rw[n];have C:DataW.TrodAll enc prog W 0 (λ_=>true) true f.params.toList args.toList k a:=by rw[A];exact J
  exact Oo Q G R C l i B
 have w:∀i:Nat->Bool,DataW.TrodVars enc prog o i s.vars (s.fn H (k++[])).vars []:=by
  intro i;rw[g,n];rfl
 have x:∀p∈a,(λb=>decide (b<W.heap.size)) p.block=true:=λp h=>by simpa using l p h
 refine⟨k,[],a,[],a,[],D,j _ _ _,c _ x,w _,World.keptBut_mono (λp h=>⟨h,by simpa using h⟩) (E.frame (· ∈a)),λ_=> ?_⟩;refine⟨?_,_,_,([]++a)++[],⟨[]++a,[],trodAll_append (c _ (λ_ _=>rfl)) (j _ _ _),w _,rfl,?_,?_⟩,?_⟩
 .exact ok_one I rfl (okWide_bool_mk underlying4 _)
 .intro b y h;have z:MemPlace.cell b y∈a:=by simpa using h
  rw[E.frozen (l _ z)];exact M b y z
 .intro P;have:=N P;simpa using this
 .intro p h _;simpa using h
end
end Go.Proofs.YtlmkgaoakcjlnaaGreatDoor
