/- Part By36. -/
import Derived.Test.YtlmkgaoakcjlnaaGreatDoorBy35
import Derived.Laws.Cover1
open Go.Proofs.Tryz
namespace Go.Proofs.YtlmkgaoakcjlnaaGreatDoor
set_option maxHeartbeats 25600000
set_option maxRecDepth 100000
open Go.RowKit
variable (t:TV)(T:aj)(l:List Int)(A:Option Addr)(n c:Nat)(w:World)
def Af(T:aj)(l:List Int):Nat->Int->Bool
 |0,_=>false
 |n+1,k=>if fO T l (aN 3 ||| aN k)=true then true else Af T l n (k+1)
theorem aCs:sS T l=Af T l 3 61:=by
 simp only[sS,Af];rw[show(61:Int)+1=62 from rfl,show(62:Int)+1=63 from rfl];cases fO T l (aN 3 ||| aN 61)<;>cases fO T l (aN 3 ||| aN 62)<;>cases fO T l (aN 3 ||| aN 63)<;>rfl
theorem or8(k:Int):bits .or .u64 8 (uv (aN k))=uv (aN 3 ||| aN k):=by
 rw[<- vF,show uv (aN 3)=8 from by decide+kernel]
theorem aF2(v:BitVec 64):fH v mY=(v != 0#64):=by
 unfold fH;rw[show mY=BitVec.allOnes 64 from by decide+kernel,BitVec.and_allOnes]
theorem ZV'(ht:aW w t T)(h:aF w ⟨A,n,c⟩ l):
 cE' 50 #[t.v,.slice A n c] w (.tuple #[.int .i64 (rG T l),.int .i64 (aX T l)]):=by
 obtain⟨hn,b1,bc⟩:=h.len;subst hn;have g:=dG w t;have HT:=ah (ht.aC g);have HI:=ah (h.ext g);have HO:=ah (uJ t T l A l.length c _ HT.out HI.out);clear ht h;by_cases M:aX T l=0
 .have HW:=ah (EL M);have J:=ah M;have E:Hid (rG T l=uQ T l):=ah (by rw[rG,pP' M])
  have HS:Hid (∀x v,oC T x=v->∀w',Ext (tW' w t) w'->cE' 97 #[t.v,.int .i64 x] w' (.int .u64 (uv v))):=ah (λx v i w' j=>by
   have K:=KX t T x w' (HT.out.aC j) HW.out;rw[i]at K
   exact K)
  have Z:Hid (∀v,(resT T l != 0#64)=v->∀w',Ext (tW' w t) w'->cE' 98 #[t.v,.slice A l.length c] w' (.bool v)):=ah (λv i w' j=>by
   have K:=XC' t T l A l.length c w' (HT.out.aC j) (HI.out.ext j);rw[show yV T l=(resT T l != 0#64)from by rw[yV,J.out];rfl,i]at K
   exact K)
  have a0:Hid (∀m v,fO T l m=v->∀w',Ext (tW' w t) w'->cE' 99 #[t.v,.slice A l.length c,.int .u64 (uv m)] w' (.bool v)):=ah (λm v i w' j=>by
   have K:=bF t T l m A l.length c w' (HT.out.aC j) (HI.out.ext j);rw[show D7 T l m=fO T l m from by rw[D7,J.out];rfl,i]at K
   exact K)
  have a1:Hid (uQ T l=if pI l=true then 1 else if(resT T l != 0#64)=true then 2 else if sS T l=true then 3 else if oL T l 58 3=true then 4 else if fO T l mY=true then 5 else 6):=rfl;have a2:=ah (aCs T l);have a3:Hid ((resT T l != 0#64)=false->uM T l 58 3=oL T l 58 3):=ah mod_eq;clear M;go_enter func50,ntmps50;go_wp2_with fail;refine HO.out.mono ?_;rintro e w1⟨rfl,F⟩;rw[J.out];have am:=ah F;clear F;go_wp2;go_loopw[7,8,21] (λs7 s8 N wr=>∃(k:Nat)(a b:Bool),k<=l.length/\N=.int .i64 k/\s7=.bool a/\s8=.bool b/\Hid (pI l=(a&&pI (l.drop k)))/\Hid (fO T l mY=(b&&fO T (l.drop k) mY))/\Ext (tW' w t) wr) (λ_ _ N _=>l.length-(intOf N).toNat);exact⟨0,true,true,zl' _,rfl,rfl,rfl,rfl,rfl,am.out⟩;obtain⟨k,a,b,hk,rfl,rfl,rfl,HA,HK,d⟩:=hrel;have O:=ah d;have rT:=bT' t d;clear d;by_cases s:k<l.length
  .obtain⟨bb,o,ha,h1⟩:=(HI.out.ext O.out).at_ s;subst ha;have HD:=ah (drop_at l k s);generalize l[k]=x at*;obtain⟨v,i⟩:=eY' (oC T x);have HC:=ah (HS.out x v i wr O.out);have y:Hid (pI l=((a&&decide (x<=127))&&pI (l.drop (k+1)))):=ah (by rw[HA.out,HD.out,pI,List.all_cons,Bool.and_assoc];rfl);have z:Hid (fO T l mY=((b&&fH v mY)&&fO T (l.drop (k+1)) mY)):=ah (by rw[HK.out,HD.out,fO,List.all_cons,i,Bool.and_assoc];rfl);have q1:(uv v != 0)=fH v mY:=(by rw[aF2,<- uv_zero,bne,uv_beq];rfl);have dx:decide (x<128)=decide (x<=127):=by
    by_cases h:x<=127
    .rw[dt' h,dt' (by omega)]
    .rw[df' h,df' (by omega)]
   obtain⟨p,hp⟩:=eY' (decide (x<=127));obtain⟨q,hq⟩:=eY' (fH v mY);rw[hp]at y dx;rw[hq]at z q1;clear HA HK HD i hp hq;cases a<;>cases b<;>cases p
   all_goals
    go_wp2_with(go_at_call 97;refine HC.out.mono ?_;rintro e w2⟨rfl,ap⟩);go_roundw
    case rel=>
     first
      |exact⟨k+1,_,_,by omega,by go_num,rfl,rfl,y,z,O.out⟩
      |exact⟨k+1,_,q,by omega,by go_num,rfl,rfl,y,z,O.out.trans' ap⟩
    case measure=>simp[intOf];omega
  .have y:Hid (pI l=a):=ah (by rw[HA.out,bV l k (by omega)];simp[pI]);have z:Hid (fO T l mY=b):=ah (by rw[HK.out,bV l k (by omega)];simp[fO]);clear HA HK;obtain⟨r2,G⟩:=eY' (resT T l != 0#64);have aq:=ah (Z.out r2 G wr O.out);have WO:Hid (r2=false->uM T l 58 3=oL T l 58 3):=ah (λh=>a3.out (G.trans h));have Fh:Hid (rG T l=if a=true then 1 else if r2=true then 2 else if sS T l=true then 3 else if oL T l 58 3=true then 4 else if b=true then 5 else 6):=ah (by rw[E.out,a1.out,y.out,z.out,G]);obtain⟨L,hL⟩:=eY' (rG T l);rw[hL]at Fh;have B:=ah hL;clear hL G E a1 a3 Z;cases a
   case true=>
    have H:Hid (L=1):=ah Fh.out;have I:=g.trans' O.out;go_wp2;go_ret2;exact⟨uh (B.out.trans H.out).symm J.out.symm,I⟩
   go_wp2_with fail;refine aq.out.mono ?_;rintro e w3⟨rfl,a6⟩;have fV:=ah (O.out.trans' a6);clear a6 rT;cases r2
   case true=>
    have H:Hid (L=2):=ah Fh.out;have I:=g.trans' fV.out;go_wp2;go_ret2;exact⟨uh (B.out.trans H.out).symm J.out.symm,I⟩
   have a7:=ah (WO.out rfl);obtain⟨R1,P⟩:=eY' (sS T l);obtain⟨Q,S⟩:=eY' (oL T l 58 3);have U:Hid (L=if R1=true then 3 else if Q=true then 4 else if b=true then 5 else 6):=ah (by rw[Fh.out,P,S];rfl);have a9:Hid (R1=Af T l 3 61):=ah (by rw[<- P,a2.out]);have av:Hid (Q=uM T l 58 3):=ah (by rw[<- S,a7.out]);clear P S Fh a7 WO a2;go_wp2;go_loopw[11] (λV wr=>∃(k:Int)(f:Nat),61<=k/\k<=64/\k+f=64/\V=.int .i64 k/\Hid (R1=Af T l f k)/\Ext (tW' w t) wr) (λV _=>(64-intOf V).toNat);exact⟨61,3,by omega,by omega,by omega,rfl,a9,fV.out⟩;obtain⟨k,f,aw,ax,ay,rfl,C,d⟩:=hrel;obtain⟨w4,rfl⟩:=eX' wr;have W:=ah d;have rT:=bT' t d;clear d;by_cases s:k<=63
   .obtain⟨f,rfl⟩:=gS' f;obtain⟨v,i⟩:=eY' (fO T l (aN 3 ||| aN k));have D:Hid (R1=if v=true then true else Af T l f (k+1)):=ah (by rw[C.out,Af,i]);have HC:=ah (a0.out _ v i w4 W.out);have q1:=or8 k;have aE:IntKind.u64.wrap (2 ^ k.toNat)=uv (aN k):=H6 (by omega) s;have k0:0<=k:=(by omega);clear C i;go_wp2_with fail;refine HC.out.mono ?_;rintro e w5⟨rfl,aa⟩;have eX:=ah (W.out.trans' aa);clear aa;cases v
    .have E:Hid (R1=Af T l f (k+1)):=ah (by rw[D.out];rfl);go_wp2;go_roundw;exact⟨k+1,f,by omega,by omega,by omega,by go_num,E,eX.out⟩;simp[intOf];omega
    .have H:Hid (L=3):=ah (by rw[U.out,D.out];rfl);have I:=g.trans' eX.out;go_wp2;go_ret2;exact⟨uh (B.out.trans H.out).symm J.out.symm,I⟩
   .have aL:k=64:=(by omega);subst aL;have X:f=0:=(by omega);subst X;have ab:Hid (L=if Q=true then 4 else if b=true then 5 else 6):=ah (by rw[U.out,C.out];rfl);clear C U a9;go_wp2;go_loopw[12] (λY wr=>∃(k:Int)(f:Nat),3<=k/\k<=61/\k+f=61/\Y=.int .i64 k/\Hid (Q=uM T l f k)/\Ext (tW' w t) wr) (λY _=>(61-intOf Y).toNat);exact⟨3,58,by omega,by omega,by omega,rfl,av,W.out⟩;obtain⟨k,f,aw,ax,ay,rfl,C,d⟩:=hrel;obtain⟨w6,rfl⟩:=eX' wr;have iW:=ah d;have Hw:=bT' t d;clear d;by_cases s:k<=60
    .obtain⟨f,rfl⟩:=gS' f;by_cases O1:k=3\/k=4\/k=5
     .have E:Hid (Q=uM T l f (k+1)):=ah (by rw[C.out,uM];rcases O1 with rfl|rfl|rfl<;>rfl);clear C;rcases O1 with rfl|rfl|rfl
      all_goals
       go_wp2;go_roundw;exact⟨_,f,by omega,by omega,by omega,by go_num,E,iW.out⟩;simp[intOf]
     .have e3:(k != 3)=true:=(by rw[bne_iff_ne];omega);have e4:(k != 4)=true:=(by rw[bne_iff_ne];omega);have e5:(k != 5)=true:=(by rw[bne_iff_ne];omega);obtain⟨v,i⟩:=eY' (fO T l (aN 3 ||| aN k));have D:Hid (Q=if v=true then true else uM T l f (k+1)):=ah (by rw[C.out,uM,e3,e4,e5,i];rfl);have HC:=ah (a0.out _ v i w6 iW.out);have q1:=or8 k;have aE:IntKind.u64.wrap (2 ^ k.toNat)=uv (aN k):=H6 (by omega) (by omega);have k0:0<=k:=(by omega);have bp:k<=64:=(by omega);clear C i O1;go_wp2_with fail;refine HC.out.mono ?_;rintro e w7⟨rfl,ac⟩;have lQ:=ah (iW.out.trans' ac);clear ac;cases v
      .have E:Hid (Q=uM T l f (k+1)):=ah (by rw[D.out];rfl);go_wp2;go_roundw;exact⟨k+1,f,by omega,by omega,by omega,by go_num,E,lQ.out⟩;simp[intOf];omega
      .have H:Hid (L=4):=ah (by rw[ab.out,D.out];rfl);have I:=g.trans' lQ.out;go_wp2;go_ret2;exact⟨uh (B.out.trans H.out).symm J.out.symm,I⟩
    .have Ob:k=61:=(by omega);subst Ob;have X:f=0:=(by omega);subst X;have H:Hid (L=if b=true then 5 else 6):=ah (by rw[ab.out,C.out];rfl);have I:=g.trans' iW.out;clear C;cases b
     all_goals
      have b0:=ah H.out;go_wp2;go_ret2;exact⟨uh ((B.out.trans b0.out).trans rfl).symm J.out.symm,I⟩
 .have E:Hid (rG T l=0):=ah (by rw[rG,nN' M]);have d1:(aX T l != 0)=true:=bN' M;clear M;generalize aX T l=ee at*;go_enter func50,ntmps50;go_wp2_with fail;refine HO.out.mono ?_;rintro e w1⟨rfl,F⟩;go_wp2;go_ret2;exact⟨uh E.out.symm rfl,g.trans' F⟩
theorem YT(t:TV)(s:List Int)(w:World)(ht:aW w t T)(hs:IsB s):Calls prog 15 #[t.v,.string (sB s)] w (JA w (gZ T s)):=by
 obtain⟨I,y⟩:=eX' ((w.alloc (.cells #[.slice t.s0.a t.s0.n t.s0.c,.slice t.s1.a t.s1.n t.s1.c,.slice t.s2.a t.s2.n t.s2.c,.slice t.s3.a t.s3.n t.s3.c,.slice t.s4.a t.s4.n t.s4.c,.slice t.s5.a t.s5.n t.s5.c,.slice t.s6.a t.s6.n t.s6.c,.slice t.s7.a t.s7.n t.s7.c,.slice t.s8.a t.s8.n t.s8.c,.slice t.s9.a t.s9.n t.s9.c,.slice t.s10.a t.s10.n t.s10.c,.slice t.s11.a t.s11.n t.s11.c] 26)).alloc (.cells kP 32));have K:Ext w I:=by rw[y];exact(eR'.aB _).aB _
 have j:=ah K;have Z:=ah (ht.aC K);have W:Hid (∀f,Ext I f->∀k:Nat,f.cell? ⟨w.heap.size,k,none⟩=t.v.cells[k]?):=ah (λf h=>aQ ((eR'.aB _).trans' (by rw[y]at h;exact h)));have g:Hid (∀f,Ext I f->f.heap[w.heap.size+1]? =some (.cells kP 32 (0,0))):=ah (λf h=>JB (by rw[y]at h;exact h));have C1:Hid (∀f,Ext I f->Calls prog 49 #[t.v,.string (sB s)] f (AV f (eU T s))):=ah (λf h=>YB T t s f (Z.out.aC h) hs);have C2:Hid (∀f,Ext I f->Calls prog 51 #[t.v,.string (sB s)] f (AV f (uniD T s))):=ah (λf h=>aWj T t s f (Z.out.aC h) hs);have C3:Hid (∀f,Ext I f->Calls prog 21 #[t.v,.string (sB s)] f (Gj f (cO T s))):=ah (λf h=>Jg T t s f (Z.out.aC h) hs);have HD:Hid (gZ T s=if(eU T s).2.2≠0 then(rE,(eU T s).2.2)else if(cO T s).1.length≠1 then(rE,21)else wS T s ((cO T s).1.getD 0 [])):=rfl;have gB:Hid (∀l,wS T s l=if 4<uQ T l then(rE,20)else if(jJ T l).2≠0 then(rE,(jJ T l).2)else if(jJ T l).1.length=0 then(rE,10)else(((eU T s).1,(uniD T s).1,(jJ T l).1),0)):=ah λ_=>rfl
 have HU:Hid ((eU T s).2.2=0->(uniD T s).2.2=0):=ah λh=>by rw[(uni_ok h).2]
 have HP:Hid ((eU T s).2.2=0->(cO T s).2.2=0/\∀l∈(cO T s).1,aX T l=0):=ah λh=>by
  have M:(cO T s).2.2=0:=by
   unfold eU at h;split at h
   .exact absurd h ‹_›
   .exact Decidable.not_not.1 ‹_›
  exact⟨M,λl hl=>G8 ((AU M).2 l hl).1⟩
 generalize wS T s=CL at*;generalize gZ T s=D at*;generalize eU T s=DA at*;generalize uniD T s=JZ at*;generalize cO T s=DP at*;obtain⟨a,ai,ae⟩:=DA;obtain⟨u,ui,ue⟩:=JZ;obtain⟨L,pi,pe⟩:=DP;simp only[]at HD gB HU HP;clear ht hs K;go_enter func15,ntmps15;go_wp2_with fail;rw[<- y];refine(C1.out _ eR').mono ?_;rintro e w1⟨rfl,a3⟩;have q:=ah (a3);have mO:=W.out _ q.out;clear a3 y;by_cases J:ae=0
 case neg=>
  have e0:(ae != 0)=true:=bN' J;have B:=ah (HD.out.trans (pP' J));clear J HD gB HU HP C2 C3;go_wp2_with(refine wpList_store_row rfl _ _ _ rfl (w.heap.size+1) _ rfl rfl 32 kP (g.out _ q.out) (by kernel_rfl) rfl (oK _ _ _) ?_)
  (try simp only[Exit.inBlock,Exit.then])
  refine bodyPost_ret (results_cell_row_tmp (p:=4) (u:=5) (ty:=32) (by kernel_rfl) _ _ (w.heap.size+1) 32 _ (0,0) (by first|rfl|simp[Act.put]) (setRow_heap _ _ _ _ _ _ (g.out _ q.out)) underlying32 (by kernel_rfl)) rfl ?_;exact⟨by rw[B.out];rfl,og (j.out.trans' q.out) (Nat.le_succ _) _⟩
 have N:=ah (HD.out.trans (nN' (by rw[J];simp)));have b4:=ah (HU.out J);have O:=ah (HP.out J);have e0:(ae != 0)=false:=bZ' J;clear J HD HU HP;have ep:(pe != 0)=false:=by rw[O.out.1];rfl
 go_wp2_with fail;refine(C3.out _ q.out).mono ?_;rintro e w2⟨A,m,d,rfl,hl,a4⟩;have i:=ah (q.out.trans' a4);have gy:=W.out _ i.out;clear a4 mO;have HL:=ah hl;have hm:=hl.len.1;simp only[]at hm HL;clear hl;by_cases M:L.length=1
 case neg=>
  have B:=ah (N.out.trans (pP' M));have e1:(((m:Nat):Int) != 1)=true:=by rw[bne_iff_ne];omega
  have aq:(m != 1)=true:=by rw[bne_iff_ne];omega
  clear M N gB;go_wp2_with(refine wpList_store_row rfl _ _ _ rfl (w.heap.size+1) _ rfl rfl 32 kP (g.out _ i.out) (by kernel_rfl) rfl (oK _ _ _) ?_)
  (try simp only[Exit.inBlock,Exit.then])
  refine bodyPost_ret (results_cell_row_tmp (p:=4) (u:=5) (ty:=32) (by kernel_rfl) _ _ (w.heap.size+1) 32 _ (0,0) (by first|rfl|simp[Act.put]) (setRow_heap _ _ _ _ _ _ (g.out _ i.out)) underlying32 (by kernel_rfl)) rfl ?_;exact⟨by rw[B.out];rfl,og (j.out.trans' i.out) (Nat.le_succ _) _⟩
 have a5:=ah (N.out.trans (nN' (by rw[M];simp)));have e1:(((m:Nat):Int) != 1)=false:=by rw[show m=1 by omega];rfl
 have aq:(m != 1)=false:=by rw[show m=1 by omega];rfl
 obtain⟨b,o,P,Q,R,rfl,a6,hz⟩:=HL.out.at_ (show 0<L.length by omega);have S:=ah (O.out.2 _ (gM' (show 0<L.length by omega)));have U:=ah (gB.out (L[0]'(by omega)));have a7:Hid (D=CL (L[0]'(by omega))):=ah (by rw[a5.out,getD_lt L 0 [] (by omega)]);have HZ:=ah hz;have CQ:=ah a6;have av:m=1:=by omega
 clear hz O gB a5 a6;generalize L[0]'(by omega)=x at*;subst av;clear M hm HL;have a8:Hid (rG T x=uQ T x):=ah (by rw[rG,pP' S.out])
 have a9:Hid (∀f,Ext w2 f->cE' 50 #[t.v,.slice P Q R] f (.tuple #[.int .i64 (uQ T x),.int .i64 0])):=ah (λf h=>by
  have h':=ZV' t T x P Q R f (Z.out.aC (i.out.trans' h)) (HZ.out.ext h)
  rwa[a8.out,S.out]at h')
 have HK:Hid (∀f,Ext w2 f->cE' 22 #[t.v,.slice P Q R] f (.tuple #[.string (sB (jJ T x).1),.int .i64 (jJ T x).2])):=ah (λf h=>YO T t x P Q R f (Z.out.aC (i.out.trans' h)) (HZ.out.ext h));generalize uQ T x=lv at*;generalize jJ T x=kd at*;obtain⟨k,ke⟩:=kd;simp only[]at U HK;have E:=ah (a7.out.trans U.out);have rL:∀z:ak w2,∀p:Nat,z.w.cell? ⟨w.heap.size,p,none⟩=t.v.cells[p]? :=λz=>W.out _ (i.out.trans' z.h)
 have cL:∀z:ak w2,z.w.cell? ⟨b,o,none⟩=some (.slice P Q R):=dA CQ.out;clear a7 U a8 S HZ gy;go_wp2_with fail;refine rX' ?_
 repeat(go_big_quiet_step(first|(go_at_call 50;with_reducible exact aS (a9.out _ (ak.h _)))))
 refine wpQuiet_nil ?_;rintro _⟨v,rfl⟩;have r:=ah (i.out.trans' v.h);have aa:=ah v.h;have dH:=W.out _ r.out;clear rL cL a9;generalize v.w=v1 at*;clear v;by_cases X:4<lv
 .have d2:decide (4<lv)=true:=dt' X;have B:=ah (E.out.trans (pP' X));clear X E;go_wp2_with(refine wpList_store_row rfl _ _ _ rfl (w.heap.size+1) _ rfl rfl 32 kP (g.out _ r.out) (by kernel_rfl) rfl (oK _ _ _) ?_)
  (try simp only[Exit.inBlock,Exit.then])
  refine bodyPost_ret (results_cell_row_tmp (p:=4) (u:=5) (ty:=32) (by kernel_rfl) _ _ (w.heap.size+1) 32 _ (0,0) (by first|rfl|simp[Act.put]) (setRow_heap _ _ _ _ _ _ (g.out _ r.out)) underlying32 (by kernel_rfl)) rfl ?_;exact⟨by rw[B.out];rfl,og (j.out.trans' r.out) (Nat.le_succ _) _⟩
 have F:=ah (E.out.trans (nN' X));have d2:decide (4<lv)=false:=df' X;have rL:∀z:ak v1,∀p:Nat,z.w.cell? ⟨w.heap.size,p,none⟩=t.v.cells[p]? :=λz=>W.out _ (r.out.trans' z.h)
 have cL:∀z:ak v1,z.w.cell? ⟨b,o,none⟩=some (.slice P Q R):=dA (bI (bK aa.out) CQ.out);have ab:Hid (∀f,Ext v1 f->cE' 22 #[t.v,.slice P Q R] f (.tuple #[.string (sB k),.int .i64 ke])):=ah (λf h=>HK.out f (aa.out.trans' h));clear X E dH HK;go_wp2_with fail;refine rX' ?_
 repeat(go_big_quiet_step(first|(go_at_call 22;with_reducible exact aS (ab.out _ (ak.h _)))))
 refine wpQuiet_nil ?_;rintro _⟨v,rfl⟩;have G:=ah (r.out.trans' v.h);have rK:=W.out _ G.out;clear rL cL ab;generalize v.w=v2 at*;clear v;by_cases Y:ke=0
 case neg=>
  have e3:(ke != 0)=true:=bN' Y;have B:=ah (F.out.trans (pP' Y));clear Y F;go_wp2_with(refine wpList_store_row rfl _ _ _ rfl (w.heap.size+1) _ rfl rfl 32 kP (g.out _ G.out) (by kernel_rfl) rfl (oK _ _ _) ?_)
  (try simp only[Exit.inBlock,Exit.then])
  refine bodyPost_ret (results_cell_row_tmp (p:=4) (u:=5) (ty:=32) (by kernel_rfl) _ _ (w.heap.size+1) 32 _ (0,0) (by first|rfl|simp[Act.put]) (setRow_heap _ _ _ _ _ _ (g.out _ G.out)) underlying32 (by kernel_rfl)) rfl ?_;exact⟨by rw[B.out];rfl,og (j.out.trans' G.out) (Nat.le_succ _) _⟩
 have e3:(ke != 0)=false:=bZ' Y;have H:=ah (F.out.trans (nN' (by rw[Y];simp)));have ac:=xU k;clear Y F;by_cases V:k.length=0
 .have B:=ah (H.out.trans (pP' V));rw[List.eq_nil_of_length_eq_zero V,show([]:List Int).isEmpty=true from rfl]at ac;rw[List.eq_nil_of_length_eq_zero V];clear V H;go_wp2_with(refine wpList_store_row rfl _ _ _ rfl (w.heap.size+1) _ rfl rfl 32 kP (g.out _ G.out) (by kernel_rfl) rfl (oK _ _ _) ?_)
  (try simp only[Exit.inBlock,Exit.then])
  refine bodyPost_ret (results_cell_row_tmp (p:=4) (u:=5) (ty:=32) (by kernel_rfl) _ _ (w.heap.size+1) 32 _ (0,0) (by first|rfl|simp[Act.put]) (setRow_heap _ _ _ _ _ _ (g.out _ G.out)) underlying32 (by kernel_rfl)) rfl ?_;exact⟨by rw[B.out];rfl,og (j.out.trans' G.out) (Nat.le_succ _) _⟩
 have B:=ah (H.out.trans (nN' V));rw[show k.isEmpty=false from by cases k with|nil=>exact absurd rfl V|cons a b=>rfl]at ac;clear V H;go_wp2_with fail;refine(C2.out _ G.out).mono ?_;rintro e v3⟨rfl,ad⟩;have bn:=ah (G.out.trans' ad);clear ad rK;go_wp2_with(refine wpList_store_row rfl _ _ _ rfl (w.heap.size+1) _ rfl rfl 32 kP (g.out _ bn.out) (by kernel_rfl) rfl (oK _ _ _) ?_)
 (try simp only[Exit.inBlock,Exit.then])
 refine bodyPost_ret (results_cell_row_tmp (p:=4) (u:=5) (ty:=32) (by kernel_rfl) _ _ (w.heap.size+1) 32 _ (0,0) (by first|rfl|simp[Act.put]) (setRow_heap _ _ _ _ _ _ (g.out _ bn.out)) underlying32 (by kernel_rfl)) rfl ?_;exact⟨by rw[B.out];rfl,og (j.out.trans' bn.out) (Nat.le_succ _) _⟩
theorem b0f{w:World}{g:Nat}{o:Obj}(h:w.heap[g]? =some o):w.drew.heap[g]? =some o:=h
def RkL(T:aj)(wb:World)(R:List (List Int))(gh:Nat)(s7 s28:Value)(wx:World):Prop:=
 ∃(k:Nat)(A:Option Addr)(c:Nat),k+gh=R.length/\s28=.int .i64 k/\s7=.slice A k c/\Hid (mg wx wb.heap.size A k c (fB T (R.take k)))/\Hid (qJ T k (R.drop k)=qJ T 0 R)/\Hid (Ext wb wx)
def RmL(S:List P3)(N:List Nm)(wb:World)(gh:Nat)(s12 s13:Value)(wx:World):Prop:=
 ∃(m:Nat)(A:Option Addr)(c:Nat)(B:Option Addr)(d:Nat),m+gh=S.length/\s12=.slice A m c/\s13=.slice B m d/\Hid (mg wx wb.heap.size A m c ((S.take m).map Prod.fst))/\Hid (aK wx wb.heap.size B m d ((S.take m).map λp=>(p.2:Int)))/\
  Hid (∀j,j<m->∀h:j+1<S.length,ltS (kyP S[j]) (kyP S[j+1])=true)/\Hid (sN S gh (m+1)=qm N)/\Hid (Ext wb wx)
def bsV(o:Option Nat):Int:=match o with|none=> -1|some j=>j
theorem b0P{o:Option (List Int)}{N:List Nm}{i:Nat}(b:i<N.length):
 (ql o N[i].2.2=false/\bsV (kH N o (i+1))=bsV (kH N o i))\/(ql o N[i].2.2=true/\bsV (kH N o i)= -1/\bsV (kH N o (i+1))=i)\/
 (ql o N[i].2.2=true/\∃(j:Nat)(hj:j<N.length),bsV (kH N o i)=j/\((ltS N[i].2.2 N[j].2.2=true/\bsV (kH N o (i+1))=i)\/(ltS N[i].2.2 N[j].2.2=false/\bsV (kH N o (i+1))=j))):=by
 cases c:ql o N[i].2.2 with
 |false=>exact .inl ⟨rfl,by rw[kH,dif_pos b,nN' (λh=>by rw[c]at h;cases h.1)]⟩
 |true=>
  rcases PG N o i (Nat.le_of_lt b)with⟨e,_⟩|⟨j,hj,e,_,_,_⟩
  .exact .inr (.inl ⟨rfl,by rw[e];rfl,by rw[kH,dif_pos b,pP' ⟨c,λj hj=>by rw[e]at hj;cases hj⟩];rfl⟩)
  .refine .inr (.inr ⟨rfl,j,hj,by rw[e];rfl,?_⟩);cases d:ltS N[i].2.2 N[j].2.2 with
   |true=>exact .inl ⟨rfl,by rw[kH,dif_pos b,pP' ⟨c,λf a _=>by rw[e]at a;cases a;exact d⟩];rfl⟩
   |false=>exact .inr ⟨rfl,by rw[kH,dif_pos b,nN' (λh=>by have:=h.2 j e hj;rw[d]at this;cases this),e];rfl⟩
theorem b0c{N:List Nm}{m:Nat}(f:m<(bC N).length)(a:∀j,j<m->∀h:j+1<(bC N).length,ltS (kyP (bC N)[j]) (kyP (bC N)[j+1])=true):
 ∃o:Option (List Int),bsV (kH N o N.length)=(bC N)[m].2/\((m=0/\∀y,ql o y=true)\/(0<m/\∃h:m-1<(bC N).length,∀y,ql o y=ltS (kyP (bC N)[m-1]) y)):=by
 by_cases b:m=0
 .exact⟨none,by rw[YK f none b];rfl,.inl ⟨b,λ_=>rfl⟩⟩
 .have c:m-1<(bC N).length:=by omega
  have d:=a (m-1) (by omega) (by omega);have e:m-1+1=m:=by omega
  simp only[e]at d;exact⟨some (kyP (bC N)[m-1]),by rw[YK f (some (kyP (bC N)[m-1])) ⟨by omega,c,rfl,d⟩];rfl,.inr ⟨by omega,c,λ_=>rfl⟩⟩
theorem b0G(t:TV)(R:List (List Int))(A:Option Addr)(n c:Nat)(w:World)(ht:aW w t T)(hr:nO w ⟨A,n,c⟩ R)(hB:∀s∈R,IsB s):Calls prog 18 #[t.v,.slice A n c] w (Ee w (mkE T R) (mkS T R)):=by
 obtain⟨W0,l⟩:=eX' ((w.alloc (.cells #[.slice t.s0.a t.s0.n t.s0.c,.slice t.s1.a t.s1.n t.s1.c,.slice t.s2.a t.s2.n t.s2.c,.slice t.s3.a t.s3.n t.s3.c,.slice t.s4.a t.s4.n t.s4.c,.slice t.s5.a t.s5.n t.s5.c,.slice t.s6.a t.s6.n t.s6.c,.slice t.s7.a t.s7.n t.s7.c,.slice t.s8.a t.s8.n t.s8.c,.slice t.s9.a t.s9.n t.s9.c,.slice t.s10.a t.s10.n t.s10.c,.slice t.s11.a t.s11.n t.s11.c] 26)).alloc (.cells iF 42));have aa:Ext w W0:=by rw[l];exact(eR'.aB _).aB _
 have Y:=ah aa;have HT:=ah (ht.aC aa);have HR:=ah (hr.ext aa);have bi:=ah hB;have gW:Hid (∀w',Ext W0 w'->∀k:Nat,w'.cell? ⟨w.heap.size,k,none⟩=t.v.cells[k]?):=ah (λw' h=>aQ ((eR'.aB _).trans' (by rw[l]at h;exact h)));have B:Hid (∀w',Ext W0 w'->w'.heap[w.heap.size+1]? =some (.cells iF 42 (0,0))):=ah (λw' h=>JB (by rw[l]at h;exact h));have G:Hid (Ext W0 W0):=ah eR';have cA:w.heap.size+2<=W0.heap.size:=by rw[l];simp
 have hn:n=R.length:=hr.1.1;subst hn;clear ht hr hB aa;by_cases X:R.length=0
 .have HE:Hid (mkE T R=(10,-1,[])):=ah (by rw[mkE,pP' X]);have H0:Hid (((10,-1,[]):Int×Int×List Int).1≠0):=ah (by decide);have e1:(R.length==0)=true:=by rw[bq'];exact X
  have e2:((R.length:Int)==0)=true:=by rw[bq'];omega
  have hH:=B.out _ G.out;rw[l]at hH;clear X;go_enter func18,ntmps18;go_wp2_with(refine wpList_store_row rfl _ _ _ rfl (w.heap.size+1) _ rfl rfl 42 iF hH (by kernel_rfl) rfl (vg _ _ _ _ _ _ _ _) ?_);rw[<- l]
  (try simp only[Exit.inBlock,Exit.then])
  refine bodyPost_ret (results_tt_cell (u:=4) (v:=5) (p:=6) (ty:=42) (by kernel_rfl) _ _ (w.heap.size+1) 42 _ (0,0) (by first|rfl|simp[Act.put]) (setRow_heap _ _ _ _ _ _ (B.out _ G.out)) underlying42 (by kernel_rfl)) rfl ?_;exact Bf HE.out H0.out (og (Y.out.trans' G.out) (Nat.le_succ _) _) rfl
 have e1:(R.length==0)=false:=by rw[aO];exact X
 have e2:((R.length:Int)==0)=false:=bF';by_cases Q:16<R.length
 .have HE:Hid (mkE T R=(7,-1,[])):=ah (by rw[mkE,nN' X,pP' Q]);have H0:Hid (((7,-1,[]):Int×Int×List Int).1≠0):=ah (by decide);have d1:decide (16<R.length)=true:=dt' Q;have d2:decide (16<(R.length:Int))=true:=dT';have hH:=B.out _ G.out;rw[l]at hH;clear X Q;go_enter func18,ntmps18;go_wp2_with(refine wpList_store_row rfl _ _ _ rfl (w.heap.size+1) _ rfl rfl 42 iF hH (by kernel_rfl) rfl (vg _ _ _ _ _ _ _ _) ?_);rw[<- l]
  (try simp only[Exit.inBlock,Exit.then])
  refine bodyPost_ret (results_tt_cell (u:=4) (v:=5) (p:=6) (ty:=42) (by kernel_rfl) _ _ (w.heap.size+1) 42 _ (0,0) (by first|rfl|simp[Act.put]) (setRow_heap _ _ _ _ _ _ (B.out _ G.out)) underlying42 (by kernel_rfl)) rfl ?_;exact Bf HE.out H0.out (og (Y.out.trans' G.out) (Nat.le_succ _) _) rfl
 have d1:decide (16<R.length)=false:=df' Q;have d2:decide (16<(R.length:Int))=false:=dF';have cy:R.length<=16:=by omega
 have cz:0<R.length:=by omega
 have HM:Hid (mkE T R=match qJ T 0 R with
  |some q=>(q.2,q.1,[])
  |none=>match qm (fB T R)with
   |some p=>(22,p.2,p.1.1)
   |none=>(0,-1,[])):=ah (by rw[mkE,nN' X,nN' Q];rfl)
 clear X Q;go_enter func18,ntmps18;go_wp2_with fail;rw[<- l];clear l;go_loopg[7,28] R.length (λgh s7 c4 wx=>RkL T W0 R gh s7 c4 wx);exact⟨0,none,0,by omega,rfl,rfl,ah (Own.nil_ _ _ _ _),ah rfl,G⟩;obtain⟨k,A2,c2,cB,rfl,rfl,HO,Z,HB⟩:=hrel;have rT:=gW.out _ HB.out;by_cases hk:k<R.length
 .obtain⟨c5,rfl⟩:=gS' gk;obtain⟨b,o,rfl,c7⟩:=(HR.out.ext HB.out).at_ hk;have HC:=ah (YT T t R[k] wr (HT.out.aC HB.out) (bi.out _ (gM' hk)));have ab:=ah (Z5 (T:=T) hk);have ax:=ah (Z4 (T:=T) hk);generalize R[k]=x at*;generalize gZ T x=D at*;obtain⟨H,ev⟩:=D;simp only[]at ab ax;have bm:=z0' k;have bo:(k:Int)<(R.length:Int):=by omega
  go_wp2_with fail;refine HC.out.mono ?_;rintro e S⟨rfl,ay⟩;have bp:=ah (HB.out.trans' ay);have dM:=ah (Own.ext HO.out ay);have ac:Ext S (S.alloc (.cells #[.string (sB H.1),.string (sB H.2.1),.string (sB H.2.2)] 32)):=eR'.aB _;have I:=ah (bp.out.trans' ac);have nV:=ah (Own.ext dM.out ac);clear ay rT c7 HC HO;by_cases f:ev=0
  case neg=>
   have f1:(ev != 0)=true:=bN' f;have HE:Hid (mkE T R=(ev,(k:Int),[])):=ah (by rw[HM.out,<- Z.out,ab.out,pP' f]);have H0:Hid (((ev,(k:Int),[]):Int×Int×List Int).1≠0):=ah f;clear f ac
   go_wp2_with(first
    |(refine wpList_store_row rfl _ _ _ rfl S.heap.size _ rfl rfl 32 kP (heap_alloc_new S _) (by kernel_rfl) rfl (oK _ _ _) ?_;rw[World.setRow_alloc_new])
    |(refine wpList_store_row rfl _ _ _ rfl (w.heap.size+1) _ rfl rfl 42 iF (B.out _ I.out) (by kernel_rfl) rfl (vg _ _ _ _ _ _ _ _) ?_))
   (try simp only[Exit.inBlock,Exit.then])
   refine bodyPost_ret (results_tt_cell (u:=4) (v:=5) (p:=6) (ty:=42) (by kernel_rfl) _ _ (w.heap.size+1) 42 _ (0,0) (by first|rfl|simp[Act.put]) (setRow_heap _ _ _ _ _ _ (B.out _ I.out)) underlying42 (by kernel_rfl)) rfl ?_;exact Bf HE.out H0.out (og (Y.out.trans' I.out) (Nat.le_succ _) _) rfl
  have f1:(ev != 0)=false:=bZ' f;have c8:=ah ((ab.out.trans (nN' (by rw[f];simp))).symm.trans Z.out);obtain⟨W5,U⟩:=eX' (S.alloc (.cells #[.string (sB H.1),.string (sB H.2.1),.string (sB H.2.2)] 32));have k0:W5.cell? ⟨S.heap.size,0,none⟩=some (.string (sB H.1)):=by rw[U];exact World.cell?_alloc_new S _ _ 0
  have k1:W5.cell? ⟨S.heap.size,1,none⟩=some (.string (sB H.2.1)):=by rw[U];exact World.cell?_alloc_new S _ _ 1
  have k2:W5.cell? ⟨S.heap.size,2,none⟩=some (.string (sB H.2.2)):=by rw[U];exact World.cell?_alloc_new S _ _ 2
  rw[<- U]at I nV;obtain⟨A6,c6,w6,C,d,nT⟩:=PO nV.out H (by omega) I.out.b.size;rw[<- ax.out]at d;have c9:=ah d;have iW:Hid (Ext W0 w6):=ah (dZ (I.out.trans' (eR'.aB _)) nT (λk hk=>(Own.lt nV.out k hk).1));clear f ab Z bp dM ac ax I nV d nT
  go_wp2_with(first
   |(refine wpList_store_row rfl _ _ _ rfl S.heap.size _ rfl rfl 32 kP (heap_alloc_new S _) (by kernel_rfl) rfl (oK _ _ _) ?_;rw[World.setRow_alloc_new,<- U];clear U)
   |(at_builtin;refine dI rfl _ _ _ rfl _ _ rfl rfl _ _ C ?_;clear C))
  go_roundg c5;exact⟨k+1,A6,c6,by omega,by go_num,rfl,c9,c8,iW⟩;omega
 .have ca:k=R.length:=by omega
  subst ca;have bs:Hid (qJ T 0 R=none):=ah (by rw[<- Z.out,List.drop_of_length_le (lr' _)];rfl);rw[List.take_length]at HO;have J:Hid ((bC (fB T R)).length=R.length):=ah (by have:=PV (T:=T) (R:=R) (lr' _);rwa[List.take_length]at this);have E:Hid ((fB T R).length=R.length):=ah (by rw[fB,List.length_map])
  have V:Hid (∀x∈fB T R,IsB x.2.2):=ah (λx hx=>by
   rw[fB,List.mem_map]at hx;obtain⟨s,hs,rfl⟩:=hx
   exact(JF (bi.out s hs)).2.2)
  have aD:Hid (mkE T R=match qm (fB T R)with
   |some p=>(22,p.2,p.1.1)
   |none=>(0,-1,[])):=ah (by rw[HM.out,bs.out])
  have aE:Hid (mkS T R=if(mkE T R).1=0 then bC (fB T R)else[]):=rfl;have bt:Hid (qm (fB T R)=sN (bC (fB T R)) (bC (fB T R)).length 1):=rfl;have W:=ah (mg.nms HO.out);obtain⟨N,hN⟩:=eY' (fB T R);rw[hN]at J E V aD aE bt W;clear HM Z bs rT HO hN;go_wp2_with fail;obtain⟨WN,rfl⟩:=eX' wr;go_loopg[12,13] R.length (λgh cb cc wx=>RmL (bC N) N WN gh cb cc wx);exact⟨0,none,0,none,0,by rw[J.out];omega,rfl,rfl,ah (Own.nil_ _ _ _ _),ah (Own.nil_ _ _ _ _),ah (λj hj=>by omega),ah (by rw[bt.out,J.out]),ah eR'⟩;obtain⟨m,A3,c3,B3,d3,cd,rfl,rfl,dM,aL,bu,ad,fV⟩:=hrel;rw[J.out]at cd;by_cases hm:m<R.length
  .obtain⟨g2,rfl⟩:=gS' gk;have dm:decide ((m:Int)<(R.length:Int))=true:=dT';have af:m<(bC N).length:=(by rw[J.out];exact hm);obtain⟨o,aM,bv⟩:=b0c af bu.out;rw[E.out]at aM;have ce:=ah aM;have cf:=ah bv;clear aM bv;go_wp2_with fail;obtain⟨jQ,rfl⟩:=eX' wr;go_loopg[14,56] R.length (λg3 cg ch wx=>∃i:Nat,i+g3=R.length/\ch=.int .i64 i/\cg=.int .i64 (bsV (kH N o i))/\Hid (Ext jQ wx));exact⟨0,by omega,rfl,rfl,ah eR'⟩;obtain⟨i,cC,rfl,rfl,mX⟩:=hrel;by_cases hi:i<R.length
   .obtain⟨g4,rfl⟩:=gS' gk;have L:i<N.length:=(by rw[E.out];exact hi);obtain⟨gn,on,rfl,n0,n1,n2⟩:=NmS.at_ (W.out.ext (fV.out.trans' mX.out)) L;have bw:=ah (b0P (o:=o) L);have JI:=V.out _ (gM' L);obtain⟨W6,ag⟩:=eX' (wr.alloc (.cells #[.string (sB N[i].1),.string (sB N[i].2.1),.string (sB N[i].2.2)] 32));have a1:Ext wr W6:=(by rw[ag];exact eR'.aB _);have eP:=ah (mX.out.trans' a1);have cX:∀z:ak W6,z.w.cell? ⟨wr.heap.size,2,none⟩=some (.string (sB N[i].2.2)):=dA (by rw[ag];exact World.cell?_alloc_new wr _ _ 2);have cJ:∀(j:Nat)(hj:j<N.length),∀z:ak W6,z.w.cell? ⟨gn,on+j*3+2,none⟩=some (.string (sB N[j].2.2)):=λj hj z=>by
     obtain⟨g',o',hA,_,_,r⟩:=NmS.at_ (W.out.ext (fV.out.trans' (eP.out.trans' z.h))) hj;cases hA;exact r
    have ci:(((m:Int)==0)=true/\ql o N[i].2.2=true)\/(((m:Int)==0)=false/\∃(m':Nat)(z:List Int)(g0 o0:Nat),(m:Int)-1=(m':Int)/\m'<m/\A3=some ⟨g0,o0,none⟩/\(∀q:ak W6,q.w.cell? ⟨g0,o0+m'*3+2,none⟩=some (.string (sB z)))/\
     ((Op.bytesLess (sB N[i].2.2).toList (sB z).toList=true/\ql o N[i].2.2=false)\/(Op.bytesLess (sB N[i].2.2).toList (sB z).toList=false/\((sB N[i].2.2).toList==(sB z).toList)=true/\ql o N[i].2.2=false)\/
      (Op.bytesLess (sB N[i].2.2).toList (sB z).toList=false/\((sB N[i].2.2).toList==(sB z).toList)=false/\ql o N[i].2.2=true))):=by
     rcases cf.out with⟨X,h⟩|⟨X,f,h⟩
     .exact .inl ⟨by rw[X];rfl,h _⟩
     .obtain⟨g0,o0,hA,_,_,r⟩:=NmS.at_ (mg.nms (Own.ext dM.out eP.out)) (i:=m-1) (by simp;omega);simp only[List.getElem_map,List.getElem_take]at r;have bB:IsB (kyP (bC N)[m-1]):=by
       obtain⟨h3,h4⟩:=Bc f;have:=V.out _ (gM' h3);rw[h4]at this;exact this
      refine .inr ⟨by rw[aO];omega,m-1,kyP (bC N)[m-1],g0,o0,by omega,by omega,hA,λq=>bI (bK q.h) r,?_⟩;rw[Ju JI bB,vO JI bB,h];cases b0:ltS (kyP (bC N)[m-1]) N[i].2.2 with
      |true=>exact .inr (.inr ⟨Gm b0,df' (λe=>Jv b0 e.symm),rfl⟩)
      |false=>
       cases hq:ltS N[i].2.2 (kyP (bC N)[m-1])with
       |true=>exact .inl ⟨rfl,rfl⟩
       |false=>exact .inr (.inl ⟨rfl,dt' (CZ hq b0),rfl⟩)
    have cj:(ql o N[i].2.2=false/\bsV (kH N o (i+1))=bsV (kH N o i))\/(ql o N[i].2.2=true/\bsV (kH N o i)= -1/\bsV (kH N o (i+1))=i)\/
     (ql o N[i].2.2=true/\∃(j:Nat)(y:List Int),bsV (kH N o i)=j/\decide ((j:Int)<0)=false/\(j:Int)<(R.length:Int)/\(∀z:ak W6,z.w.cell? ⟨gn,on+j*3+2,none⟩=some (.string (sB y)))/\
      ((Op.bytesLess (sB N[i].2.2).toList (sB y).toList=true/\bsV (kH N o (i+1))=i)\/(Op.bytesLess (sB N[i].2.2).toList (sB y).toList=false/\bsV (kH N o (i+1))=j))):=by
     rcases bw.out with h|h|⟨h,j,hj,hq,r⟩
     .exact .inl h
     .exact .inr (.inl h)
     .refine .inr (.inr ⟨h,j,N[j].2.2,hq,df' (by omega),by have:=E.out;omega,cJ j hj,?_⟩);rw[Ju JI (V.out _ (gM' hj))];exact r
    have ck:=z0' i;have cl:(i:Int)<(R.length:Int):=(by omega);clear cJ bw JI;generalize N[i]=x at*;rcases ci with⟨e0,F⟩|⟨e0,m',z,g0,o0,cD,cE,rfl,bT,⟨l1,F⟩|⟨l1,l2,F⟩|⟨l1,l2,F⟩⟩
    all_goals
     rcases cj with⟨sb,sv⟩|⟨sb,sq,sv⟩|⟨sb,j,y,sq,sd,sj,sc,⟨sl,sv⟩|⟨sl,sv⟩⟩
    all_goals first
     |exact absurd (F.symm.trans sb) (by decide)
     |skip
    all_goals
     (try rw[sq])
     clear F sb;have cm:=ah sv
     (try clear sq)
     clear sv;go_wp2_with(refine wpList_store_row rfl _ _ _ rfl wr.heap.size _ rfl rfl 32 kP (heap_alloc_new wr _) (by kernel_rfl) rfl (oK _ _ _) ?_;rw[World.setRow_alloc_new,<- ag];clear ag);simp only[Act.put];refine rX' ?_
     repeat(go_big_quiet_step(fail))
     refine wpQuiet_nil ?_;rintro _⟨q,rfl⟩;have lQ:=ah (eP.out.trans' q.h);generalize q.w=w7 at*;clear q cX;go_wp2;go_roundg g4;exact⟨i+1,by omega,by go_num,by rw[cm.out],lQ⟩;omega
   .have cn:i=R.length:=(by omega);subst cn;rw[ce.out];obtain⟨O,bE⟩:=Bc af;have b1:=ah (λ(i:Nat)(hi:i<N.length)(f:(bC N)[m].2<i)(r:N[i].2.2=kyP (bC N)[m])=>aYA af hi f r);have a3:=ah (λ(f:m+1<(bC N).length)(r:kyP (bC N)[m+1]=kyP (bC N)[m])=>(⟨YL f r,Bc f⟩:(bC N)[m].2<(bC N)[m+1].2/\∃hi:(bC N)[m+1].2<N.length,N[(bC N)[m+1].2]=(bC N)[m+1].1));have bH:=ah (λ(f:m+1<(bC N).length)(r:kyP (bC N)[m+1]≠kyP (bC N)[m])=>up_srt f r);obtain⟨K,ai⟩:=eY' ((bC N)[m].2);have al:Hid (∀h:K<N.length,N[K]'h=(bC N)[m].1):=ah (λh=>by simp only[<- ai];exact bE);rw[ai]at O b1 a3 |-;have co:=ah ai;have cF:K<R.length:=(by have:=E.out;omega);clear bE ai;go_wp2_with fail;obtain⟨Lh,rfl⟩:=eX' wr;go_loopg[17] (R.length-(K+1)) (λg3 ZK wx=>∃i:Nat,i+g3=R.length/\K+1<=i/\ZK=.int .i64 i/\Hid (∀j(hj:j<N.length),K<j->j<i->N[j].2.2≠kyP (bC N)[m])/\Hid (Ext Lh wx));exact⟨K+1,by omega,lr' _,by go_num,ah (λj _ f r=>by omega),ah eR'⟩;obtain⟨i,cG,cH,rfl,a4,eX⟩:=hrel;have P:=ah (mX.out.trans' eX.out);by_cases cp:i<R.length
    .obtain⟨g5,rfl⟩:=gS' gk;have L:i<N.length:=(by rw[E.out];exact cp);obtain⟨gn,on,rfl,n0,_,n2⟩:=NmS.at_ (W.out.ext (fV.out.trans' P.out)) L;obtain⟨cI,cK,hA,_,_,p2⟩:=NmS.at_ (W.out.ext (fV.out.trans' P.out)) O;cases hA;rw[al.out O]at p2;have b2:=vO (V.out _ (gM' L)) (V.out _ (gM' O));rw[al.out O]at b2;have ck:=z0' i;have cl:(i:Int)<(R.length:Int):=(by omega);have bm:=z0' K;have bo:(K:Int)<(R.length:Int):=(by omega);have c0:∀z:ak wr,z.w.cell? ⟨gn,on+i*3+2,none⟩=some (.string (sB N[i].2.2)):=dA n2;have c1:∀z:ak wr,z.w.cell? ⟨gn,on+K*3+2,none⟩=some (.string (sB (bC N)[m].1.2.2)):=dA p2;by_cases he:N[i].2.2=(bC N)[m].1.2.2
     .rw[dt' he]at b2;obtain⟨t1,t2,t3⟩:=b1.out i L (by omega) he;obtain⟨t4,t5,t6⟩:=a3.out t1 t2;have b4:(bC N)[m+1].2=i:=by
       rcases Nat.lt_or_ge (bC N)[m+1].2 i with h|h
       .exact absurd (by rw[t6];exact t2) (a4.out _ t5 t4 h)
       .omega
      have bL:N[i]=(bC N)[m+1].1:=by simp only[<- b4];exact t6
      have HF:Hid (qm N=some (bC N)[m+1]):=ah (by
       rw[<- ad.out,sN,dif_pos t1];simp only[Nat.add_sub_cancel]
       rw[pP' t2])
      have HE:Hid (mkE T R=(22,(i:Int),N[i].1)):=ah (by rw[aD.out,HF.out,bL];show(22,((bC N)[m+1].2:Int),_)=_;rw[b4]);have H0:Hid (((22,(i:Int),N[i].1):Int×Int×List Int).1≠0):=ah (by show(22:Int)≠0;omega);have cq:=ah n0;generalize N[i]=x at*;clear he HF t1 t2 t3 t4 t5 t6 b4 bL n0 n2 p2;go_wp2_with fail;refine rX' ?_
      repeat(go_big_quiet_step(fail))
      refine wpQuiet_nil ?_;rintro _⟨z,rfl⟩;have lQ:=ah (fV.out.trans' (P.out.trans' z.h));have X:=dA cq.out z;generalize z.w=w7 at*;clear c0 c1 z;have b5:=ah (B.out w7 (HB.out.trans' lQ.out));have cR:∀k:Nat,w7.cell? ⟨w.heap.size+1,k,none⟩=iF[k]? :=λk=>cell_of_row w7 _ k iF _ (0,0) b5.out
      have fR:∀k:Nat,w7.frozen? ⟨w.heap.size+1,k,none⟩=false:=λk=>frozen_of_row w7 _ k iF _ b5.out
      go_wp2_with fail;go_region_law(fail)
      all_goals
       have cr:=b0f (Z8 b5.out 22 i (sB x.1));have bn:=ah (Z9 (Y.out.trans' (HB.out.trans' lQ.out)) (Nat.le_succ w.heap.size) 22 i (sB x.1)).dJ;clear cR fR;go_wp2_with fail
       (try simp only[Exit.inBlock,Exit.then])
       refine bodyPost_ret (results_tt_cell (u:=4) (v:=5) (p:=6) (ty:=42) (by kernel_rfl) _ _ (w.heap.size+1) 42 _ (0,0) (by first|rfl|simp[Act.put]) cr underlying42 (by kernel_rfl)) rfl ?_;exact Bf HE.out H0.out bn.out rfl
     .rw[df' he]at b2
      have ct:Hid (∀j(hj:j<N.length),K<j->j<i+1->N[j].2.2≠kyP (bC N)[m]):=ah (λj hj f r=>by
       by_cases e:j=i
       .subst e;exact he
       .exact a4.out j hj f (by omega))
      clear he n0 n2 p2;go_wp2_with fail;refine rX' ?_
      repeat(go_big_quiet_step(fail))
      refine wpQuiet_nil ?_;rintro _⟨z,rfl⟩;have lQ:=ah (eX.out.trans' z.h);generalize z.w=w7 at*;clear c0 c1 z;go_wp2;go_roundg g5;exact⟨i+1,by omega,by omega,by go_num,ct,lQ⟩;omega
    .have cu:Hid (∀j,j<m+1->∀h:j+1<(bC N).length,ltS (kyP (bC N)[j]) (kyP (bC N)[j+1])=true):=ah (λj hj h=>by
      by_cases e:j=m
      .subst e;refine bH.out h λr=>?_
       obtain⟨t4,t5,t6⟩:=a3.out h r;exact a4.out _ t5 t4 (by have:=E.out;omega) (by rw[t6];exact r)
      .exact bu.out j (by omega) h)
     have cv:Hid (sN (bC N) g2 (m+2)=qm N):=ah (by
      have h:=ad.out;rw[sN]at h;split at h
      .rename_i f;simp only[Nat.add_sub_cancel]at h
       rw[nN' (λr=>by
        obtain⟨t4,t5,t6⟩:=a3.out f r
        exact a4.out _ t5 t4 (by have:=E.out;omega) (by rw[t6];exact r))]at h
       exact h
      .rename_i f;rw[<- h];cases g2 with
       |zero=>rfl
       |succ g=>rw[sN,dif_neg (by omega)])
     have b6:Hid (((bC N).take (m+1)).map Prod.fst=((bC N).take m).map Prod.fst++[(bC N)[m].1]/\((bC N).take (m+1)).map (λp=>(p.2:Int))=((bC N).take m).map (λp=>(p.2:Int))++[(K:Int)]):=ah (by
      rw[tS' af,List.map_append,List.map_append,<- co.out]
      exact⟨rfl,rfl⟩)
     obtain⟨gn,on,rfl,n0,n1,n2⟩:=NmS.at_ (W.out.ext (fV.out.trans' P.out)) O;rw[al.out O]at n0 n1 n2;have am:=ah (Own.ext dM.out P.out);have LG:=ah (Own.ext aL.out P.out);have Zb:=ah (fV.out.trans' P.out);generalize(bC N)[m].1=H at*;obtain⟨A6,c6,w6,C,d,nT⟩:=PO am.out H (by omega) Zb.out.b.size;have a1:Ext wr (wr.alloc (.cells #[.string (sB H.1),.string (sB H.2.1),.string (sB H.2.2)] 32)):=eR'.aB _;have bM:=Kp.mD (M:=(aH A3).toList) nT (by intro b F;simp[F]);have qC:=ah (Own.kp (Own.ext LG.out a1) bM (λb F hm=>Own.types LG.out am.out (by decide) b F (by simpa using hm)));have iW:Hid (Ext WN w6):=ah (dZ (Zb.out.trans' a1) nT (λk hk=>(Own.lt am.out k hk).1));have a5:Ext w6 (w6.alloc (.cells #[.int .i64 K] 3)):=eR'.aB _;obtain⟨B7,d7,w7,a6,wG,Au,_⟩:=gJ (Own.ext qC.out a5) (iQ w6 K) (by omega) (iW.out.trans' a5).b.size;have bN:=Kp.mD (M:=(aH B3).toList) Au (by intro b F;simp[F]);have bO:=ah (Own.kp (Own.ext d a5) bN (λb F hm=>Own.types d qC.out (by decide) b F (by simpa using hm)));have su:Hid (Ext WN w7):=ah (dZ (iW.out.trans' a5) Au (λk hk=>(Own.lt qC.out k hk).1));have bP:=ah wG;have cw:Hid (aK w7 WN.heap.size B7 (m+1) d7 (((bC N).take (m+1)).map λp=>(p.2:Int))):=ah (by rw[b6.out.2];exact bP.out);have cx:Hid (mg w7 WN.heap.size A6 (m+1) c6 (((bC N).take (m+1)).map Prod.fst)):=ah (by rw[b6.out.1];exact bO.out);have bm:=z0' K;have bo:(K:Int)<(R.length:Int):=(by omega);clear d nT bM a1 a5 wG Au bN am LG qC iW bO bP b6 a4 b1 a3 bH al
     go_wp2_with(at_builtin;first
      |(refine dI rfl _ _ _ rfl _ _ rfl rfl _ _ C ?_;clear C)
      |(refine dI rfl _ _ _ rfl _ _ rfl rfl _ _ a6 ?_;clear a6))
     go_roundg g2;exact⟨m+1,A6,c6,B7,d7,by rw[J.out];omega,rfl,rfl,cx,cw,cu,cv,su⟩;omega
  .have cL:m=R.length:=by omega
   have bR:Hid (qm N=none):=ah (by
    have h:=ad.out;cases gk with
    |zero=>exact h.symm
    |succ g=>omega)
   have HE:Hid (mkE T R=(0,-1,[])):=ah (by rw[aD.out,bR.out]);have bS:Hid (mkS T R=bC N):=ah (by rw[aE.out,pP' (by rw[HE.out])]);have bn:=ah (HB.out.trans' fV.out);have cM:=HB.out.b.size;have bW:=ah (λcs:Array Value=>(Own.kp dM.out (Ef _ (w.heap.size+1) cs) (λb F hm=>by have:=(Own.lt dM.out b F).1;simp at hm;omega)));have bX:=ah (λcs:Array Value=>(Own.kp aL.out (Ef _ (w.heap.size+1) cs) (λb F hm=>by have:=(Own.lt aL.out b F).1;simp at hm;omega)));have bZ:(bC N).take m=bC N:=tL' (by rw[J.out];omega);rw[bZ]at bW bX;have dm:decide ((m:Int)<(R.length:Int))=false:=dF';clear bR aE ad bZ;go_wp2_with(refine wpList_store_row rfl _ _ _ rfl (w.heap.size+1) _ rfl rfl 42 iF (B.out _ bn.out) (by kernel_rfl) rfl (vg _ _ _ _ _ _ _ _) ?_)
   (try simp only[Exit.inBlock,Exit.then])
   refine bodyPost_ret (results_tt_cell (u:=4) (v:=5) (p:=6) (ty:=42) (by kernel_rfl) _ _ (w.heap.size+1) 42 _ (0,0) (by first|rfl|simp[Act.put]) (setRow_heap _ _ _ _ _ _ (B.out _ bn.out)) underlying42 (by kernel_rfl)) rfl ?_;exact⟨A3,_,c3,B3,_,d3,by rw[HE.out];rfl,⟨WN.heap.size,by omega,by rw[bS.out];exact bW.out _,by rw[bS.out];exact bX.out _⟩,og (Y.out.trans' bn.out) (Nat.le_succ _) _⟩
abbrev NmB(x:Nm):Prop:=IsB x.1/\IsB x.2.1/\IsB x.2.2
def sdG(L:List Nm):Nat->Nat->Bool
 |0,_=>true
 |g+1,i=>if h:i<L.length then ltS (L[i-1]'(by omega)).2.2 L[i].2.2&&sdG L g (i+1)else true
abbrev sdN(L:List Nm):Bool:=sdG L L.length 1
theorem Q8{L:List Nm}:∀{g i:Nat},L.length<=g+i->sdG L g i=true->∀j,i<=j->∀h:j<L.length,ltS (L[j-1]'(by omega)).2.2 L[j].2.2=true
 |0,i,hg,_,j,hj,h=>by omega
 |g+1,i,hg,hs,j,hj,h=>by
  rw[sdG,dif_pos (by omega),aT]at hs;by_cases e:j=i
  .subst e;exact hs.1
  .exact Q8 (by omega) hs.2 j (by omega) h
theorem Q9{L:List Nm}(b:sdN L=true){j k:Nat}(c:j<k)(h:k<L.length):ltS (L[j]'(by omega)).2.2 L[k].2.2=true:=by
 have a:∀d:Nat,∀h:j+1+d<L.length,ltS (L[j]'(by omega)).2.2 L[j+1+d].2.2=true:=by
  intro d
  induction d with
  |zero=>intro h;exact Q8 (by omega) b (j+1) (by omega) h
  |succ d ih=>
   intro h;exact Gl (ih (by omega)) (Q8 (by omega) b (j+1+(d+1)) (by omega) h)
 obtain⟨d,rfl⟩:∃d,k=j+1+d:=⟨k-(j+1),by omega⟩;exact a d h
theorem b1M(L:List Nm)(A:Option Addr)(n c:Nat)(w:World)(h:NmS w ⟨A,n,c⟩ L)(N:∀x∈L,NmB x):
 (cE' 27 #[.slice A n c] w (.bool (sdN L)))/\cE' 24 #[.slice A n c] w (.bool (sdN L)):=by
 obtain⟨t,k,l⟩:=h.1;simp only at t k l;subst t;have O:L.length<=9223372036854775807:=by have:=Nat.le_trans k l;simp only[maxLen]at this;omega
 have H:=ah h;have q:=ah N;clear h N;refine⟨?_,?_⟩
 all_goals
  first
   |go_enter func27,ntmps27
   |go_enter func24,ntmps24
  go_wp2;go_loopg[3] L.length (λy P Q=>∃j:Nat,j+y=L.length/\P=.int .i64 ((j+1:Nat):Int)/\Hid (sdG L y (j+1)=sdN L)/\Hid (Ext w Q));exact⟨0,by omega,by go_num,ah rfl,ah eR'⟩;obtain⟨j,hj,rfl,B,r⟩:=hrel;have R:(0:Int)<=((j+1:Nat):Int):=bJ _;by_cases m:j+1<L.length
  .obtain⟨C,rfl⟩:=gS' gk;have d:=B.out;rw[sdG,dif_pos m]at d;obtain⟨D,E,rfl,_,_,F⟩:=NmS.at_ (H.out.ext r.out) (i:=j) (by omega);obtain⟨T,U,V,_,_,G⟩:=NmS.at_ (H.out.ext r.out) m;cases V;have I:=Ju (q.out _ (gM' m)).2.2 (q.out _ (gM' (show j<L.length by omega))).2.2;have o:=vO (q.out _ (gM' m)).2.2 (q.out _ (gM' (show j<L.length by omega))).2.2;simp only[Nat.add_sub_cancel]at d;have p:=ah d;clear d;generalize L[j].2.2=a at*;generalize L[j+1].2.2=b at*;have W:∀z:ak wr,z.w.cell? ⟨D,E+j*3+2,none⟩=some (.string (sB a)):=dA F;have X:∀z:ak wr,z.w.cell? ⟨D,E+(j+1)*3+2,none⟩=some (.string (sB b)):=dA G;have Y:((j+1:Nat):Int)-1=(j:Int):=(by omega);have Z:=z0' j;have a0:((j+1:Nat):Int)<(L.length:Int):=(by omega);have a1:(j:Int)<(L.length:Int):=(by omega);clear F G;have s:(Op.bytesLess (sB b).toList (sB a).toList=true/\Hid (sdN L=false))\/(Op.bytesLess (sB b).toList (sB a).toList=false/\(((sB b).toList==(sB a).toList)=true/\Hid (sdN L=false)\/((sB b).toList==(sB a).toList)=false/\Hid (sdG L C (j+1+1)=sdN L))):=by
    rw[I,o];have d:=p.out;cases J:ltS b a with
    |true=>exact .inl ⟨rfl,ah (by rw[<- d,Gm J];rfl)⟩
    |false=>
     by_cases e:b=a
     .exact .inr ⟨rfl,.inl ⟨dt' e,ah (by rw[<- d,e,zO];rfl)⟩⟩
     .refine .inr ⟨rfl,.inr ⟨df' e,ah ?_⟩⟩;cases K:ltS a b with
      |true=>rw[<- d,K];rfl
      |false=>exact absurd (CZ J K) e
   clear I o p;rcases s with⟨b1,f⟩|⟨b1,⟨b2,f⟩|⟨b2,f⟩⟩
   all_goals
    go_wp2_with fail;refine rX' ?_
    repeat(go_big_quiet_step(fail))
    refine wpQuiet_nil ?_;rintro _⟨z,rfl⟩;have M:=ah (r.out.trans' z.h);generalize z.w=w6 at*;clear W X z;go_wp2_with fail
    first
     |(go_roundg C;exact⟨j+1,by omega,by go_num,f,M⟩;omega)
     |(go_ret;exact⟨by rw[f.out];rfl,M.out⟩)
  .have f:Hid (sdN L=true):=ah (by
    rw[<- B.out];cases gk with
    |zero=>rfl
    |succ g=>rw[sdG,dif_neg m])
   have hx:=r.out;go_wp2;go_ret;exact⟨by rw[f.out];rfl,hx⟩
abbrev rcs(d:Int×Int×List Int):Array Value:= #[.int .i64 d.1,.int .i64 d.2.1,.string (sB d.2.2),.int .i64 0,.int .i64 0,.string ⟨#[]⟩,.int .i64 0,.int .i64 0]
theorem Q7{M g:Nat}(h:M<=g)(w:World)(a:Array Value):Kb M w (w.setRow g a):=⟨rfl,rfl,rfl,by simp[World.setRow],λk _ b=>setRow_other _ _ _ _ (by omega)⟩
theorem Zc{U V:World}{q g n c m f:Nat}{A B:Option Addr}{L:List Nm}{I:List Int}{ty:TypeId}(a:Array Value)(l:Ext U V)(o:U.heap.size<=g)(i:V.heap[g]? =some (.cells iF ty (0,0)))(p:mg V q A n c L)(r:aK V q B m f I)
 (j:∀b,(aH A=some b\/aH B=some b)->b≠g):∃W,V.setRow g a=W/\Ext U W/\NmS W ⟨A,n,c⟩ L/\aF W ⟨B,m,f⟩ I/\∀w',Ext W w'->∀k:Nat,w'.cell? ⟨g,k,none⟩=a[k]? :=
 ⟨_,rfl,og l o a,mg.nms (Own.kp p (Ef V g a) (λb d=>by simpa using j b (.inl d))),aK.ints (Own.kp r (Ef V g a) (λb d=>by simpa using j b (.inr d))),λw' h k=>
  cell_of_row w' g k a ty (0,0) ((h.b.block g (by simpa[World.setRow]using(Array.getElem?_eq_some_iff.1 i).1)).trans (setRow_heap _ _ _ _ _ _ i))⟩
theorem b0s(R:List (List Int)):(mkS T R).length<=16:=by
 by_cases a:R.length<=16
 .rw[mkS];split
  .rw[PL,fB,List.length_map];exact a
  .simp
 .rw[mkS,nN' (by rw[mkE,nN' (by omega),pP' (by omega)];decide)];simp
theorem own_ne{V:World}{q g n c m f:Nat}{A B:Option Addr}{L:List Nm}{I:List Int}(d:mg V q A n c L)(i:aK V q B m f I)(h:g<q):∀b,(aH A=some b\/aH B=some b)->b≠g:=by
 rintro b(a|a)
 .have:=(Own.lt d b a).1;omega
 .have:=(Own.lt i b a).1;omega
theorem Zd{V:World}{q n c m f:Nat}{A B:Option Addr}{L:List Nm}{I:List Int}(d:mg V q A n c L)(g:aK V q B m f I):∀b,(aH A=some b\/aH B=some b)->b≠V.heap.size:=by
 rintro b(a|a)
 .have:=(Own.lt d b a).2;omega
 .have:=(Own.lt g b a).2;omega
theorem Qd{T:aj}:∀{R:List (List Int)}{i:Int}{q:Int×Int},qJ T i R=some q->q.2≠0
 |[],_,_,h=>by cases h
 |s::r,i,q,h=>by
  rw[qJ]at h;split at h
  .injection h with h;subst h;assumption
  .exact Qd h
theorem Qa{S:List P3}:∀{g i:Nat},S.length<=g+i->sN S g i=none->∀j,i<=j->∀h:j<S.length,kyP S[j]≠kyP (S[j-1]'(by omega))
 |0,i,hg,_,j,hj,h=>by omega
 |g+1,i,hg,hs,j,hj,h=>by
  rw[sN,dif_pos (by omega)]at hs;by_cases a:kyP (S[i]'(by omega))=kyP (S[i-1]'(by omega))
  .rw[pP' a]at hs;cases hs
  .rw[nN' a]at hs;by_cases e:j=i
   .subst e;exact a
   .exact Qa (by omega) hs j (by omega) h
theorem Qb{L:List Nm}:∀{g i:Nat},1<=i->(∀j,i<=j->∀h:j<L.length,ltS (L[j-1]'(by omega)).2.2 L[j].2.2=true)->sdG L g i=true
 |0,_,_,_=>rfl
 |g+1,i,hi,h=>by
  rw[sdG];split
  .rename_i a;rw[h i (lr' _) a,Qb (by omega) (λj c b=>h j (by omega) b)];rfl
  .rfl
theorem Qc(R:List (List Int)):sdN ((mkS T R).map Prod.fst)=true:=by
 by_cases a:(mkE T R).1=0
 .have b:mkS T R=bC (fB T R):=by rw[mkS,pP' a]
  have c:qm (fB T R)=none:=by
   unfold mkE at a;split at a
   .simp at a
   .split at a
    .simp at a
    .split at a
     .rename_i q d;exact absurd a (Qd d)
     .split at a
      .simp at a
      .assumption
  rw[b];refine Qb (lr' _) λj f h=>?_
  rw[List.length_map]at h;rw[List.getElem_map,List.getElem_map];have g:=Qa (S:=bC (fB T R)) (i:=1) (by omega) c j f h;obtain⟨k,rfl⟩:=gS' j;exact up_srt h g
 .have b:mkS T R=[]:=by rw[mkS,nN' a]
  rw[b];rfl
theorem b1d{T:aj}{R:List (List Int)}(h:∀s∈R,IsB s):∀x∈(mkS T R).map Prod.fst,NmB x:=by
 intro x a;rw[mkS]at a;split at a
 .rw[List.mem_map]at a;obtain⟨p,b,rfl⟩:=a;obtain⟨i,c,rfl⟩:=List.getElem_of_mem b;obtain⟨f,d⟩:=Bc c;rw[<- d];simp only[fB,List.getElem_map];exact JF (h _ (gM' _))
 .simp at a
def Eh(K:List (List Int)):Nat->Bool
 |0=>false
 |k+1=>Eh K k||(K.take k).any λy=>decide (y=K.getD k [])
theorem Gp{K:List (List Int)}:∀{k:Nat},k<=K.length->(Eh K k=true↔∃(i j:Nat)(_:i<j)(_:j<k)(h:j<K.length),K[i]=K[j])
 |0,_=>by simp[Eh]
 |k+1,hk=>by
  have a:k<K.length:=by omega
  have e:K.getD k []=K[k]:=by simp[List.getD_eq_getElem?_getD,a]
  rw[Eh,oT',Gp (by omega),List.any_eq_true,e];constructor
  .rintro(⟨i,j,c,f,d,b⟩|⟨y,g,h⟩)
   .exact⟨i,j,c,by omega,d,b⟩
   .obtain⟨i,l,rfl⟩:=List.getElem_of_mem g;rw[List.length_take]at l;rw[List.getElem_take]at h;exact⟨i,k,by omega,by omega,a,of_decide_eq_true h⟩
  .rintro⟨i,j,c,f,d,b⟩;by_cases m:j=k
   .subst m;refine .inr ⟨K[i],?_,dt' b⟩;rw[List.mem_iff_getElem];exact⟨i,by rw[List.length_take];omega,by rw[List.getElem_take]⟩
   .exact .inl ⟨i,j,c,by omega,d,b⟩
theorem b1j{N:List Nm}(c:qm N=none):sdN ((bC N).map Prod.fst)=true:=by
 refine Qb (lr' _) λj a h=>?_
 rw[List.length_map]at h;rw[List.getElem_map,List.getElem_map];have b:=Qa (S:=bC N) (i:=1) (by omega) c j a h;obtain⟨k,rfl⟩:=gS' j;exact up_srt h b
theorem Ze{S:List P3}:∀{g i:Nat}{p:P3},1<=i->sN S g i=some p->∃j,∃h:j+1<S.length,kyP S[j+1]=kyP S[j]
 |0,_,_,_,h=>by cases h
 |g+1,i,p,hi,h=>by
  rw[sN]at h;split at h
  .rename_i a;split at h
   .rename_i b;obtain⟨k,rfl⟩:=gS' i;exact⟨k,a,b⟩
   .exact Ze (by omega) h
  .cases h
theorem b1k(N:List Nm):Eh (N.map λx=>x.2.2) N.length=(qm N).isSome:=by
 have z:(N.map λx=>x.2.2).length=N.length:=by simp
 cases ht:qm N with
 |none=>
  show _=false
  rw[<- Bool.not_eq_true,Gp (by omega)];rintro⟨i,j,r,A,B,k⟩;rw[List.getElem_map,List.getElem_map]at k;have s:=b1j ht;obtain⟨a,m,d⟩:=Jt (l:=N) (show i<N.length by omega);obtain⟨b,n,c⟩:=Jt (l:=N) A;have o:a≠b:=λe=>by subst e;rw[d]at c;injection c with _ C;omega
  have g:∀(q:Nat)(t:q<(bC N).length),((bC N).map Prod.fst)[q]'(by simpa using t)=(bC N)[q].1:=λq t=>by rw[List.getElem_map]
  rcases Nat.lt_or_gt_of_ne o with h|h
  .have f:=Q9 s h (by simpa using n);rw[g a m,g b n,d,c]at f;exact Jv f k
  .have f:=Q9 s h (by simpa using m);rw[g a m,g b n,d,c]at f;exact Jv f k.symm
 |some p=>
  rw[Option.isSome_some,Gp (by omega)];obtain⟨j,w,y⟩:=Ze (lr' _) ht;have r:=YL w y;obtain⟨a,d⟩:=Bc (show j<(bC N).length by omega);obtain⟨b,c⟩:=Bc w;refine⟨_,_,r,b,by rw[z];exact b,?_⟩;rw[List.getElem_map,List.getElem_map,d,c];exact y.symm
theorem b1s(N:List Nm):qm N=none↔(N.map λx=>x.2.2).Pairwise (· ≠ ·):=by
 have h:=b1k N;have k:(N.map λx=>x.2.2).length=N.length:=by simp
 rw[List.pairwise_iff_getElem];constructor
 .intro ht i j l b a e;rw[ht,Option.isSome_none]at h;have:Eh (N.map λx=>x.2.2) N.length=true:=(Gp (by omega)).2 ⟨i,j,a,by omega,b,e⟩;rw[h]at this;cases this
 .intro c;cases ht:qm N with
  |none=>rfl
  |some p=>
   rw[ht,Option.isSome_some]at h;obtain⟨i,j,d,m,f,g⟩:=(Gp (by omega)).1 h;exact absurd g (c i j (by omega) f d)
theorem JJ{T:aj}:∀{R:List (List Int)}{i:Int},qJ T i R=none↔∀s∈R,(gZ T s).2=0
 |[],_=>by simp[qJ]
 |s::r,i=>by
  rw[qJ];by_cases h:(gZ T s).2=0
  .rw[nN' (by rw[h];simp),JJ];simp[h]
  .rw[pP' h];simp[h]
theorem Zh{L:List Nm}(h:sdN L=true):L.Pairwise λx y=>ltS x.2.2 y.2.2=true:=by
 rw[List.pairwise_iff_getElem];intro i j c b a;exact Q9 h a b
theorem Zg{T:aj}{R:List (List Int)}(a:(mkE T R).1=0):R.length≠0/\R.length<=16/\qJ T 0 R=none/\qm (fB T R)=none:=by
 unfold mkE at a;split at a
 .simp at a
 .rename_i b;split at a
  .simp at a
  .rename_i g;split at a
   .rename_i q c;exact absurd a (Qd c)
   .rename_i d;split at a
    .simp at a
    .rename_i f;exact⟨b,by omega,d,f⟩
theorem b1x{T:aj}{R c:List (List Int)}(d:c.Perm R)(m:(mkE T R).1=0):(mkE T c).1=0/\(mkS T c).map Prod.fst=(mkS T R).map Prod.fst:=by
 obtain⟨y,z,n,f⟩:=Zg m;have A:=d.length_eq;have o:qJ T 0 c=none:=JJ.2 λs p=>JJ.1 n s (d.mem_iff.1 p)
 have g:(fB T c).Perm (fB T R):=d.map _;have q:qm (fB T c)=none:=by
  rw[b1s]at f |-;exact(List.Perm.pairwise_iff (λh=>Ne.symm h) (g.map _)).2 f
 have i:(mkE T c).1=0:=by rw[mkE,nN' (by omega),nN' (by omega),o];simp only[];rw[q]
 refine⟨i,?_⟩;have r:=Qc T R;have t:=Qc T c;have j:∀l:List Nm,((bC l).map Prod.fst).Perm l:=λl=>by
  have:=(PI l).map Prod.fst;rwa[List.zipIdx_map_fst]at this
 have w:((mkS T c).map Prod.fst).Perm ((mkS T R).map Prod.fst):=by
  rw[mkS,pP' i,mkS,pP' m];exact(j _).trans (g.trans (j _).symm)
 refine List.Perm.eq_of_pairwise (λa b _ _ x k=>?_) (Zh t) (Zh r) w;rw[Gm x]at k;cases k
theorem b1w{T:aj}{R:List (List Int)}(c:(mkE T R).1=0):(mkS T R).length=R.length/\∀(i:Nat)(h:i<(mkS T R).length),∃hr:(mkS T R)[i].2<R.length,gZ T R[(mkS T R)[i].2]=((mkS T R)[i].1,0):=by
 obtain⟨_,_,d,_⟩:=Zg c;have e:mkS T R=bC (fB T R):=by rw[mkS,pP' c]
 rw[e];refine⟨by rw[PL,fB,List.length_map],λi h=>?_⟩;obtain⟨a,b⟩:=Bc h;have hr:(bC (fB T R))[i].2<R.length:=by
  have j:(fB T R).length=R.length:=by rw[fB,List.length_map]
  omega
 refine⟨hr,?_⟩;have f:=JJ.1 d _ (gM' hr);have g:(gZ T R[(bC (fB T R))[i].2]).1=(bC (fB T R))[i].1:=by
  rw[<- b];simp only[fB,List.getElem_map]
 rw[<- g,<- f]
end Go.Proofs.YtlmkgaoakcjlnaaGreatDoor
