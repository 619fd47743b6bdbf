/- Part Bx23. -/
import Derived.Laws.Cover1
import Derived.Test.YtlmkgaoakcjlnaaGreatDoorBx21
import Derived.Test.YtlmkgaoakcjlnaaGreatDoorBx22
import Derived.Test.YtlmkgaoakcjlnaaGreatDoorCards
import Derived.Test.YtlmkgaoakcjlnaaGreatDoorTie
import Derived.LaidMore
open Go.Proofs.Tryz
namespace Go.Proofs.YtlmkgaoakcjlnaaGreatDoor
set_option maxHeartbeats 25600000
set_option maxRecDepth 100000
open Go.RowKit
theorem XC(L:List Nm)(A:Option Addr)(n c:Nat)(t:Option Addr)(a y:Nat)(w:World)(h:NmS w ⟨A,n,c⟩ L)(l:NmS w ⟨t,a,y⟩ L)(Z:L.length<=1000):
 cE' 19 #[.slice A n c,.slice t a y] w (.bool true):=by
 have B:n=L.length:=h.1.1;have C:a=L.length:=l.1.1;subst B C;have D:=ah h;have E:=ah l;have S:(L.length != L.length)=false:=by simp
 clear h l;go_enter func19,ntmps19;go_wp2;go_loopg[13] L.length (λF g G=>∃k:Nat,k+F=L.length/\g=.int .i64 k/\Hid (Ext w G));exact⟨0,by omega,rfl,ah eR'⟩;obtain⟨k,T,rfl,f⟩:=hrel;by_cases d:k<L.length
 .obtain⟨i,rfl⟩:=gS' gk;obtain⟨b,o,rfl,m,p,a⟩:=NmS.at_ (D.out.ext f.out) d;obtain⟨U,V,rfl,q,r,s⟩:=NmS.at_ (E.out.ext f.out) d;generalize L[k]=x at*;have I:=z0' k;have J:(k:Int)<(L.length:Int):=by omega
  have K:=cZ m;have M:=cZ p;have j:=cZ a;have N:=cZ q;have O:=cZ r;have P:=cZ s;have W:((sB x.1).toList==(sB x.1).toList)=true:=by simp
  have X:((sB x.2.1).toList==(sB x.2.1).toList)=true:=by simp
  have Y:((sB x.2.2).toList==(sB x.2.2).toList)=true:=by simp
  clear m p a q r s;go_wp2_with fail;refine rX' ?_
  repeat(go_big_quiet_step(fail))
  refine wpQuiet_nil ?_;rintro _⟨z,rfl⟩;have Q:=ah (f.out.trans' z.h);generalize z.w=w6 at*;clear K M j N O P z;go_wp2;go_roundg i;exact⟨k+1,by omega,by go_num,Q⟩;omega
 .have R:=f.out;go_wp2;go_ret;exact⟨rfl,R⟩
theorem b0j(l m:List Int)(R:List (List Int))(A:Option Addr)(n c:Nat)(A2:Option Addr)(n2 c2:Nat)(A3:Option Addr)(n3 c3:Nat)(w:World)(h:aF w ⟨A,n,c⟩ l)(h2:aF w ⟨A2,n2,c2⟩ m)(h3:oC w ⟨A3,n3,c3⟩ R)(hs:∀s∈R,IsB s)(hg:Glob w):
 cE' 4 #[.slice A n c,.slice A2 n2 c2,.slice A3 n3 c3] w (.bool true):=by
 have ai:=ah hg;have HM:=ah h2;have HL:=ah h;have HR:=ah h3;have HS:=ah hs;clear hg h h2 h3 hs;go_enter func4,ntmps4;go_wp2_with fail;refine Calls.mono (OL l A n c _ HL.out ai.out) ?_;rintro e O⟨t,rfl,ht,al⟩;have W:=dw O t;have HT:=ah (ht.aC W);have L:=ah (al.trans' W);have gQ:Hid (∀w',Ext (O.alloc (.cells #[.slice t.s0.a t.s0.n t.s0.c,.slice t.s1.a t.s1.n t.s1.c,.slice t.s2.a t.s2.n t.s2.c,.slice t.s3.a t.s3.n t.s3.c,.slice t.s4.a t.s4.n t.s4.c,.slice t.s5.a t.s5.n t.s5.c,.slice t.s6.a t.s6.n t.s6.c,.slice t.s7.a t.s7.n t.s7.c,.slice t.s8.a t.s8.n t.s8.c,.slice t.s9.a t.s9.n t.s9.c,.slice t.s10.a t.s10.n t.s10.c,.slice t.s11.a t.s11.n t.s11.c] 26)) w'->∀k:Nat,w'.cell? ⟨O.heap.size,k,none⟩=t.v.cells[k]?):=ah (λw' h=>aQ h);have HZ:Hid (O.heap.size<((O.alloc (.cells #[.slice t.s0.a t.s0.n t.s0.c,.slice t.s1.a t.s1.n t.s1.c,.slice t.s2.a t.s2.n t.s2.c,.slice t.s3.a t.s3.n t.s3.c,.slice t.s4.a t.s4.n t.s4.c,.slice t.s5.a t.s5.n t.s5.c,.slice t.s6.a t.s6.n t.s6.c,.slice t.s7.a t.s7.n t.s7.c,.slice t.s8.a t.s8.n t.s8.c,.slice t.s9.a t.s9.n t.s9.c,.slice t.s10.a t.s10.n t.s10.c,.slice t.s11.a t.s11.n t.s11.c] 26))).heap.size):=ah (by simp);clear ht al W;go_wp2_with fail;generalize X:(O.alloc (.cells #[.slice t.s0.a t.s0.n t.s0.c,.slice t.s1.a t.s1.n t.s1.c,.slice t.s2.a t.s2.n t.s2.c,.slice t.s3.a t.s3.n t.s3.c,.slice t.s4.a t.s4.n t.s4.c,.slice t.s5.a t.s5.n t.s5.c,.slice t.s6.a t.s6.n t.s6.c,.slice t.s7.a t.s7.n t.s7.c,.slice t.s8.a t.s8.n t.s8.c,.slice t.s9.a t.s9.n t.s9.c,.slice t.s10.a t.s10.n t.s10.c,.slice t.s11.a t.s11.n t.s11.c] 26))=W1 at*;clear X;have Y:Hid (Ext W1 W1):=ah eR';have an:=ah (λx f=>((J3 m).1 x f).1);have CP:Hid (∀A n c w',Ext W1 w'->oC w' ⟨A,n,c⟩ (pq m)->Calls prog 17 #[t.v,.slice A n c] w' (zx w' (mkE (jX l) (pq m)) (mkS (jX l) (pq m)))):=ah (λA n c w' h hs=>Fz _ t _ A n c w' (HT.out.aC h) hs an.out);have CR:Hid (∀A n c w',Ext W1 w'->oC w' ⟨A,n,c⟩ (pq m)->Calls prog 18 #[t.v,.slice A n c] w' (zx w' (mkE (jX l) (pq m)) (mkS (jX l) (pq m)))):=ah (λA n c w' h hs=>Ox _ t _ A n c w' (HT.out.aC h) hs an.out);have aR:Hid (∀w',Ext W1 w'->Calls prog 17 #[t.v,.slice A3 n3 c3] w' (zx w' (mkE (jX l) R) (mkS (jX l) R))):=ah (λw' h=>Fz _ t _ A3 n3 c3 w' (HT.out.aC h) (HR.out.ext (L.out.trans' h)) HS.out);have aY:Hid (∀w',Ext W1 w'->Calls prog 18 #[t.v,.slice A3 n3 c3] w' (zx w' (mkE (jX l) R) (mkS (jX l) R))):=ah (λw' h=>Ox _ t _ A3 n3 c3 w' (HT.out.aC h) (HR.out.ext (L.out.trans' h)) HS.out);have b3:=ah (OA (jX l) (pq m));have b4:=ah (OA (jX l) R);generalize mkE (jX l) (pq m)=D1 at*;generalize mkS (jX l) (pq m)=S1 at*;generalize mkE (jX l) R=D2 at*;generalize mkS (jX l) R=S2 at*;clear HR HS;have Z:=ah (HM.out.ext L.out);have P:O.heap.size<W1.heap.size:=lt' HZ.out Y.out.b.size;have rT:∀yy:KbW W1.heap.size W1.drew,∀k:Nat,yy.w.cell? ⟨O.heap.size,k,none⟩=t.v.cells[k]? :=λyy k=>(yy.h.cell ⟨O.heap.size,k,none⟩ (by simpa using P) P).trans (gQ.out _ Y.out.dL k)
 refine region_xt W1.heap.size (.two [0,1] 2 (.two [] 3 (.one [4,5,6,7] 8 (.one [9,10] 11 (.last []))) 8 (.one [] 3 (.one [4,5,6,7,9,10] 11 (.last [])))) 8 (.one [] 2 (.one [] 3 (.one [4,5,6,7,9,10] 11 (.last []))))) (by kernel_rfl) (by kernel_rfl) ?_;refine Ij (by repeat(first|exact fE.nil|exact dD.zero|apply dD.succ|apply fE.cons)) (by repeat(first|exact dD.zero|apply dD.succ)) (by repeat(first|exact dD.zero|apply dD.succ)) ?_
 repeat(go_big_quiet_step(fail))
 refine wpQuiet_nil ?_;clear rT;refine⟨?_,?_⟩
 rotate_left
 focus
  go_wp2_with fail;refine vZ (Kb.bY (eR'.aB _)) ?_;refine yg (by repeat(first|exact fE.nil|exact dD.zero|apply dD.succ|apply fE.cons)) (by repeat(first|exact dD.zero|apply dD.succ)) ?_;refine wpQuiet_nil ?_;obtain⟨V,d⟩:=eX' ((W1.alloc (.cells gW 42)).drew);have HV:Hid (Ext W1 V):=ah (by rw[d];exact(eR'.aB _).dL);have HG:Hid (V.heap[W1.heap.size]? =some (.cells gW 42 (0,0))):=ah (by rw[d];exact heap_alloc_new W1 _);have Q:Hid (W1.heap.size<V.heap.size):=ah (by rw[d];simp);rw[<- d];clear d
 rotate_right
 focus
  obtain⟨V,d⟩:=eX' W1.drew;have HV:Hid (Ext W1 V):=ah (by rw[d];exact eR'.dL);rw[<- d];clear d
 all_goals
  go_wp2_with fail;refine(IZ m A2 n2 c2 V (Z.out.ext HV.out)).mono ?_;rintro e i⟨Ar,nr,cr,rfl,S,F⟩;have iM:=ah (oQ.sts S);have K:=ah (HV.out.trans' F);have G:=ah F;go_wp2_with fail;refine vZ (Kb.bY G.out) ?_;clear S F
 focus
  refine Ij (by repeat(first|exact fE.nil|exact dD.zero|apply dD.succ|apply fE.cons)) (by repeat(first|exact dD.zero|apply dD.succ)) (by repeat(first|exact dD.zero|apply dD.succ)) ?_;refine wpQuiet_nil ?_;refine⟨?_,?_⟩
 rotate_left 2
 focus
  refine yg (by repeat(first|exact fE.nil|exact dD.zero|apply dD.succ|apply fE.cons)) (by repeat(first|exact dD.zero|apply dD.succ)) ?_;refine wpQuiet_nil ?_;have H:Hid (i.heap[W1.heap.size]? =some (.cells gW 42 (0,0))):=ah ((G.out.b.block _ Q.out).trans HG.out);have j:Hid (W1.heap.size<i.heap.size):=ah (lt' Q.out G.out.b.size);have y:Hid (W1.heap.size<=W1.heap.size):=ah (lr' _);obtain⟨lC,rfl⟩:=eX' i
 rotate_right 2
 rotate_left
 focus
  go_wp2_with fail;refine vZ (Kb.bY (eR'.aB _)) ?_;refine yg (by repeat(first|exact fE.nil|exact dD.zero|apply dD.succ|apply fE.cons)) (by repeat(first|exact dD.zero|apply dD.succ)) ?_;refine wpQuiet_nil ?_;obtain⟨lC,d⟩:=eX' (i.alloc (.cells gW 42));have f:Ext i lC:=by rw[d];exact eR'.aB _
  have H:Hid (lC.heap[i.heap.size]? =some (.cells gW 42 (0,0))):=ah (by rw[d];exact heap_alloc_new i _);have j:Hid (i.heap.size<lC.heap.size):=ah (by rw[d];simp);have y:Hid (W1.heap.size<=i.heap.size):=ah K.out.b.size;replace iM:=ah (iM.out.ext f);replace K:=ah (K.out.trans' f);rw[<- d];clear d f
 rotate_right
 focus
  obtain⟨lC,rfl⟩:=eX' i
 all_goals
  go_wp2_with fail;refine(CP.out _ _ _ _ (Y.out.trans' K.out) iM.out).mono ?_;rintro e C⟨A5,n5,c5,B5,m5,d5,rfl,⟨q,hq,D,E⟩,I⟩;have M:=ah (K.out.trans' I);have aZ:=ah I;have g:=ah D;have N:=ah E;have HQ:=ah hq;clear I D E hq;go_wp2_with fail;refine vZ (Kb.bY aZ.out) ?_;refine yg (by repeat(first|exact fE.nil|exact dD.zero|apply dD.succ|apply fE.cons)) (by repeat(first|exact dD.zero|apply dD.succ)) ?_
  repeat(go_big_quiet_step(fail))
  refine wpQuiet_nil ?_
 rotate_left 2
 focus
  have z:=ah ((aZ.out.b.block _ j.out).trans H.out);have J:Hid (∀b,(aG A5=some b\/aG B5=some b)->b≠W1.heap.size):=ah (own_ne g.out N.out (lt' j.out HQ.out));obtain⟨r,rfl⟩:=eX' C
 rotate_right 2
 rotate_left
 focus
  have z:=ah ((aZ.out.b.block _ j.out).trans H.out);have J:Hid (∀b,(aG A5=some b\/aG B5=some b)->b≠i.heap.size):=ah (own_ne g.out N.out (lt' j.out HQ.out));obtain⟨r,rfl⟩:=eX' C
 rotate_right
 focus
  go_wp2_with fail;refine vZ (Kb.bY (eR'.aB _)) ?_;refine yg (by repeat(first|exact fE.nil|exact dD.zero|apply dD.succ|apply fE.cons)) (by repeat(first|exact dD.zero|apply dD.succ)) ?_
  repeat(go_big_quiet_step(fail))
  refine wpQuiet_nil ?_;obtain⟨r,d⟩:=eX' (C.alloc (.cells gW 42));have f:Ext C r:=by rw[d];exact eR'.aB _
  have z:Hid (r.heap[C.heap.size]? =some (.cells gW 42 (0,0))):=ah (by rw[d];exact heap_alloc_new C _);have y:Hid (W1.heap.size<=C.heap.size):=ah M.out.b.size;have J:Hid (∀b,(aG A5=some b\/aG B5=some b)->b≠C.heap.size):=ah (XI g.out N.out);replace g:=ah (Own.ext g.out f);replace N:=ah (Own.ext N.out f);replace M:=ah (M.out.trans' f);rw[<- d];clear d f
 all_goals
  go_wp2_with(refine wpList_store_row rfl _ _ _ rfl _ _ rfl rfl 42 gW z.out (by kernel_rfl) rfl (qZ _ _ _ _ _ _ _ _) ?_);refine vZ (XJ y.out _ _) ?_;refine Ux (by repeat(first|exact fE.nil|exact dD.zero|apply dD.succ|apply fE.cons)) ?_;refine wpQuiet_nil ?_;obtain⟨B,X,f,D,E,hr⟩:=XH (rcs D1) M.out y.out z.out g.out N.out J.out;rw[X];have iK:=ah f;have a6:=ah D;have a7:=ah E;have a8:=ah hr;clear X f D E hr
 all_goals
  have T:=ah iK.out;have mZ:=ah (L.out.trans' iK.out);clear iK;go_wp2_with fail;have Z:=ah (HM.out.ext mZ.out);have P:O.heap.size<B.heap.size:=lt' HZ.out T.out.b.size;have rT:∀yy:KbW B.heap.size B.drew,∀k:Nat,yy.w.cell? ⟨O.heap.size,k,none⟩=t.v.cells[k]? :=λyy k=>(yy.h.cell ⟨O.heap.size,k,none⟩ (by simpa using P) P).trans (gQ.out _ T.out.dL k)
  refine region_xt B.heap.size (.two [0,1] 2 (.two [] 3 (.one [4,5,6,7] 8 (.one [9,10] 11 (.last []))) 8 (.one [] 3 (.one [4,5,6,7,9,10] 11 (.last [])))) 8 (.one [] 2 (.one [] 3 (.one [4,5,6,7,9,10] 11 (.last []))))) (by kernel_rfl) (by kernel_rfl) ?_;refine Ij (by repeat(first|exact fE.nil|exact dD.zero|apply dD.succ|apply fE.cons)) (by repeat(first|exact dD.zero|apply dD.succ)) (by repeat(first|exact dD.zero|apply dD.succ)) ?_
  repeat(go_big_quiet_step(fail))
  refine wpQuiet_nil ?_;clear rT;refine⟨?_,?_⟩
  rotate_left
  focus
   go_wp2_with fail;refine vZ (Kb.bY (eR'.aB _)) ?_;refine yg (by repeat(first|exact fE.nil|exact dD.zero|apply dD.succ|apply fE.cons)) (by repeat(first|exact dD.zero|apply dD.succ)) ?_;refine wpQuiet_nil ?_;obtain⟨V,d⟩:=eX' ((B.alloc (.cells gW 42)).drew);have HV:Hid (Ext B V):=ah (by rw[d];exact(eR'.aB _).dL);have HG:Hid (V.heap[B.heap.size]? =some (.cells gW 42 (0,0))):=ah (by rw[d];exact heap_alloc_new B _);have Q:Hid (B.heap.size<V.heap.size):=ah (by rw[d];simp);rw[<- d];clear d
  rotate_right
  focus
   obtain⟨V,d⟩:=eX' B.drew;have HV:Hid (Ext B V):=ah (by rw[d];exact eR'.dL);rw[<- d];clear d
  all_goals
   go_wp2_with fail;refine(IZ m A2 n2 c2 V (Z.out.ext HV.out)).mono ?_;rintro e i⟨Ar,nr,cr,rfl,S,F⟩;have iM:=ah (oQ.sts S);have K:=ah (HV.out.trans' F);have G:=ah F;go_wp2_with fail;refine vZ (Kb.bY G.out) ?_;clear S F
  focus
   refine Ij (by repeat(first|exact fE.nil|exact dD.zero|apply dD.succ|apply fE.cons)) (by repeat(first|exact dD.zero|apply dD.succ)) (by repeat(first|exact dD.zero|apply dD.succ)) ?_;refine wpQuiet_nil ?_;refine⟨?_,?_⟩
  rotate_left 2
  focus
   refine yg (by repeat(first|exact fE.nil|exact dD.zero|apply dD.succ|apply fE.cons)) (by repeat(first|exact dD.zero|apply dD.succ)) ?_;refine wpQuiet_nil ?_;have H:Hid (i.heap[B.heap.size]? =some (.cells gW 42 (0,0))):=ah ((G.out.b.block _ Q.out).trans HG.out);have j:Hid (B.heap.size<i.heap.size):=ah (lt' Q.out G.out.b.size);have y:Hid (B.heap.size<=B.heap.size):=ah (lr' _);obtain⟨lC,rfl⟩:=eX' i
  rotate_right 2
  rotate_left
  focus
   go_wp2_with fail;refine vZ (Kb.bY (eR'.aB _)) ?_;refine yg (by repeat(first|exact fE.nil|exact dD.zero|apply dD.succ|apply fE.cons)) (by repeat(first|exact dD.zero|apply dD.succ)) ?_;refine wpQuiet_nil ?_;obtain⟨lC,d⟩:=eX' (i.alloc (.cells gW 42));have f:Ext i lC:=(by rw[d];exact eR'.aB _);have H:Hid (lC.heap[i.heap.size]? =some (.cells gW 42 (0,0))):=ah (by rw[d];exact heap_alloc_new i _);have j:Hid (i.heap.size<lC.heap.size):=ah (by rw[d];simp);have y:Hid (B.heap.size<=i.heap.size):=ah K.out.b.size;replace iM:=ah (iM.out.ext f);replace K:=ah (K.out.trans' f);rw[<- d];clear d f
  rotate_right
  focus
   obtain⟨lC,rfl⟩:=eX' i
  all_goals
   go_wp2_with fail;refine(CR.out _ _ _ _ (T.out.trans' K.out) iM.out).mono ?_;rintro e C⟨A5,n5,c5,B5,m5,d5,rfl,⟨q,hq,D,E⟩,I⟩;have M:=ah (K.out.trans' I);have aZ:=ah I;have g:=ah D;have N:=ah E;have HQ:=ah hq;clear I D E hq;go_wp2_with fail;refine vZ (Kb.bY aZ.out) ?_;refine yg (by repeat(first|exact fE.nil|exact dD.zero|apply dD.succ|apply fE.cons)) (by repeat(first|exact dD.zero|apply dD.succ)) ?_
   repeat(go_big_quiet_step(fail))
   refine wpQuiet_nil ?_
  rotate_left 2
  focus
   have z:=ah ((aZ.out.b.block _ j.out).trans H.out);have J:Hid (∀b,(aG A5=some b\/aG B5=some b)->b≠B.heap.size):=ah (own_ne g.out N.out (lt' j.out HQ.out));obtain⟨r,rfl⟩:=eX' C
  rotate_right 2
  rotate_left
  focus
   have z:=ah ((aZ.out.b.block _ j.out).trans H.out);have J:Hid (∀b,(aG A5=some b\/aG B5=some b)->b≠i.heap.size):=ah (own_ne g.out N.out (lt' j.out HQ.out));obtain⟨r,rfl⟩:=eX' C
  rotate_right
  focus
   go_wp2_with fail;refine vZ (Kb.bY (eR'.aB _)) ?_;refine yg (by repeat(first|exact fE.nil|exact dD.zero|apply dD.succ|apply fE.cons)) (by repeat(first|exact dD.zero|apply dD.succ)) ?_
   repeat(go_big_quiet_step(fail))
   refine wpQuiet_nil ?_;obtain⟨r,d⟩:=eX' (C.alloc (.cells gW 42));have f:Ext C r:=(by rw[d];exact eR'.aB _);have z:Hid (r.heap[C.heap.size]? =some (.cells gW 42 (0,0))):=ah (by rw[d];exact heap_alloc_new C _);have y:Hid (B.heap.size<=C.heap.size):=ah M.out.b.size;have J:Hid (∀b,(aG A5=some b\/aG B5=some b)->b≠C.heap.size):=ah (XI g.out N.out);replace g:=ah (Own.ext g.out f);replace N:=ah (Own.ext N.out f);replace M:=ah (M.out.trans' f);rw[<- d];clear d f
  all_goals
   go_wp2_with(refine wpList_store_row rfl _ _ _ rfl _ _ rfl rfl 42 gW z.out (by kernel_rfl) rfl (qZ _ _ _ _ _ _ _ _) ?_);refine vZ (XJ y.out _ _) ?_;refine Ux (by repeat(first|exact fE.nil|exact dD.zero|apply dD.succ|apply fE.cons)) ?_;refine wpQuiet_nil ?_;obtain⟨L2,X,f,D,E,hr⟩:=XH (rcs D1) M.out y.out z.out g.out N.out J.out;rw[X];have U:=ah f;have b8:=ah D;have b9:=ah E;have ba:=ah hr;clear X f D E hr
  all_goals
   have a9:=ah (T.out.trans' U.out);replace a6:=ah (a6.out.ext U.out);replace a7:=ah (a7.out.ext U.out);replace a8:=ah (λw'(h:Ext L2 w')=>a8.out w' (U.out.trans' h));have gB:=gQ.out _ a9.out;go_wp2_with fail;refine(aR.out _ a9.out).mono ?_;rintro e v1⟨_,_,_,_,_,_,rfl,⟨_,_,D,E⟩,o⟩;obtain⟨V1,d⟩:=eX' (v1.alloc (.cells (rcs D2) 42));have f:Ext v1 V1:=(by rw[d];exact eR'.aB _);have K:=ah (o.trans' f);have aa:=ah (a9.out.trans' K.out);have bb:=ah ((kE.nms D).ext f);have bc:=ah ((aK.ints E).ext f);have bd:Hid (∀w',Ext V1 w'->∀k:Nat,w'.cell? ⟨v1.heap.size,k,none⟩=(rcs D2)[k]?):=ah (λw' h=>FD _ _ (by rw[d]at h;exact h));have iq:=gQ.out _ aa.out;clear D E o f gB;go_wp2_with(refine wpList_store_row rfl _ _ _ rfl v1.heap.size _ rfl rfl 42 gW (heap_alloc_new v1 _) (by kernel_rfl) rfl (qZ _ _ _ _ _ _ _ _) ?_;rw[World.setRow_alloc_new,<- d];clear d);refine(aY.out _ aa.out).mono ?_;rintro e v2⟨_,_,_,_,_,_,rfl,⟨_,_,D,E⟩,o⟩;obtain⟨V2,d⟩:=eX' (v2.alloc (.cells (rcs D2) 42));have f:Ext v2 V2:=(by rw[d];exact eR'.aB _);have kS:=ah (o.trans' f);have ab:=ah (aa.out.trans' kS.out);have be:=ah ((kE.nms D).ext f);have bh:=ah ((aK.ints E).ext f);have bi:Hid (∀w',Ext V2 w'->∀k:Nat,w'.cell? ⟨v2.heap.size,k,none⟩=(rcs D2)[k]?):=ah (λw' h=>FD _ _ (by rw[d]at h;exact h));have Ee:=gQ.out _ ab.out;clear D E o f iq;go_wp2_with(refine wpList_store_row rfl _ _ _ rfl v2.heap.size _ rfl rfl 42 gW (heap_alloc_new v2 _) (by kernel_rfl) rfl (qZ _ _ _ _ _ _ _ _) ?_;rw[World.setRow_alloc_new,<- d];clear d);clear Ee;refine(J4 _ (ai.out.ext (L.out.trans' ab.out))).mono ?_;rintro e v5⟨rfl,o⟩;have M:=ah o;have J7:=ah (kS.out.trans' o);have DC:=ah (K.out.trans' J7.out);have bj:=ah (ab.out.trans' o);clear o;have b0:((sB D1.2.2).toList==(sB D1.2.2).toList)=true:=beq_self_eq_true _;have b1:((sB D2.2.2).toList==(sB D2.2.2).toList)=true:=beq_self_eq_true _;have b2:((⟨#[]⟩:ByteArray).toList==(⟨#[]⟩:ByteArray).toList)=true:=beq_self_eq_true _;go_wp2_with fail;refine(XC (S1.map Prod.fst) _ _ _ _ _ _ v5 (a6.out.ext DC.out) (b8.out.ext DC.out) (by rw[List.length_map];have:=b3.out;omega)).mono ?_;rintro e v6⟨rfl,o⟩;have eY:=ah o;clear o;go_wp2_with fail;refine(Ja (S1.map λp=>(p.2:Int)) _ _ _ _ _ _ _ v6 (a7.out.ext (DC.out.trans' eY.out)) (b9.out.ext (DC.out.trans' eY.out))).mono ?_;rintro e v7⟨rfl,o⟩;have jA:=ah (eY.out.trans' o);have bl:=a8.out _ (DC.out.trans' jA.out);have bm:=ba.out _ (DC.out.trans' jA.out);rw[(J9 (S1.map λp=>(p.2:Int)) _).2 rfl];clear o;go_wp2_with fail;refine(XC (S2.map Prod.fst) _ _ _ _ _ _ v7 (bb.out.ext (J7.out.trans' jA.out)) (be.out.ext (M.out.trans' jA.out)) (by rw[List.length_map];have:=b4.out;omega)).mono ?_;rintro e v8⟨rfl,o⟩;have pY:=ah (jA.out.trans' o);clear o bl bm;go_wp2_with fail;refine(Ja (S2.map λp=>(p.2:Int)) _ _ _ _ _ _ _ v8 (bc.out.ext (J7.out.trans' pY.out)) (bh.out.ext (M.out.trans' pY.out))).mono ?_;rintro e v9⟨rfl,o⟩;have mW:=ah (pY.out.trans' o);have c4:=bd.out _ (J7.out.trans' mW.out);have c6:=bi.out _ (M.out.trans' mW.out);have f:=L.out.trans' (bj.out.trans' mW.out);rw[(J9 (S2.map λp=>(p.2:Int)) _).2 rfl];clear o;go_wp2;go_ret;exact⟨rfl,f⟩
end Go.Proofs.YtlmkgaoakcjlnaaGreatDoor
namespace Go.Proofs.YtlmkgaoakcjlnaaGreatDoor.lawBMake
set_option maxRecDepth 100000
open Go.ChangeShapes Go.WideShapes Go.ChangeAt Go.RowKit
theorem contract(H:Type)(enc:TypeId×Value->H)(W:World)(c:Nat)(args:Array Value)(w gs:List (DataW H))(b:List MemPlace)
 (a:∀(j:Nat)t v,Tryz.f4.params[j]? =some t->args[j]? =some v->Value.okWide prog W .any c t v)
 (x:DataW.Whole enc prog Tryz.f4.params.toList Rows.bundleMakeSpec.vars false W args.toList w gs b) (hL:laidMetH prog Rows.bundleMakeRow.laid W):
 Calls prog 4 args W λe W'=>∃v,e=.returned v/\Rows.bundleMakeSpec.post enc prog Tryz.f4 false true false false W args v W':=by
 have d:=x;obtain⟨p,q,f,y,m,z,A⟩:=x;have n:DataW.TrodAll enc prog W 0 (λ_=>true) true Tryz.f4.params.toList args.toList w p:=f;rw[params4]at n a;obtain⟨o,Pj,d0,B,p0,q0,g,rfl,rfl,C,D⟩:=trodAll_cons n;obtain⟨r,E,d1,F,p1,q1,rfl,rfl,rfl,G,I⟩:=trodAll_cons D;obtain⟨s,J,d2,K,p2,q2,rfl,rfl,rfl,L,M⟩:=trodAll_cons I;obtain⟨rfl,rfl,rfl⟩:=trodAll_nil M;obtain rfl:args= #[o,r,s]:=by cases args;simp_all
 obtain⟨rfl,rfl⟩:=trodVars_none y;obtain⟨N,O,P,Q,rfl,h⟩:=DF (a 0 22 o rfl rfl) C;obtain⟨R,S,T,U,rfl,i⟩:=DF (a 1 22 r rfl rfl) G;obtain⟨V,X,Y,Z,rfl,k,l⟩:=b1F (a 2 29 s rfl rfl) L;refine(b0j Q U Z N O P R S T V X Y W h i k l (OO hL)).mono λe W'⟨m,hx⟩=>?_
 subst m;exact⟨_,rfl,law_post rfl (by kernel_rfl) (by rw[params4];intro t ht;simp only[List.mem_cons,List.not_mem_nil,or_false]at ht;rcases ht with rfl|rfl|rfl<;>exact⟨by kernel_rfl,of_decide_eq_true (by kernel_rfl)⟩) d hx rfl rfl⟩
theorem door_met(os:Os)(args:Array Value):laidMetH prog Rows.bundleMakeRow.laid ((World.doorLaid prog 400 os).forCall (λ_ _=>0) ⟨#[],args,[]⟩).memory:=
 laidMetH_of_parts3 (fuel:=8) (laidMet_of_run' 8 (by kernel_rfl) (by kernel_rfl)) (by kernel_rfl) (by kernel_rfl)
theorem lifted(os:Os)(a:os.Started)(H:Type)(enc:TypeId×Value->H):
 ReturnsInHanded {} Tryz.checked os 4 .any (λw args=>(Rows.bundleMakeSpec.pre enc prog Tryz.f4 [] false w args/\laidMetH prog Rows.bundleMakeRow.laid w)/\sizedMet enc prog Tryz.f4 (OpenSpec.ofChange Rows.bundleMakeSpec) false w args)
  (Rows.bundleMakeSpec.post enc prog Tryz.f4 false true false false):=by
 refine returnsInHanded_of_change_and (C:=Tryz.checked) (X:=λw _=>laidMetH prog Rows.bundleMakeRow.laid w) (λ_ _ _ f h=>h.of_heap f) own a (by kernel_rfl) func4
  (ChangeSpec.witness_shaped (enc:=enc) (C:=Tryz.checked) (os:=os) (X:=λw _=>laidMetH prog Rows.bundleMakeRow.laid w) false (World.doorLaid prog 400 os) #[.slice none 0 0,.slice none 0 0,.slice none 0 0] 8 rfl (World.shaped_of_RefB (by kernel_rfl) (by kernel_rfl)) (by kernel_rfl) (by kernel_rfl) (by kernel_rfl) (door_met os _)) ?_
 intro W c args g i b d j _ _ k _;exact contract H enc W c args g i b d j k
theorem FH:joinedFacts Tryz.pinned.checked.prog 4 Tryz.f4 Rows.bundleMakeSpec Rows.bundleMakeRow=true:=by kernel_rfl
theorem FI:Tryz.pinned.checked.prog.funcNamed Rows.bundleMakeRow.func=some 4:=by kernel_rfl
theorem said:Rows.BundleMakeSaid:=
 OpenClaim.holds_of_wide 4 Tryz.f4 rfl rfl rfl rfl rfl rfl rfl ⟨rfl,rfl,rfl,rfl,rfl⟩ rfl rfl rfl rfl rfl FI func4 FH
  (of_decide_eq_true (by kernel_rfl)) (by unfold Func.isWrapper;first|(rw[pP' (by decide+kernel)];kernel_rfl)|(rw[nN' (by decide+kernel)];exact⟨rfl,rfl⟩))
  (λc a H b _=>lifted c a H b)
theorem plain(f:FuncId)(a:Func)(c:Tryz.pinned.checked.prog.funcNamed "namedesk/namedesklaw22.BundleMake" =some f)(b:Tryz.pinned.checked.prog.funcs[f]? =some a):
 false=Tryz.pinned.checked.prog.looks []/\∀(j:Nat)t,a.params[j]? =some t->Tryz.pinned.checked.prog.wantsStandIn t=false:=by
 obtain rfl:f=4:=Option.some.inj ((show prog.funcNamed "namedesk/namedesklaw22.BundleMake" =some 4 by kernel_rfl).symm.trans c) |>.symm;obtain rfl:a=Tryz.f4:=(Option.some.inj (func4.symm.trans b)).symm;refine⟨by kernel_rfl,λj t ht=>?_⟩;rw[params4]at ht;have ht:=Array.mem_of_getElem? ht;simp only[List.mem_toArray,List.mem_cons,List.not_mem_nil,or_false]at ht;rcases ht with rfl|rfl|rfl
 .exact(show prog.wantsStandIn 22=false by kernel_rfl)
 .exact(show prog.wantsStandIn 22=false by kernel_rfl)
 .exact(show prog.wantsStandIn 29=false by kernel_rfl)
theorem card:Rows.BundleMakeCardSaid:=
 Claim7.holds_tied_plain_at .later [] _ _ _ _ said (λ_ h=>by cases h) (by kernel_rfl) (λ_ h=>by cases h) bundleMake_row_tie rfl ⟨rfl,rfl⟩ (by kernel_rfl) rfl plain (by kernel_rfl)
#print axioms card
end Go.Proofs.YtlmkgaoakcjlnaaGreatDoor.lawBMake
