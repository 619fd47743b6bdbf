/- Part Yc18. -/
import Derived.Test.YtjccgagakfndpaaGreatDoorYc17
open Go.Proofs.Tryz
namespace Go.Proofs.YtjccgagakfndpaaGreatDoor
set_option maxHeartbeats 25600000
set_option maxRecDepth 100000
open Go.RowKit
theorem Ru (b:Int):∀ (ds:List (Option Int)) (j v w x:Int) (r:List (Option Int)),jE b ds j v w=some (x,r)→r.length<ds.length
 |[],_,_,_,_,_,h=>by cases h
 |none::_,_,_,_,_,_,h=>by cases h
 |some d::ds,j,v,w,x,r,h=>by
  unfold jE at h;split at h
  ·injection h with h;injection h with _ h;subst h;simp
  ·have:=Ru b ds _ _ _ _ _ h;simp only [List.length_cons];omega
theorem Rt:∀ (g:Nat) (ds:List (Option Int)) (o:List Int) (n i b:Int) (f:Bool) (l:List Int),0≤i→decP g ds o n i b f= .ok l→l.length≤o.length+ds.length
 |0,_,o,_,_,_,_,l,_,h=>by
  unfold decP at h;injection h with h;subst h;omega
 |g+1,ds,o,n,i,b,f,l,hi,h=>by
  by_cases a:ds=[]
  ·subst a;unfold decP at h;injection h with h;subst h;simp
  ·rw [Jz a] at h;split at h
   ·cases h
   ·rename_i v r c;have j:=Ru b ds 0 0 1 v r c;split at h
    ·cases h
    ·split at h
     ·cases h
     ·have k:=Int.emod_nonneg (v+i) (b:=(o.length:Int)+1) (by omega);have d:=Int.emod_lt_of_pos (v+i) (b:=(o.length:Int)+1) (by omega);have:=Rt g r _ _ _ _ _ l (by omega) h;rw [Ap _ _ _ (by omega)] at this;omega
theorem KD (s:List Int):(pdU s).1.length≤s.length:=by
 unfold pdU;split
 ·simp
 ·split
  ·simp
  ·cases a:decP (pX s).length ((pX s).map fD) (s.take (hyB s)) 128 0 72 true with
   |BG=>simp [resD]
   |over=>simp [resD]
   |ok l=>
    have h:=Rt _ _ _ _ _ _ _ l (by omega) a;simp only [resD];unfold pX at h;split at h
    ·rename_i b;rw [b] at h;simpa using h
    ·simp at h;omega
theorem Ry (l:List Int):IsB (alE l).1:=by
 unfold alE;split
 ·exact Aa
 ·split
  ·rename_i b;split
   ·exact Aa
   ·intro x a;have:=FZ b x a;omega
  ·split
   ·exact Aa
   ·rename_i c;split
    ·exact Aa
    ·exact EY (by intro x a;simp at a;omega) (Rj l (by omega))
def aMe (w1:World) (s:List Int) (g:Nat) (so si:Value) (wx:World):Prop:=
 ∃ (A:Option Addr) (c k:Nat),g+k=s.length∧si= .int .i64 k∧so= .slice A k c∧aK wx w1.heap.size A k c (s.take k)∧Ext w1 wx∧Hid ((s.take k).any (fun b=>decide (127<b))=false)
theorem aMi (s:List Int) (hs:IsB s) (hm:s.length≤1000000) (w:World):Calls prog 144 #[.string (sB s)] w (BK w (alD s)):=by
 have d:Hid (alD s=if s.length=0 then ([],10) else if s.any (fun b=>decide (127<b)) then ([],12) else if 63<s.length then ([],11) else if isX s=false then (s,0)
  else if (pdU (fJ (s.drop 4))).2≠0 then ([],(pdU (fJ (s.drop 4))).2) else if jR (pdU (fJ (s.drop 4))).1=true then ([],12)
  else if (alE (pdU (fJ (s.drop 4))).1).2≠0∨(alE (pdU (fJ (s.drop 4))).1).1≠fJ s then ([],12) else ((pdU (fJ (s.drop 4))).1,0)):=rfl
 have p:=ah hs;generalize alD s=D at*;clear hs;have r:=zl s;by_cases I:s.length=0
 ·rw [if_pos I] at d;rw [List.eq_nil_of_length_eq_zero I,show ([]:List Int).isEmpty=true from rfl] at r;rw [List.eq_nil_of_length_eq_zero I];clear I;go_enter func144,ntmps144;go_wp2_with fail;go_ret2;exact ⟨none,0,0,by rw [d.out];rfl,by rw [d.out];exact aC.nil_ w,Ext.refl _⟩
 rw [if_neg I] at d;rw [show s.isEmpty=false from by cases s with|nil=>exact absurd rfl I|cons a b=>rfl] at r;obtain ⟨cc,w1,ac,K,L,_⟩:=EX (w:=w) p.out (by omega);have ad:=ah K;have M:=ah L;go_enter func144,ntmps144;go_wp2_with fail;clear r ac K L;go_loopg [4,15] s.length (fun gh so si wx=>aMe w1 s gh so si wx)
 case atStart=>exact ⟨none,0,0,by omega,rfl,rfl,Own.nil_ _ _ _ _,Ext.refl _,rfl⟩
 case round=>
  obtain ⟨A,c,k,hg,rfl,rfl,o,N,O⟩:=hrel;have HO:=ah o;have Q:=ah N;clear o N;by_cases J:k<s.length
  ·have hr:=vM p.out k;obtain ⟨b',o',hA,ag⟩:=(ad.out.ext Q.out).at_ J;injection hA with hA;injection hA with e1 e2;subst e1 e2;rw [Nat.zero_add,← getD_lt s k 0 J] at ag;have t:=ah (wV (f:=fun b=>decide (127<b)) J);have x:=ah (anyM (f:=fun b=>decide (127<b)) J);have HT:Hid (s.take (k+1)=s.take k++[s[k]]):=ah (List.take_succ_eq_append_getElem J);rw [← getD_lt s k 0 J] at t x HT;generalize s.getD k 0=y at*;by_cases R:127<y
   ·have HF:Hid (D=([],12)):=ah (by rw [d.out,if_pos (x.out (by simp [R]))]);have g:=M.out.trans' Q.out;go_wp2_with fail;go_ret2;exact ⟨none,0,0,by rw [HF.out];rfl,by rw [HF.out];exact aC.nil_ _,g⟩
   ·have al:Hid ((s.take (k+1)).any (fun b=>decide (127<b))=false):=ah (by rw [t.out,O.out];simp;omega);obtain ⟨A5,c5,w5,S,i,j,_⟩:=wU HO.out Q.out y (by omega);have bf:Hid (aK w5 w1.heap.size A5 (k+1) c5 (s.take (k+1))):=ah (by rw [HT.out];exact i);have T:=ah j;clear i j O t x HT;go_wp2_with (at_builtin;refine dL rfl _ _ _ rfl _ _ rfl rfl _ _ S ?_);go_roundg (s.length - (k+1))
    case measure=>omega
    case rel=>exact ⟨A5,c5,k+1,by omega,by go_num,rfl,bf.out,T.out,al⟩
  ·have he:s.take k=s:=List.take_of_length_le (by omega);rw [he] at HO O;rw [if_neg (by rw [O.out];simp)] at d;have z:=ah (M.out.trans' Q.out);have U:=ah (aK.ints HO.out);have be:k≤s.length∧s.length≤k:=(by omega);clear O HO he Q;generalize wr=w3 at*;by_cases V:63<s.length
   ·rw [if_pos V] at d;have g:=z.out;go_wp2_with fail;go_ret2;exact ⟨none,0,0,by rw [d.out];rfl,by rw [d.out];exact aC.nil_ _,g⟩
   rw [if_neg V] at d;have B:=ah (Rl s p.out w3);obtain ⟨X,hX⟩:∃ X,isX s=X:=⟨_,rfl⟩
   have eX:Hid (X=true→4≤s.length):=ah (by
    intro h;rw [← hX] at h;unfold isX at h;rw [aV] at h
    exact of_decide_eq_true h.1)
   rw [hX] at d B;clear hX;go_wp2_with fail;refine B.out.mono ?_;rintro e w4 ⟨rfl,C⟩;have T:=ah (z.out.trans' C);have D8:=ah (U.out.ext C);clear B C z U;cases X
   ·rw [if_pos rfl] at d;have g:=T.out;have hi:=D8.out;go_wp2_with fail;go_ret2;exact ⟨A,_,c,by rw [d.out];rfl,by rw [d.out];exact hi,g⟩
   rw [if_neg (by simp)] at d;have h4:=eX.out rfl;have Y:∀ W,(Instr.slice 9 (.string (sB s)) (some (.int .i64 4)) none none).run prog W= .ok (.string (sB (s.drop 4))) W:=fun W=>Bg W (l:=s) (k:=4) h4
   have Z:(s.drop 4).length≤63:=(by rw [List.length_drop];omega);have a0:=ah (Kv (s.drop 4) (yR p.out 4) (by omega) w4);have E5:=ah (fun W=>Kv s p.out (by omega) W);have ap:=ah (BM (yR p.out 4));have a1:=ah (KD (fJ (s.drop 4)));have bi:(fJ (s.drop 4)).length≤63:=(by rw [BL];exact Z);have a2:=ah (fun W=>aJw (fJ (s.drop 4)) ap.out W);have aq:=ah (BM p.out);clear eX Z;generalize s.drop 4=s4 at*;generalize fJ s4=u at*;generalize fJ s=sl at*;go_wp2_with fail;refine a0.out.mono ?_;rintro e w5 ⟨rfl,j⟩;have kT:=ah (T.out.trans' j);clear a0 j T D8 Y;go_wp2_with fail;refine (a2.out w5).mono ?_;rintro e w6 ⟨A6,n6,c6,rfl,tq,a3⟩;have wu:=ah (kT.out.trans' a3);have ay:=a1.out;generalize pdU u=P at*;obtain ⟨q,pe⟩:=P;simp only at d tq ay;have az:=tq.len.1;subst az;have uq:=ah tq;clear kT a3 tq a2 a1;by_cases F:pe=0
   case neg=>
    rw [if_pos F] at d;have g:=wu.out;go_wp2_with fail;go_ret2;exact ⟨none,0,0,by rw [d.out];rfl,by rw [d.out];exact aC.nil_ _,g⟩
   rw [if_neg (by rw [F];simp)] at d;subst F;have a4:=ah (fun W (h:Ext w6 W)=>Ky q A6 q.length c6 W (uq.out.ext h));have a5:=ah (Rn q A6 q.length c6 w6 uq.out (by omega));have a6:=ah (Ry q);generalize jR q=av at*;generalize alE q=E at*;obtain ⟨ae,ee⟩:=E;simp only at d a6;have a7:=yT a6.out aq.out;go_wp2_with fail;refine (a4.out w6 (Ext.refl _)).mono ?_;rintro e w' ⟨rfl,rfl⟩;cases av
   case true=>
    rw [if_pos rfl] at d;have g:=wu.out;go_wp2_with fail;go_ret2;exact ⟨none,0,0,by rw [d.out];rfl,by rw [d.out];exact aC.nil_ _,g⟩
   rw [if_neg (by simp)] at d;go_wp2_with fail;refine a5.out.mono ?_;rintro e w7 ⟨rfl,G⟩;have rF:=ah (wu.out.trans' G);have aE:=ah (uq.out.ext G);clear wu G uq a5 a4;by_cases H:ee=0
   case neg=>
    rw [if_pos (.inl H)] at d;have bl:(ee != 0)=true:=bN' H;have g:=rF.out;go_wp2_with fail;go_ret2;exact ⟨none,0,0,by rw [d.out];rfl,by rw [d.out];exact aC.nil_ _,g⟩
   subst H;by_cases m:ae=sl
   ·rw [if_neg (by simp [m])] at d;rw [decide_eq_true m] at a7;go_wp2_with fail;refine (E5.out _).mono ?_;rintro e w8 ⟨rfl,n⟩;have g:=rF.out.trans' n;have hi:=aE.out.ext n;go_wp2_with fail;go_ret2;exact ⟨A6,_,c6,by rw [d.out];rfl,by rw [d.out];exact hi,g⟩
   ·rw [if_pos (.inr m)] at d;rw [decide_eq_false m] at a7;go_wp2_with fail;refine (E5.out _).mono ?_;rintro e w8 ⟨rfl,n⟩;have g:=rF.out.trans' n;go_wp2_with fail;go_ret2;exact ⟨none,0,0,by rw [d.out];rfl,by rw [d.out];exact aC.nil_ _,g⟩
def aMd (w1:World) (s:List Int) (g:Nat) (so si:Value) (wx:World):Prop:=
 ∃ (A:Option Addr) (c k:Nat),g+k=s.length∧si= .int .i64 k∧so= .slice A k c∧aK wx w1.heap.size A k c (s.take k)∧Ext w1 wx∧Hid ((s.take k).any (fun b=>decide (127<b))=false)
theorem aMh (s:List Int) (hs:IsB s) (hm:s.length≤1000000) (w:World):Calls prog 55 #[.string (sB s)] w (BK w (alD s)):=by
 have d:Hid (alD s=if s.length=0 then ([],10) else if s.any (fun b=>decide (127<b)) then ([],12) else if 63<s.length then ([],11) else if isX s=false then (s,0)
  else if (pdU (fJ (s.drop 4))).2≠0 then ([],(pdU (fJ (s.drop 4))).2) else if jR (pdU (fJ (s.drop 4))).1=true then ([],12)
  else if (alE (pdU (fJ (s.drop 4))).1).2≠0∨(alE (pdU (fJ (s.drop 4))).1).1≠fJ s then ([],12) else ((pdU (fJ (s.drop 4))).1,0)):=rfl
 have r:=ah hs;generalize alD s=D at*;clear hs;have t:=zl s;by_cases I:s.length=0
 ·rw [if_pos I] at d;rw [List.eq_nil_of_length_eq_zero I,show ([]:List Int).isEmpty=true from rfl] at t;rw [List.eq_nil_of_length_eq_zero I];clear I;go_enter func55,ntmps55;go_wp2_with fail;go_ret2;exact ⟨none,0,0,by rw [d.out];rfl,by rw [d.out];exact aC.nil_ w,Ext.refl _⟩
 rw [if_neg I] at d;rw [show s.isEmpty=false from by cases s with|nil=>exact absurd rfl I|cons a b=>rfl] at t;have J:Hid (Ext w w):=ah (Ext.refl _);go_enter func55,ntmps55;go_wp2_with fail;clear t;go_loopg [4,5] s.length (fun gh so si wx=>aMd w s gh so si wx)
 case atStart=>exact ⟨none,0,0,by omega,rfl,rfl,Own.nil_ _ _ _ _,Ext.refl _,rfl⟩
 case round=>
  obtain ⟨A,c,k,hg,rfl,rfl,p,K,L⟩:=hrel;have HO:=ah p;have HX:=ah K;clear p K;by_cases M:k<s.length
  ·have hr:=vM r.out k;have b5:∀ W,(Instr.index 9 (.string (sB s)) (.int .i64 (k:Int))).run prog W= .ok (.int .u8 (s.getD k 0)) W:=ixc r.out M;have x:=ah (wV (f:=fun b=>decide (127<b)) M);have z:=ah (anyM (f:=fun b=>decide (127<b)) M);have HT:Hid (s.take (k+1)=s.take k++[s[k]]):=ah (List.take_succ_eq_append_getElem M);rw [← getD_lt s k 0 M] at x z HT;generalize s.getD k 0=y at*;by_cases N:127<y
   ·have HF:Hid (D=([],12)):=ah (by rw [d.out,if_pos (z.out (by simp [N]))]);have g:=J.out.trans' HX.out;go_wp2_with fail;go_ret2;exact ⟨none,0,0,by rw [HF.out];rfl,by rw [HF.out];exact aC.nil_ _,g⟩
   ·have ab:Hid ((s.take (k+1)).any (fun b=>decide (127<b))=false):=ah (by rw [x.out,L.out];simp;omega);obtain ⟨A5,c5,w5,O,i,j,_⟩:=wU HO.out HX.out y (by omega);have bf:Hid (aK w5 w.heap.size A5 (k+1) c5 (s.take (k+1))):=ah (by rw [HT.out];exact i);have Q:=ah j;clear i j L x z HT;go_wp2_with (at_builtin;refine dL rfl _ _ _ rfl _ _ rfl rfl _ _ O ?_);go_roundg (s.length - (k+1))
    case measure=>omega
    case rel=>exact ⟨A5,c5,k+1,by omega,by go_num,rfl,bf.out,Q.out,ab⟩
  ·have he:s.take k=s:=List.take_of_length_le (by omega);rw [he] at HO L;rw [if_neg (by rw [L.out];simp)] at d;have B:=ah (J.out.trans' HX.out);have R:=ah (aK.ints HO.out);have b7:k≤s.length∧s.length≤k:=(by omega);clear L HO he HX;generalize wr=w3 at*;by_cases S:63<s.length
   ·rw [if_pos S] at d;have g:=B.out;go_wp2_with fail;go_ret2;exact ⟨none,0,0,by rw [d.out];rfl,by rw [d.out];exact aC.nil_ _,g⟩
   rw [if_neg S] at d;have C:=ah (Rk s r.out w3);obtain ⟨X,hX⟩:∃ X,isX s=X:=⟨_,rfl⟩
   have eX:Hid (X=true→4≤s.length):=ah (by
    intro h;rw [← hX] at h;unfold isX at h;rw [aV] at h
    exact of_decide_eq_true h.1)
   rw [hX] at d C;clear hX;go_wp2_with fail;refine C.out.mono ?_;rintro e w4 ⟨rfl,F⟩;have Q:=ah (B.out.trans' F);have D8:=ah (R.out.ext F);clear C F B R;cases X
   ·rw [if_pos rfl] at d;have g:=Q.out;have hi:=D8.out;go_wp2_with fail;go_ret2;exact ⟨A,_,c,by rw [d.out];rfl,by rw [d.out];exact hi,g⟩
   rw [if_neg (by simp)] at d;have h4:=eX.out rfl;have T:∀ W,(Instr.slice 9 (.string (sB s)) (some (.int .i64 4)) none none).run prog W= .ok (.string (sB (s.drop 4))) W:=fun W=>Bg W (l:=s) (k:=4) h4
   have U:(s.drop 4).length≤63:=(by rw [List.length_drop];omega);have V:=ah (Kt (s.drop 4) (yR r.out 4) (by omega) w4);have E5:=ah (fun W=>Kt s r.out (by omega) W);have ag:=ah (BM (yR r.out 4));have Y:=ah (KD (fJ (s.drop 4)));have ba:(fJ (s.drop 4)).length≤63:=(by rw [BL];exact U);have Z:=ah (fun W=>aKV (fJ (s.drop 4)) ag.out W);have ai:=ah (BM r.out);clear eX U;generalize s.drop 4=s4 at*;generalize fJ s4=u at*;generalize fJ s=sl at*;go_wp2_with fail;refine V.out.mono ?_;rintro e w5 ⟨rfl,j⟩;have kT:=ah (Q.out.trans' j);clear V j Q D8 T;go_wp2_with fail;refine (Z.out w5).mono ?_;rintro e w6 ⟨A6,n6,c6,rfl,tq,a0⟩;have wu:=ah (kT.out.trans' a0);have ao:=Y.out;generalize pdU u=P at*;obtain ⟨q,pe⟩:=P;simp only at d tq ao;have ap:=tq.len.1;subst ap;have uq:=ah tq;clear kT a0 tq Z Y;by_cases G:pe=0
   case neg=>
    rw [if_pos G] at d;have g:=wu.out;go_wp2_with fail;go_ret2;exact ⟨none,0,0,by rw [d.out];rfl,by rw [d.out];exact aC.nil_ _,g⟩
   rw [if_neg (by rw [G];simp)] at d;subst G;have a1:=ah (fun W (h:Ext w6 W)=>Kw q A6 q.length c6 W (uq.out.ext h));have a2:=ah (Rw q A6 q.length c6 w6 uq.out (by omega));have a3:=ah (Ry q);generalize jR q=av at*;generalize alE q=E at*;obtain ⟨ae,ee⟩:=E;simp only at d a3;have a4:=yT a3.out ai.out;go_wp2_with fail;refine a2.out.mono ?_;rintro e w7 ⟨rfl,m⟩;have rF:=ah (wu.out.trans' m);have aq:=ah (uq.out.ext m);have ar:=ah (a1.out w7 m);clear wu m uq a2 a1;go_wp2_with fail;refine ar.out.mono ?_;rintro e w' ⟨rfl,rfl⟩;cases av
   case true=>
    rw [if_pos rfl] at d;have g:=rF.out;go_wp2_with fail;go_ret2;exact ⟨none,0,0,by rw [d.out];rfl,by rw [d.out];exact aC.nil_ _,g⟩
   rw [if_neg (by simp)] at d;by_cases H:ee=0
   case neg=>
    rw [if_pos (.inl H)] at d;have be:(ee != 0)=true:=bN' H;have g:=rF.out;go_wp2_with fail;go_ret2;exact ⟨none,0,0,by rw [d.out];rfl,by rw [d.out];exact aC.nil_ _,g⟩
   subst H;by_cases n:ae=sl
   ·rw [if_neg (by simp [n])] at d;rw [decide_eq_true n] at a4;go_wp2_with fail;refine (E5.out _).mono ?_;rintro e w8 ⟨rfl,o⟩;have g:=rF.out.trans' o;have hi:=aq.out.ext o;go_wp2_with fail;go_ret2;exact ⟨A6,_,c6,by rw [d.out];rfl,by rw [d.out];exact hi,g⟩
   ·rw [if_pos (.inr n)] at d;rw [decide_eq_false n] at a4;go_wp2_with fail;refine (E5.out _).mono ?_;rintro e w8 ⟨rfl,o⟩;have g:=rF.out.trans' o;go_wp2_with fail;go_ret2;exact ⟨none,0,0,by rw [d.out];rfl,by rw [d.out];exact aC.nil_ _,g⟩
noncomputable def oJ (l:List Int):List Int × Int:=if (jR l&&isX l)=true then alD l else (l,0)
noncomputable def gY (T:ak) (l:List Int):List Int × Int:=if (oJ l).2≠0 then ([],(oJ l).2) else if iq T (oJ l).1≠0 then ([],iq T (oJ l).1) else ((oJ l).1,0)
theorem Uc {l:List Int} (h:jR l=true):∀ c∈l,0≤c∧c≤127:=by
 intro c a;unfold jR at h;rw [Bool.not_eq_true',List.any_eq_false] at h;have:=h c a;simp only [Bool.or_eq_true,au] at this;omega
theorem KZ {l:List Int} (h:jR l=true):IsB l:=fun c a=>by
 have:=Uc h c a;omega
theorem Ub:∀ {l:List Int},(∀ c∈l,0≤c∧c≤127)→mX l=l
 |[],_=>rfl
 |x::r,h=>by
  have a:=Ub fun c b=>h c (List.mem_cons_of_mem _ b)
  have d:=h x (List.mem_cons_self ..);show enc1 x++mX r=x::r
  rw [a,enc1,if_pos d.2];rfl
theorem aQw {l:List Int} (h:jR l=true) (i:l.length≤4096):oQ l=(l,0):=by
 have a:=Uc h;unfold oQ;rw [if_neg (by omega),if_neg,Ub a];intro b;rw [List.any_eq_true] at b;obtain ⟨c,f,d⟩:=b;have:=a c f;have g:aX c=true:=by simp only [aX,aV,Bool.or_eq_true,au];omega
 rw [g] at d;cases d
theorem aR3 (T:ak) (t:TV) (l:List Int) (A:Option Addr) (n c:Nat) (w:World) (ht:aS w t T) (O:aC w ⟨A,n,c⟩ l) (hm:l.length≤4096):
 Calls prog 100 #[t.v,.slice A n c] w (BK w (gY T l)):=by
 have s:=dS w t;have G:=ah s;have HT:=ah (ht.aF s);have S:=ah (O.ext s);have P:=ah (Ky l A n c _ S.out);have C:Hid (gY T l=if (oJ l).2≠0 then ([],(oJ l).2) else if iq T (oJ l).1≠0 then ([],iq T (oJ l).1) else ((oJ l).1,0)):=rfl;have i:Hid (oJ l=if (jR l&&isX l)=true then alD l else (l,0)):=rfl;generalize gY T l=D at*;generalize oJ l=E at*;have L:Hid (∀ b,Ext (tW' w t) b→Calls prog 145 #[t.v,.slice A n c] b fun e x=>e= .returned (.int .i64 (iq T l))∧Ext b x):=ah (fun b h=>UN T t l A n c b (HT.out.aF h) (S.out.ext h));cases F:jR l
 ·rw [F] at P;have K:=ah (i.out.trans (by rw [F];rfl:_=(l,(0:Int))));have q:=C;rw [K.out] at q;have j:Hid (D=if iq T l≠0 then ([],iq T l) else (l,0)):=ah q.out;clear ht O s hm F q C i K;generalize iq T l=v at*;go_enter func100,ntmps100;go_wp2_with fail;refine P.out.mono ?_;rintro e w0 ⟨rfl,rfl⟩;go_wp2_with fail;refine (L.out _ (Ext.refl _)).mono ?_;rintro e w4 ⟨rfl,a⟩;have y:=ah (S.out.ext a);have r:=G.out.trans' a;clear a;by_cases f:v=0
  ·have g:=ah (j.out.trans (if_neg (by rw [f];simp)));have Q:(v != 0)=false:=bZ' f;clear f;go_wp2_with fail;go_ret2;exact ⟨A,n,c,by rw [g.out];rfl,by rw [g.out];exact y.out,r⟩
  ·have g:=ah (j.out.trans (if_pos f));have Q:(v != 0)=true:=bN' f;clear f;go_wp2_with fail;go_ret2;exact ⟨none,0,0,by rw [g.out];rfl,by rw [g.out];exact aC.nil_ _,r⟩
 ·rw [F] at P;have X:=ah (uenc_spec l A n c (tW' w t) S.out);rw [aQw F hm] at X;have U:Hid (∀ b:World,Calls prog 143 #[.string (sB l)] b fun e x=>e= .returned (.bool (isX l))∧Ext b x):=ah fun b=>Rl l (KZ F) b
  have M:Hid (∀ b:World,Calls prog 144 #[.string (sB l)] b (BK b (alD l))):=ah fun b=>aMi l (KZ F) (by omega) b
  rw [F] at i;cases r:isX l
  ·rw [r] at U i;have K:=ah (i.out.trans (by rfl:_=(l,(0:Int))));have q:=C;rw [K.out] at q;have j:Hid (D=if iq T l≠0 then ([],iq T l) else (l,0)):=ah q.out;clear ht O s hm F q C i K r M;generalize iq T l=v at*;go_enter func100,ntmps100;go_wp2_with fail;refine P.out.mono ?_;rintro e w0 ⟨rfl,rfl⟩;go_wp2_with fail;refine (X.out).mono ?_;rintro e V ⟨rfl,o⟩;go_wp2_with fail;refine (U.out V).mono ?_;rintro e R ⟨rfl,p⟩;have H:=ah (o.trans' p);have rT:∀ k:Nat,R.cell? ⟨w.heap.size,k,none⟩=t.v.cells[k]? :=aQ H.out;clear o p;go_wp2_with fail;refine (L.out R H.out).mono ?_;rintro e w4 ⟨rfl,a⟩;have y:=ah (S.out.ext (H.out.trans' a));have r:=G.out.trans' (H.out.trans' a);clear a rT;by_cases f:v=0
   ·have g:=ah (j.out.trans (if_neg (by rw [f];simp)));have Q:(v != 0)=false:=bZ' f;clear f;go_wp2_with fail;go_ret2;exact ⟨A,n,c,by rw [g.out];rfl,by rw [g.out];exact y.out,r⟩
   ·have g:=ah (j.out.trans (if_pos f));have Q:(v != 0)=true:=bN' f;clear f;go_wp2_with fail;go_ret2;exact ⟨none,0,0,by rw [g.out];rfl,by rw [g.out];exact aC.nil_ _,r⟩
  ·rw [r] at U i;have K:=ah (i.out.trans (by rfl:_=alD l));rw [K.out] at C;clear ht O s hm F i K r L;generalize alD l=Y at*;obtain ⟨m,ev⟩:=Y;simp only [] at C;by_cases I:ev=0
   ·subst I;have j:Hid (D=if iq T m≠0 then ([],iq T m) else (m,0)):=ah C.out;have a3:Hid (∀ B k d b,Ext (tW' w t) b→aC b ⟨B,k,d⟩ m→Calls prog 145 #[t.v,.slice B k d] b fun e x=>e= .returned (.int .i64 (iq T m))∧Ext b x):=ah (fun B k d b h O=>UN T t m B k d b (HT.out.aF h) O);generalize iq T m=v at*;clear C;go_enter func100,ntmps100;go_wp2_with fail;refine P.out.mono ?_;rintro e w0 ⟨rfl,rfl⟩;go_wp2_with fail;refine (X.out).mono ?_;rintro e V ⟨rfl,o⟩;go_wp2_with fail;refine (U.out V).mono ?_;rintro e R ⟨rfl,p⟩;go_wp2_with fail;refine (M.out R).mono ?_;rintro e Z ⟨B,k,d,rfl,J,z⟩;have N:Hid (Ext (tW' w t) Z):=ah ((o.trans' p).trans' z);have W:=ah J;have rT:∀ k:Nat,Z.cell? ⟨w.heap.size,k,none⟩=t.v.cells[k]? :=aQ N.out;clear o p z J;go_wp2_with fail;refine (a3.out B k d Z N.out W.out).mono ?_;rintro e w4 ⟨rfl,a⟩;have y:=ah (W.out.ext a);have r:=(G.out.trans' N.out).trans' a;clear a rT;by_cases f:v=0
    ·have g:=ah (j.out.trans (if_neg (by rw [f];simp)));have Q:(v != 0)=false:=bZ' f;clear f;go_wp2_with fail;go_ret2;exact ⟨B,k,d,by rw [g.out];rfl,by rw [g.out];exact y.out,r⟩
    ·have g:=ah (j.out.trans (if_pos f));have Q:(v != 0)=true:=bN' f;clear f;go_wp2_with fail;go_ret2;exact ⟨none,0,0,by rw [g.out];rfl,by rw [g.out];exact aC.nil_ _,r⟩
   ·have g:=ah (C.out.trans (if_pos I));have Q:(ev != 0)=true:=bN' I;clear I C;go_enter func100,ntmps100;go_wp2_with fail;refine P.out.mono ?_;rintro e w0 ⟨rfl,rfl⟩;go_wp2_with fail;refine (X.out).mono ?_;rintro e V ⟨rfl,o⟩;go_wp2_with fail;refine (U.out V).mono ?_;rintro e R ⟨rfl,p⟩;go_wp2_with fail;refine (M.out R).mono ?_;rintro e Z ⟨B,k,d,rfl,J,z⟩;have r:=((G.out.trans' o).trans' p).trans' z;clear o p z J;go_wp2_with fail;go_ret2;exact ⟨none,0,0,by rw [g.out];rfl,by rw [g.out];exact aC.nil_ _,r⟩
theorem aC.Le {w:World} {s z:SV} {l:List Int} (h:aC w s l) {p:Addr} (c:w.cell? p=some z.v) (v:Value):aC (w.setCell p v) s l:=
 ⟨h.1,fun i x d=>by
  obtain ⟨b,o,f,a⟩:=h.2 i x d;refine ⟨b,o,f,?_⟩;rw [World.cell?_setCell_other _ _ _ _ (fun e=> ?_)]
  ·exact a
  ·subst e;rw [a] at c
   cases c⟩
structure LsP (w0 w:World) (g N C:Nat) (S:List SV) (ls:List (List Int)):Prop where
 own:Aq w w0.heap.size (some ⟨g,0,none⟩) N C S
 eq:S.length=N
 len:ls.length=N
 ok:∀ (i:Nat) s x,S[i]? =some s→ls[i]? =some x→aC w s x
 ext:Ext w0 w
theorem BN.lsp {a w:World} {A:Option Addr} {N C:Nat} {ls:List (List Int)} (h:BN a w A N C ls) (l:Ext a w):∃ g S,A=some ⟨g,0,none⟩∧LsP a w g N C S ls:=by
 obtain ⟨g,S,rfl,b,c,d,f⟩:=h;exact ⟨g,S,rfl,b,c,d,fun i s x j k=>(f i s x j k).1,l⟩
theorem LsP.aF {b w w':World} {g N C:Nat} {S:List SV} {ls:List (List Int)} (h:LsP b w g N C S ls) (a:Ext w w'):LsP b w' g N C S ls:=
 ⟨Own.ext h.own a,h.eq,h.len,fun i s x c d=>(h.ok i s x c d).ext a,h.ext.trans' a⟩
theorem LsP.lists {l w:World} {g N C:Nat} {S:List SV} {ls:List (List Int)} (h:LsP l w g N C S ls):oG w ⟨some ⟨g,0,none⟩,N,C⟩ ls:=by
 obtain ⟨j,k⟩:=Own.le h.own;have m:=h.eq;have d:=h.len;refine ⟨⟨d.symm,by rw [d];exact j,k⟩,fun i x f=> ?_⟩;have o:=(List.getElem?_eq_some_iff.1 f).1;have b:i<S.length:=by omega
 refine ⟨g,0,S[i].a,S[i].n,S[i].c,rfl,?_,h.ok i S[i] x (List.getElem?_eq_getElem b) f⟩;have:=World.ownsRow.cellAt h.own i (by simp;omega);rw [Nat.zero_add,this,List.getElem?_map,List.getElem?_eq_getElem b];rfl
theorem LsP.set {m w:World} {g N C:Nat} {S:List SV} {ls:List (List Int)} (h:LsP m w g N C S ls) {i:Nat} (q:i<N) {z:SV} {x:List Int} (p:aC w z x):LsP m (w.setCell ⟨g,i,none⟩ z.v) g N C (S.set i z) (ls.set i x):=by
 have n:=h.eq;have o:=h.len;have c:i<S.length:=by omega
 have d:=Own.lt h.own g rfl;have k:w.cell? ⟨g,i,none⟩=some (S[i]).v:=by
  have:=World.ownsRow.cellAt h.own i (by simp;omega);rw [this,List.getElem?_map,List.getElem?_eq_getElem c];rfl
 have f:=World.ownsRow.stored h.own i z.v;refine ⟨?_,by simp [n],by simp [o],fun j s y a b=> ?_,h.ext.jT d.1 _⟩
 ·have:=f.1;unfold Aq Own;rw [List.map_set];exact this
 ·by_cases l:j=i
  ·subst l;rw [List.getElem?_set_self (by omega)] at a b;injection a with a;injection b with b;subst a b;exact p.Le k _
  ·rw [List.getElem?_set_ne (fun e=>l e.symm)] at a b;exact (h.ok j s y a b).Le k _
noncomputable def og (T:ak):Int→List (List Int)→Option (Int × Int)
 |_,[]=>none
 |i,l::r=>if (gY T l).2≠0 then some (i,(gY T l).2) else og T (i+1) r
noncomputable def yx (T:ak) (L:List (List Int)):List (List Int) × Int × Int:=
 match og T 0 L with
 |some p=>([],p)
 |none=>if tN T (L.map fun l=>(gY T l).1)≠0 then ([],vN T (L.map fun l=>(gY T l).1),tN T (L.map fun l=>(gY T l).1)) else (L.map fun l=>(gY T l).1,0,0)
noncomputable def fQ (T:ak) (s:List Int):List (List Int) × Int × Int:=
 if dI T=false then ([],0,2) else if s.length=0 then ([],0,10) else if (gW s).2.2≠0 then ([],(gW s).2.1,(gW s).2.2)
 else if jP T (gW s).1≠0 then ([],qP T (gW s).1,jP T (gW s).1) else if gB T (lV T (gW s).1)≠0 then ([],0,gB T (lV T (gW s).1))
 else yx T (oV (lI T (lV T (gW s).1)))
def Gn (w:World) (d:List (List Int) × Int × Int) (e:Ending) (w':World):Prop:=∃ A n c,e= .returned (.tuple #[.slice A n c,.int .i64 d.2.1,.int .i64 d.2.2])∧oG w' ⟨A,n,c⟩ d.1∧Ext w w'
theorem qA (w:World):oG w ⟨none,0,0⟩ []:=⟨⟨rfl,Nat.le_refl _,by simp only [maxLen];omega⟩,fun i x a=>by simp at a⟩
theorem Ui {T:ak} {L:List (List Int)} {k:Nat} (a:k<L.length):og T k (L.drop k)=if (gY T L[k]).2≠0 then some ((k:Int),(gY T L[k]).2) else og T ((k+1:Nat):Int) (L.drop (k+1)):=by
 rw [drop_at L k a];rfl
theorem Ll {T:ak} {l:List Int} (h:(gY T l).2=0):iq T (gY T l).1=0:=by
 unfold gY at h ⊢;split at h
 ·exact absurd h ‹_›
 ·split at h
  ·exact absurd h ‹_›
  ·rename_i b a;rw [if_neg b,if_neg a];exact Decidable.not_not.1 a
theorem Lj {T:ak} {l:List Int} (h:iq T l=0):bM T l=0:=by
 unfold iq at h;split at h
 ·rename_i a;exact absurd h a
 ·rename_i a;exact Decidable.not_not.1 a
theorem L9:∀ (r:List Int) (L:List (List Int)) (cur:List Int),(lbG L cur r).length≤L.length+1+r.length
 |[],L,cur=>by simp [lbG]
 |c::r,L,cur=>by
  unfold lbG;split
  ·have:=L9 r (L++[cur]) [];simp at this ⊢;omega
  ·have:=L9 r L (cur++[c]);simp at this ⊢;omega
theorem Lc:∀ (r:List Int) (L:List (List Int)) (cur:List Int) (x:List Int),x∈lbG L cur r→x∈L∨x.length≤cur.length+r.length
 |[],L,cur,x,h=>by
  unfold lbG at h;rw [List.mem_append,List.mem_singleton] at h;rcases h with h|rfl
  ·exact .inl h
  ·exact .inr (Nat.le_refl _)
 |c::r,L,cur,x,h=>by
  unfold lbG at h;split at h
  ·rcases Lc r _ _ x h with a|a
   ·rw [List.mem_append,List.mem_singleton] at a;rcases a with a|rfl
    ·exact .inl a
    ·exact .inr (by simp)
   ·exact .inr (by simp at a ⊢;omega)
  ·rcases Lc r _ _ x h with a|a
   ·exact .inl a
   ·exact .inr (by simp at a ⊢;omega)
theorem Ld (l:List Int):(oV l).length≤l.length+1:=by
 have:=L9 l [] [];unfold oV;simp at this;omega
theorem Uf {l x:List Int} (h:x∈oV l):x.length≤l.length:=by
 rcases Lc l [] [] x h with a|a
 ·cases a
 ·simpa using a
theorem BP {T:ak} {L:List (List Int)} {p:Int × Int} (h:og T 0 L=some p):yx T L=([],p):=by
 unfold yx;rw [h]
theorem Lh {T:ak} {L:List (List Int)} (h:og T 0 L=none):yx T L=if tN T (L.map fun l=>(gY T l).1)≠0 then ([],vN T (L.map fun l=>(gY T l).1),tN T (L.map fun l=>(gY T l).1)) else (L.map fun l=>(gY T l).1,0,0):=by
 unfold yx;rw [h]
theorem Gi {T:ak}:∀ {L:List (List Int)} {i:Int},og T i L=none→∀ l∈L,(gY T l).2=0
 |[],_,_,l,a=>by cases a
 |x::r,i,h,l,a=>by
  unfold og at h;split at h
  ·cases h
  ·rename_i b;rcases List.mem_cons.1 a with rfl|a
   ·exact Decidable.not_not.1 b
   ·exact Gi h l a
theorem Uh {α β:Type} (f:α→β) (L:List α) (M:List β) (e:M.length=L.length) (k:Nat) (a:k<L.length) (h:M.take k=(L.take k).map f):(M.set k (f L[k])).take (k+1)=(L.take (k+1)).map f:=by
 rw [List.take_succ_eq_append_getElem a,List.map_append,List.take_succ_eq_append_getElem (by simp [e,a]),List.take_set_of_le (Nat.le_refl _),h];simp
def PrL (T:ak) (w0 wb:World) (g N C:Nat) (L:List (List Int)) (gh:Nat) (s53:Value) (wx:World):Prop:=
 ∃ (k:Nat) (S:List SV) (M:List (List Int)),k+gh=N∧s53= .int .i64 k∧Hid (LsP w0 wx g N C S M)∧Hid (M.take k=(L.take k).map fun l=>(gY T l).1)∧Hid (M.drop k=L.drop k)∧Hid (og T k (L.drop k)=og T 0 L)∧Hid (Ext wb wx)
theorem Ug (T:ak) (t:TV) (s:List Int) (w:World) (ht:aS w t T) (hs:IsB s):Calls prog 59 #[t.v,.string (sB s)] w (Gn w (fQ T s)):=by
 have a1:=dS w t;have p:=ah a1;have HT:=ah (ht.aF a1);have HC:=ah (UZ t T (tW' w t) HT.out)
 have HD:Hid (fQ T s=if dI T=false then ([],0,2) else if s.length=0 then ([],0,10) else if (gW s).2.2≠0 then ([],(gW s).2.1,(gW s).2.2)
  else if jP T (gW s).1≠0 then ([],qP T (gW s).1,jP T (gW s).1) else if gB T (lV T (gW s).1)≠0 then ([],0,gB T (lV T (gW s).1))
  else yx T (oV (lI T (lV T (gW s).1)))):=rfl
 generalize fQ T s=D at*;clear ht a1;by_cases hw:dI T=false
 ·have i:=ah (HD.out.trans (if_pos hw));have q:(mO T != 0)=true:=by rw [bne_iff_ne];exact fun h=>by have:=(Au T).1 h;rw [hw] at this;cases this
  clear hw HD hs;go_enter func59,ntmps59;go_wp2_with fail;refine HC.out.mono ?_;rintro e w1 ⟨rfl,j⟩;have G:=p.out.trans' j;clear j;go_wp2_with fail;go_ret3;exact ⟨none,0,0,by rw [i.out];rfl,by rw [i.out];exact qA _,G⟩
 have K:=ah (HD.out.trans (if_neg hw));rw [(Au T).2 (by cases h:dI T;exact absurd h hw;rfl)] at HC;have HW:Hid (dI T=true):=ah (by cases h:dI T;exact absurd h hw;rfl);clear HD hw;have a3:=zl s;by_cases h0:s.length=0
 ·have i:=ah (K.out.trans (if_pos h0));rw [List.eq_nil_of_length_eq_zero h0,show ([]:List Int).isEmpty=true from rfl] at a3;rw [List.eq_nil_of_length_eq_zero h0];clear K h0 hs;go_enter func59,ntmps59;go_wp2_with fail;refine HC.out.mono ?_;rintro e w1 ⟨rfl,j⟩;have G:=p.out.trans' j;clear j;go_wp2_with fail;go_ret3;exact ⟨none,0,0,by rw [i.out];rfl,by rw [i.out];exact qA _,G⟩
 have H:=ah (K.out.trans (if_neg h0));rw [show s.isEmpty=false from by cases s with|nil=>exact absurd rfl h0|cons a b=>rfl] at a3;clear K h0;have HU:Hid (∀ w':World,Calls prog 96 #[.string (sB s)] w' (Gh w' (gW s))):=ah fun w'=>udec_spec s hs w'
 clear hs;generalize gW s=V at*;obtain ⟨l,di,de⟩:=V;simp only [] at H;go_enter func59,ntmps59;go_wp2_with fail;refine HC.out.mono ?_;rintro e w1 ⟨rfl,j⟩;have b9:=ah j;clear j HC;go_wp2_with fail;refine (HU.out w1).mono ?_;rintro e w2 ⟨A,n,c,rfl,ag,ai⟩;have O:=ah (b9.out.trans' ai);have a5:=ah ag;have al:=p.out.trans' O.out;simp only [] at a5;clear ai ag HU a3;by_cases f:de=0
 case neg=>
  have i:=ah (H.out.trans (if_pos f));have q:(de != 0)=true:=bN' f;clear f H;go_wp2_with fail;go_ret3;exact ⟨none,0,0,by rw [i.out];rfl,by rw [i.out];exact qA _,al⟩
 have P:=ah (H.out.trans (if_neg (by rw [f];simp)));have q:(de != 0)=false:=bZ' f;have rT:∀ k:Nat,w2.cell? ⟨w.heap.size,k,none⟩=t.v.cells[k]? :=aQ O.out;clear H al;go_wp2_with fail;refine (aPl T t l A n c w2 (HT.out.aF O.out) a5.out).mono ?_;rintro e w3 ⟨A3,n3,c3,rfl,am,an⟩;have Q:=ah (O.out.trans' am);have ao:=ah an;have ap:=p.out.trans' Q.out;clear am an rT q f;generalize jP T l=me at*;generalize qP T l=mi at*;generalize lV T l=ml at*;by_cases f:me=0
 case neg=>
  have i:=ah (P.out.trans (if_pos f));have q:(me != 0)=true:=bN' f;clear f P;go_wp2_with fail;go_ret3;exact ⟨none,0,0,by rw [i.out];rfl,by rw [i.out];exact qA _,ap⟩
 have R:=ah (P.out.trans (if_neg (by rw [f];simp)));have q:(me != 0)=false:=bZ' f;have rT:∀ k:Nat,w3.cell? ⟨w.heap.size,k,none⟩=t.v.cells[k]? :=aQ Q.out;clear P ap;go_wp2_with fail;refine (UQ T t ml A3 n3 c3 w3 (HT.out.aF Q.out) ao.out).mono ?_;rintro e w4 ⟨A4,n4,c4,rfl,aq,ar⟩;have a7:=ah (Q.out.trans' aq);have av:=ah ar
 have aw:Hid (gB T ml=0→(lI T ml).length≤4096):=ah (fun h=>by
  have h2:=(zL h).2;have h3:=Gy (T:=T) ml;rw [lI,if_pos h]
  omega)
 have ax:=p.out.trans' a7.out;clear aq ar rT q f;generalize gB T ml=ne at*;generalize lI T ml=nl at*;by_cases f:ne=0
 case neg=>
  have i:=ah (R.out.trans (if_pos f));have q:(ne != 0)=true:=bN' f;clear f R;go_wp2_with fail;go_ret3;exact ⟨none,0,0,by rw [i.out];rfl,by rw [i.out];exact qA _,ax⟩
 have ay:=ah (R.out.trans (if_neg (by rw [f];simp)));have q:(ne != 0)=false:=bZ' f;have yu:=ah (aw.out f);clear R ax f aw;go_wp2_with fail;refine (aMw nl A4 n4 c4 w4 av.out (by have:=yu.out;omega)).mono ?_;rintro e w5 ⟨A5,N,C,rfl,az,a8⟩;obtain ⟨g,S5,rfl,a9⟩:=az.lsp a8;have bG:=ah (a7.out.trans' a8);have aD:=ah a9;have ba:Hid ((oV nl).length≤5000):=ah (by have:=Ld nl;have:=yu.out;omega);have bb:Hid (∀ x∈oV nl,x.length≤4096):=ah (fun x G=>by have:=Uf G;have:=yu.out;omega);have aE:(oV nl).length=N:=a9.len;clear a8 az a9 yu av ao a5 q;generalize oV nl=L at*;have bq:N≤5000:=by have:=ba.out;omega
 have U:=ah aE;clear aE;go_wp2_with fail;go_loopg [53] N (fun gh bc wx=>PrL T w4 (tW' w t) g N C L gh bc wx)
 case atStart=>exact ⟨0,S5,L,by omega,rfl,aD,ah rfl,ah rfl,ah rfl,bG⟩
 case round=>
  obtain ⟨k,S,M,br,rfl,W,X,Y,r,HB⟩:=hrel;clear aD;by_cases hk:k<N
  ·obtain ⟨bd,rfl⟩:∃ g',gk=g'+1:=⟨gk - 1,by omega⟩;have I:k<L.length:=(by have:=U.out;omega);have Z:k<M.length:=(by have:=W.out.len;omega);have aL:M[k]=L[k]:=by
    have f:=Y.out;rw [drop_at M k Z,drop_at L k I] at f;exact (List.cons.inj f).1
   have aM:M.drop (k+1)=L.drop (k+1):=by
    have f:=Y.out;rw [drop_at M k Z,drop_at L k I] at f;exact (List.cons.inj f).2
   have aR:M.length=L.length:=(by have:=W.out.len;have:=U.out;omega);obtain ⟨b,o,za,zn,zc,hA,aa,hz⟩:=W.out.lists.at_ Z;injection hA with hA;injection hA with bg bh;subst bg bh;rw [aL] at hz;rw [Nat.zero_add] at aa;have a0:=ah (Ui (T:=T) I);have bi:=ah (bb.out _ (List.getElem_mem I));have HZ:=ah hz;have aU:Hid (∀ y,y=(gY T L[k]).1→(M.set k y).take (k+1)=(L.take (k+1)).map fun l=>(gY T l).1):=ah (fun y hy=>by rw [hy];exact Uh (fun l=>(gY T l).1) L M aR k I X.out);have b0:Hid (∀ y,(M.set k y).drop (k+1)=L.drop (k+1)):=ah (fun y=>by rw [List.drop_set_of_lt (by omega)];exact aM);clear hz aL aM aR X Y Z;generalize L[k]=x at*;have bj:wr.frozen? ⟨g,k,none⟩=false:=World.ownsRow.frozenAt W.out.own k;have bs:=z0' k;have bt:(k:Int)<(N:Int):=(by omega);have rT:∀ k:Nat,wr.cell? ⟨w.heap.size,k,none⟩=t.v.cells[k]? :=aQ HB.out;go_wp2_with fail;go_region_law ((go_simp;go_at_call 100;refine (aR3 T t x za zn zc _ (HT.out.aF (HB.out.trans' (Ext.refl _).dU)) (HZ.out.ext (Ext.refl _).dU) bi.out).mono ?_;rintro e w6 ⟨B,m,d,rfl,tq,E⟩;have kT:Hid (Ext wr w6):=ah ((Ext.refl _).dU.trans' E);have uq:=ah tq;have F:=ah (W.out.aF kT.out);have bu:w6.frozen? ⟨g,k,none⟩=false:=World.ownsRow.frozenAt F.out.own k;have bv:=bn (bD kT.out) aa;clear E tq))
   all_goals
    have bk:=ah (F.out.set hk (z:=⟨B,m,d⟩) (x:=(gY T x).1) uq.out);have rW:Hid (Ext (tW' w t) (w6.setCell ⟨g,k,none⟩ (.slice B m d))):=ah ((HB.out.trans' kT.out).jT (Nat.le_trans a7.out.b.size (Own.lt F.out.own g rfl).1) _);have bl:=ah (aU.out _ rfl);have bm:=ah (b0.out (gY T x).1);clear rT bj aa uq F aU b0;generalize (gY T x).1=y at*;generalize (gY T x).2=ev at*;by_cases f:ev=0
    ·have q:(ev != 0)=false:=bZ' f;have bo:=ah ((a0.out.trans (if_neg (by rw [f];simp))).symm.trans r.out);clear f a0 r;go_wp2_with fail;go_roundg bd
     case measure=>omega
     case rel=>exact ⟨k+1,S.set k ⟨B,m,d⟩,M.set k y,by omega,by go_num,bk,bl,bm,bo,rW⟩
    ·have q:(ev != 0)=true:=bN' f;have i:=ah (ay.out.trans (BP (r.out.symm.trans (a0.out.trans (if_pos f)))));have G:=p.out.trans' rW.out;clear f a0 r;go_wp2_with fail;go_ret3;exact ⟨none,0,0,by rw [i.out];rfl,by rw [i.out];exact qA _,G⟩
  ·have bp:k=N:=by omega
   subst bp
   have ab:Hid (M=L.map fun l=>(gY T l).1):=ah (by
    have f:=X.out;have h2:=U.out;have h3:=W.out.len
    rwa [List.take_of_length_le (by omega),List.take_of_length_le (by omega)] at f)
   have ac:Hid (og T 0 L=none):=ah (by
    have h2:=U.out;rw [← r.out,List.drop_of_length_le (by omega)]
    rfl)
   have DC:Hid (∀ l∈M,bM T l=0):=ah (fun l hl=>by
    rw [ab.out,List.mem_map] at hl;obtain ⟨x,G,rfl⟩:=hl
    exact Lj (Ll (Gi ac.out x G)))
   have J:=ah (ay.out.trans (Lh ac.out));rw [← ab.out] at J;have b1:=ah (aQT T t M _ _ _ wr (HT.out.aF HB.out) W.out.lists HW.out DC.out (by have:=W.out.len;omega));have rT:∀ k:Nat,wr.cell? ⟨w.heap.size,k,none⟩=t.v.cells[k]? :=aQ HB.out;clear X Y r ac DC ab;go_wp2_with fail;refine b1.out.mono ?_;rintro e w6 ⟨rfl,E⟩;have F:=ah (W.out.aF E);have G:=p.out.trans' (HB.out.trans' E);clear rT E b1;generalize vN T M=dmi at*;generalize tN T M=dme at*;by_cases f:dme=0
   ·have q:(dme != 0)=false:=bZ' f;have i:=ah (J.out.trans (if_neg (by rw [f];simp)));clear f J;go_wp2_with fail;go_ret3;exact ⟨_,_,_,by rw [i.out];rfl,by rw [i.out];exact F.out.lists,G⟩
   ·have q:(dme != 0)=true:=bN' f;have i:=ah (J.out.trans (if_pos f));clear f J;go_wp2_with fail;go_ret3;exact ⟨none,0,0,by rw [i.out];rfl,by rw [i.out];exact qA _,G⟩
theorem aQW (w:World) (ks:List Int) (b:ks.length≤1000):aC (w.alloc (.cells (ks.map (Value.int .i64)).toArray 3)) ⟨some ⟨w.heap.size,0,none⟩,ks.length,ks.length⟩ ks:=by
 refine ⟨⟨rfl,Nat.le_refl _,by simp only [maxLen];omega⟩,fun i y a=>⟨w.heap.size,0,rfl,?_⟩⟩;rw [Nat.zero_add,aQ (Ext.refl _) i];simp [a]
theorem KY {T:ak} (h:dI T=true):nT T.bQ:=aOB (TW h)
theorem take_any {T:ak} {ks:List Int} (l:List Int) (k:Nat) (a:k<l.length):dO ks (bY T (l.take (k+1)))=(dO ks (bY T (l.take k))||ks.any fun y=>y==fK T l[k]):=by
 rw [G7 T l k a,aQ3]
theorem aQL {T:ak} {ks:List Int} {l:List Int} {k j:Nat} (a:k<l.length) (b:j<ks.length) (h:fK T l[k]=ks[j]):dO ks (bY T l)=true:=by
 unfold dO;rw [List.any_eq_true];exact ⟨fK T l[k],List.mem_map.2 ⟨_,List.getElem_mem a,rfl⟩,List.any_eq_true.2 ⟨ks[j],List.getElem_mem b,by rw [h];simp⟩⟩
def AnL (T:ak) (w0:World) (ks l:List Int) (gh:Nat) (s13:Value) (wx:World):Prop:=
 ∃ (k:Nat),k+gh=l.length∧s13= .int .i64 k∧Hid (dO ks (bY T (l.take k))=false)∧Hid (Ext w0 wx)
def aQb (w0:World) (ks:List Int) (q:Int) (gh:Nat) (fC:Value) (wx:World):Prop:=
 ∃ (j:Nat),j+gh=ks.length∧fC= .int .i64 j∧Hid (((ks.take j).any fun y=>y==q)=false)∧Hid (Ext w0 wx)
theorem aQX (T:ak) (t:TV) (l ks:List Int) (A:Option Addr) (n c:Nat) (K:Option Addr) (m d:Nat) (w:World) (ht:aS w t T) (X:aC w ⟨A,n,c⟩ l) (hw:dI T=true) (hm:l.length≤4096) (Y:aC w ⟨K,m,d⟩ ks) (F:ks.length≤4096):
 Calls prog 58 #[t.v,.slice A n c,.slice K m d] w fun e w'=>e= .returned (.bool (dO ks (bY T l)))∧Ext w w':=by
 have g:=dS w t;have p:=ah g;have HT:=ah (ht.aF g);have HI:=ah (X.ext g);have HK:=ah (Y.ext g);have HW:=ah hw;have HM:=ah hm;have G:=ah F;have hn:=X.len.1;subst hn;have H:=Y.len.1;subst H;clear ht X g hw hm Y F;go_enter func58,ntmps58;go_wp2_with fail;go_loopg [13] l.length (fun I J L=>AnL T (tW' w t) ks l I J L)
 case atStart=>exact ⟨0,by omega,rfl,ah rfl,ah (Ext.refl _)⟩
 case round=>
  obtain ⟨k,aa,rfl,Z,M⟩:=hrel;have f:=p.out.trans' M.out;have ab:l.length≤4096:=HM.out;have ac:ks.length≤4096:=G.out;by_cases r:k<l.length
  ·obtain ⟨N,rfl⟩:∃ O,gk=O+1:=⟨gk - 1,by omega⟩;obtain ⟨b,o,rfl,ad⟩:=(HI.out.ext M.out).at_ r;have P:=ah (take_any (T:=T) (ks:=ks) l k r);have D:Hid (∀ j,(B:j<ks.length)→fK T l[k]=ks[j]→dO ks (bY T l)=true):=ah (fun j B h=>aQL r B h);generalize l[k]=x at*;have HC:Hid (∀ w',Ext (tW' w t) w'→Calls prog 94 #[t.v,.int .i64 x] w' fun e Q=>e= .returned (.int .i64 (fK T x))∧Ext w' Q):=ah (fun w' h=>KH t T x w' (HT.out.aF h) (KY HW.out));generalize fK T x=q at*;have ae:=z0' k;have af:(k:Int)<(l.length:Int):=(by omega);clear f;go_wp2_with fail;rename_i ag;go_loopg [19] ks.length (fun I fC L=>aQb (tW' w t) ks q I fC L)
   case atStart=>exact ⟨0,by omega,rfl,ah rfl,M⟩
   case round=>
    obtain ⟨j,al,rfl,s,a⟩:=hrel;have f:=p.out.trans' a.out;have R:∀ k:Nat,wr.cell? ⟨w.heap.size,k,none⟩=t.v.cells[k]? :=aQ a.out;by_cases B:j<ks.length
    ·obtain ⟨S,rfl⟩:∃ O,gk=O+1:=⟨gk - 1,by omega⟩;obtain ⟨b2,o2,rfl,am⟩:=(HK.out.ext a.out).at_ B;have E:=ah (L8 (fun y=>y==q) ks j B);have z:=ah (D.out j B);generalize ks[j]=y at*;have an:=z0' j;have ao:(j:Int)<(ks.length:Int):=(by omega);by_cases C:q=y
     ·have e1:(q==y)=true:=(by rw [beq_iff_eq];exact C);have HV:=ah (z.out C);clear C z D f;go_wp2_with fail;refine (HC.out _ a.out).mono ?_;rintro e w3 ⟨rfl,i⟩;have hx:=(p.out.trans' a.out).trans' i;clear R i;go_wp2_with fail;go_ret;exact ⟨by rw [HV.out];rfl,hx⟩
     ·have e1:(q==y)=false:=(by rw [aP];exact C);have U:Hid (((ks.take (j+1)).any fun y=>y==q)=false):=ah (by rw [E.out,s.out,Bool.false_or,aP];exact fun h=>C h.symm);clear C z E s f;go_wp2_with fail;refine (HC.out _ a.out).mono ?_;rintro e w3 ⟨rfl,i⟩;have V:=ah (a.out.trans' i);clear R i;go_wp2_with fail;go_roundg S
      case measure=>omega
      case rel=>exact ⟨j+1,by omega,by go_num,U,V⟩
    ·have W:Hid (dO ks (bY T (l.take (k+1)))=false):=ah (by
      have h1:=s.out;rw [List.take_of_length_le (by omega)] at h1;rw [P.out,Z.out,Bool.false_or]
      exact h1)
     clear R f;go_wp2_with fail;go_roundg N
     case measure=>omega
     case rel=>exact ⟨k+1,by omega,by go_num,W,a⟩
  ·have HE:Hid (dO ks (bY T l)=false):=ah (by rw [← Z.out,List.take_of_length_le (by omega)]);go_wp2_with fail;go_ret;exact ⟨by rw [HE.out];rfl,f⟩
def RlL (T:ak) (w0:World) (l:List Int) (gh:Nat) (s5 s11:Value) (wx:World):Prop:=
 ∃ (k:Nat),k+gh=l.length∧s11= .int .i64 k∧s5= .int .i64 (lastB (bY T (l.take k)))∧Hid (Ext w0 wx)
theorem aQS (T:ak) (t:TV) (l:List Int) (A:Option Addr) (n c:Nat) (w:World) (ht:aS w t T) (B:aC w ⟨A,n,c⟩ l) (D:dI T=true) (E:l.length≤4096):
 Calls prog 127 #[t.v,.slice A n c] w fun e w'=>e= .returned (.int .i64 (lastB (bY T l)))∧Ext w w':=by
 have f:=dS w t;have s:=ah f;have F:=ah (ht.aF f);have G:=ah (B.ext f);have H:=ah D;have I:=ah E;have J:=B.len.1;subst J;clear ht B f D E;go_enter func127,ntmps127;go_wp2_with fail;go_loopg [5,11] l.length (fun K L y M=>RlL T (tW' w t) l K L y M)
 case atStart=>exact ⟨0,by omega,rfl,rfl,ah (Ext.refl _)⟩
 case round=>
  obtain ⟨k,N,rfl,rfl,i⟩:=hrel;have j:=s.out.trans' i.out;have O:l.length≤4096:=I.out;have z:∀ k:Nat,wr.cell? ⟨w.heap.size,k,none⟩=t.v.cells[k]? :=aQ i.out;by_cases m:k<l.length
  ·obtain ⟨p,rfl⟩:∃ P,gk=P+1:=⟨gk - 1,by omega⟩;obtain ⟨b,o,rfl,Q⟩:=(G.out.ext i.out).at_ m;have r:Hid (lastB (bY T (l.take (k+1)))=if fK T l[k]=10 then lastB (bY T (l.take k)) else fK T l[k]):=ah (by rw [G7 T l k m,KR]);generalize l[k]=x at*;have C:=ah (KH t T x wr (F.out.aF i.out) (KY H.out));generalize fK T x=q at*;have R:=z0' k;have S:(k:Int)<(l.length:Int):=(by omega);clear j;by_cases a:q=10
   ·have U:(q != 10)=false:=(by rw [a];rfl);have g:=ah (r.out.trans (if_pos a));clear a r;go_wp2_with fail;refine C.out.mono ?_;rintro e V ⟨rfl,d⟩;have h:=ah (i.out.trans' d);clear z d;go_wp2_with fail;go_roundg p
    case measure=>omega
    case rel=>exact ⟨k+1,by omega,by go_num,by rw [g.out],h⟩
   ·have U:(q != 10)=true:=bN' a;have g:=ah (r.out.trans (if_neg a));clear a r;go_wp2_with fail;refine C.out.mono ?_;rintro e V ⟨rfl,d⟩;have h:=ah (i.out.trans' d);clear z d;go_wp2_with fail;go_roundg p
    case measure=>omega
    case rel=>exact ⟨k+1,by omega,by go_num,by rw [g.out],h⟩
  ·have W:Hid (l.take k=l):=ah (List.take_of_length_le (by omega));clear z;go_wp2_with fail;go_ret;exact ⟨by rw [W.out];rfl,j⟩
theorem Eb (T:ak) (t:TV) (l:List Int) (A:Option Addr) (n c:Nat) (b:World) (ht:aS b t T) (g:aC b ⟨A,n,c⟩ l) (i:dI T=true) (j:l.length≤4096) (ks:List Int) (d:ks.length≤1000):∀ w',Ext b w'→
 Calls prog 58 #[t.v,.slice A n c,.slice (some ⟨w'.heap.size,0,none⟩) ks.length ks.length] (w'.alloc (.cells (ks.map (Value.int .i64)).toArray 3)) fun e w''=>e= .returned (.bool (dO ks (bY T l)))∧Ext w' w'':=fun w' h=>by
 have a:Ext w' (w'.alloc (.cells (ks.map (Value.int .i64)).toArray 3)):=(Ext.refl _).aB _;exact (aQX T t l ks A n c _ _ _ _ (ht.aF (h.trans' a)) (g.ext (h.trans' a)) i j (aQW w' ks d) (by omega)).mono fun e w'' f=>⟨f.1,a.trans' f.2⟩
theorem aQh (T:ak) (t:TV) (l:List Int) (A:Option Addr) (n c:Nat) (w:World) (ht:aS w t T) (j:aC w ⟨A,n,c⟩ l) (g:bM T l=0):
 Calls prog 25 #[t.v,.slice A n c] w fun e w'=>e= .returned (.bool (nD T l))∧Ext w w':=by
 have a:=dS w t;have h:=ah a;have m:=ah (ht.aF a);have o:=ah (j.ext a);have r:=j.len.1;subst r;have s:=ah (rH g).1;have x:=ah (Ea g);have p:=ah (vS t T l A _ c _ m.out o.out);rw [g] at p;have y:Hid (∀ w',Ext (tW' w t) w'→Calls prog 58 #[t.v,.slice A l.length c,.slice (some ⟨w'.heap.size,0,none⟩) 3 3] (w'.alloc (.cells #[.int .i64 1,.int .i64 2,.int .i64 3] 3)) fun e i=>e= .returned (.bool (dO [1,2,3] (bY T l)))∧Ext w' i):=ah (Eb T t l A l.length c _ m.out o.out s.out x.out [1,2,3] (by decide));have z:Hid (nD T l=dO [1,2,3] (bY T l)):=rfl;generalize dO [1,2,3] (bY T l)=b1 at*;clear ht j a g;go_enter func25,ntmps25;go_wp2_with fail;refine p.out.mono ?_;rintro e q ⟨rfl,b⟩;have d:=ah b;have B:∀ k:Nat,q.cell? ⟨w.heap.size,k,none⟩=t.v.cells[k]? :=aQ b;clear b;go_wp2_with fail;refine (y.out q d.out).mono ?_;rintro e D ⟨rfl,f⟩;have C:=(h.out.trans' d.out).trans' f;clear B f;go_wp2_with fail;go_ret;exact ⟨by rw [z.out];rfl,C⟩
theorem aQm (q:Int):dO [1,2] [q]=((q==1)||(q==2)):=by
 rw [Bool.eq_iff_iff];simp only [dO,List.any_cons,List.any_nil,Bool.or_false,Bool.or_eq_true,beq_iff_eq];omega
theorem any0 (q:Int):dO [0] [q]=(q==0):=by
 rw [Bool.eq_iff_iff];simp only [dO,List.any_cons,List.any_nil,Bool.or_false,beq_iff_eq];omega
theorem aQo (B:List Int):dO [1,2,3,4] (mZ B)=((lastB B==1)||((lastB B==2)||((lastB B==4)||(lastB B==3)))):=by
 unfold mZ;generalize lastB B=z;rw [Bool.eq_iff_iff];split
 ·rename_i h;subst h;decide
 ·simp only [dO,List.any_cons,List.any_nil,Bool.or_false,Bool.or_eq_true,beq_iff_eq];omega
theorem aQn (B:List Int):dO [0,4] (mZ B)=((lastB B==0)||(lastB B==4)):=by
 unfold mZ;generalize lastB B=z;rw [Bool.eq_iff_iff];split
 ·rename_i h;subst h;decide
 ·simp only [dO,List.any_cons,List.any_nil,Bool.or_false,Bool.or_eq_true,beq_iff_eq];omega
theorem Ua (T:ak) (t:TV) (l:List Int) (A:Option Addr) (n c:Nat) (w:World) (ht:aS w t T) (hi:aC w ⟨A,n,c⟩ l) (m:bM T l=0):
 Calls prog 93 #[t.v,.slice A n c] w fun e w'=>e= .returned (.tuple #[.int .i64 (uI (bY T l)),.int .i64 0])∧Ext w w':=by
 have s:=dS w t;have f:=ah s;have y:=ah (ht.aF s);have B:=ah (hi.ext s);have hn:=hi.len.1;subst hn;have D:=ah (rH m).1;have E:=ah (Ea m);have HO:=ah (vS t T l A _ c _ y.out B.out);rw [m] at HO;clear ht hi s m;by_cases K:0<l.length
 ·have C:=ah (U5 T l K);have af:(0:Int)<(l.length:Int):=by omega
  have ag:l.length≤4096:=E.out;have e0:((l.length:Int)==0)=false:=bF';obtain ⟨b,o,hA,F⟩:=B.out.at_ K;rw [Nat.add_zero] at F;have C2:Hid (∀ w',Ext (tW' w t) w'→Calls prog 58 #[t.v,.slice A l.length c,.slice (some ⟨w'.heap.size,0,none⟩) 2 2] (w'.alloc (.cells #[.int .i64 0,.int .i64 11] 3)) fun e a=>e= .returned (.bool (dO [0,11] (bY T l)))∧Ext w' a):=ah (Eb T t l A l.length c _ y.out B.out D.out E.out [0,11] (by decide));have C4:Hid (∀ w',Ext (tW' w t) w'→Calls prog 58 #[t.v,.slice A l.length c,.slice (some ⟨w'.heap.size,0,none⟩) 1 1] (w'.alloc (.cells #[.int .i64 4] 3)) fun e a=>e= .returned (.bool (dO [4] (bY T l)))∧Ext w' a):=ah (Eb T t l A l.length c _ y.out B.out D.out E.out [4] (by decide));have C5:Hid (∀ w',Ext (tW' w t) w'→Calls prog 58 #[t.v,.slice A l.length c,.slice (some ⟨w'.heap.size,0,none⟩) 1 1] (w'.alloc (.cells #[.int .i64 3] 3)) fun e a=>e= .returned (.bool (dO [3] (bY T l)))∧Ext w' a):=ah (Eb T t l A l.length c _ y.out B.out D.out E.out [3] (by decide));have C7:Hid (∀ w',Ext (tW' w t) w'→Calls prog 58 #[t.v,.slice A l.length c,.slice (some ⟨w'.heap.size,0,none⟩) 4 4] (w'.alloc (.cells #[.int .i64 1,.int .i64 2,.int .i64 3,.int .i64 11] 3)) fun e a=>e= .returned (.bool (dO [1,2,3,11] (bY T l)))∧Ext w' a):=ah (Eb T t l A l.length c _ y.out B.out D.out E.out [1,2,3,11] (by decide));have L:Hid (∀ w',Ext (tW' w t) w'→Calls prog 94 #[t.v,.int .i64 l[0]] w' fun e a=>e= .returned (.int .i64 (fK T l[0]))∧Ext w' a):=ah (fun w' h=>KH t T l[0] w' (y.out.aF h) (KY D.out));have iV:Hid (∀ w',Ext (tW' w t) w'→Calls prog 127 #[t.v,.slice A l.length c] w' fun e a=>e= .returned (.int .i64 (lastB (bY T l)))∧Ext w' a):=ah (fun w' h=>aQS T t l A _ c w' (y.out.aF h) (B.out.ext h) D.out E.out);subst hA;have M:=ah (aQm (fK T l[0]));have N:=ah (any0 (fK T l[0]));have O:=ah (aQo (bY T l));have P:=ah (aQn (bY T l));generalize l[0]=x0 at*;generalize fK T x0=q at*;generalize lastB (bY T l)=z at*;generalize dO [1,2] [q]=b1 at*;generalize dO [0,11] (bY T l)=b2 at*;generalize dO [1,2,3,4] (mZ (bY T l))=b3 at*;generalize dO [4] (bY T l)=b4 at*;generalize dO [3] (bY T l)=b5 at*;generalize dO [0] [q]=b6 at*;generalize dO [1,2,3,11] (bY T l)=b7 at*;generalize dO [0,4] (mZ (bY T l))=b8 at*;generalize uI (bY T l)=R at*;clear y B D E;go_enter func93,ntmps93;go_wp2_with fail;refine HO.out.mono ?_;rintro e w1 ⟨rfl,i⟩;have Q:=ah i;have d:∀ k:Nat,w1.cell? ⟨w.heap.size,k,none⟩=t.v.cells[k]? :=aQ i;clear i HO;go_wp2_with fail;refine (iV.out w1 Q.out).mono ?_;rintro e w2 ⟨rfl,S⟩;have x:=ah (Q.out.trans' S);have U:=bn (bD x.out) F;have V:Hid (∀ w',Ext w2 w'→Calls prog 94 #[t.v,.int .i64 x0] w' fun e a=>e= .returned (.int .i64 q)∧Ext w' a):=ah (fun w' h=>L.out w' (x.out.trans' h));clear S d F iV L;have d:∀ W:aj w2,∀ k:Nat,W.w.cell? ⟨w.heap.size,k,none⟩=t.v.cells[k]? :=fun W=>aQ (x.out.trans' W.h)
  have rX:∀ W:aj w2,W.w.cell? ⟨b,o,none⟩=some (.int .i64 x0):=dJ U;go_wp2_with fail;refine rX' ?_
  repeat (go_big_quiet_step ((go_at_call 94;with_reducible exact aN (V.out _ (aj.h _)))))
  refine wpQuiet_nil ?_;rintro _ ⟨yw,rfl⟩;clear d rX U V;obtain ⟨H,G⟩:∃ H:World,H=yw.w:=⟨_,rfl⟩;have j:Hid (Ext (tW' w t) H):=ah (by rw [G];exact x.out.trans' yw.h);rw [← G];clear G;have d:∀ k:Nat,H.cell? ⟨w.heap.size,k,none⟩=t.v.cells[k]? :=aQ j.out;cases b1
  case true=>
   have hq:(q==1)=true∨((q==1)=false∧(q==2)=true):=by
    have:=M.out;cases h1:(q==1)
    ·rw [h1,Bool.false_or] at this;exact .inr ⟨rfl,this.symm⟩
    ·exact .inl rfl
   rcases hq with q1|⟨q1,q2⟩
   all_goals
    go_wp2_with fail;refine (C2.out H j.out).mono ?_;rintro e w5 ⟨rfl,p⟩;have r:=ah (j.out.trans' p);clear d p;have d:∀ k:Nat,w5.cell? ⟨w.heap.size,k,none⟩=t.v.cells[k]? :=aQ r.out;cases b2
    case true=>
     have g:=f.out.trans' r.out;clear d;go_wp2_with fail;go_ret2;exact ⟨by rw [C.out];rfl,g⟩
    cases b3
    case false=>
     have m:z≠1∧z≠2∧z≠4∧z≠3:=by
      have h:=O.out.symm;simp only [Bool.or_eq_false_iff,aP] at h;exact h
     obtain ⟨I,X,J,z3⟩:=m;have e1:(z != 1)=true:=bN' I;have e2:(z != 2)=true:=bN' X;have e4:(z != 4)=true:=bN' J;have e3:(z != 3)=true:=bN' z3;clear I X J z3;have g:=f.out.trans' r.out;clear d;go_wp2_with fail;go_ret2;exact ⟨by rw [C.out];rfl,g⟩
    have m:(z != 1)=false∨((z != 1)=true∧(z != 2)=false)∨((z != 1)=true∧(z != 2)=true∧(z != 4)=false)∨((z != 1)=true∧(z != 2)=true∧(z != 4)=true∧(z != 3)=false):=by
     have h:=O.out.symm;simp only [Bool.or_eq_true,beq_iff_eq] at h;simp only [bne_iff_ne,bne_eq_false_iff_eq];omega
    rcases m with I|⟨I,X⟩|⟨I,X,J⟩|⟨I,X,J,z3⟩
    all_goals
     go_wp2_with fail;refine (C4.out w5 r.out).mono ?_;rintro e w6 ⟨rfl,Y⟩;have lK:=ah (r.out.trans' Y);clear d Y;have d:∀ k:Nat,w6.cell? ⟨w.heap.size,k,none⟩=t.v.cells[k]? :=aQ lK.out;cases b4
     case false=>
      have g:=f.out.trans' lK.out;clear d;go_wp2_with fail;go_ret2;exact ⟨by rw [C.out];rfl,g⟩
     go_wp2_with fail;refine (C5.out w6 lK.out).mono ?_;rintro e w7 ⟨rfl,Z⟩;have rW:=ah (lK.out.trans' Z);clear d Z;have d:∀ k:Nat,w7.cell? ⟨w.heap.size,k,none⟩=t.v.cells[k]? :=aQ rW.out;cases b5
     all_goals
      have g:=f.out.trans' rW.out;clear d;go_wp2_with fail;go_ret2;exact ⟨by rw [C.out];rfl,g⟩
  have hq:(q==1)=false∧(q==2)=false:=by
   have h:=M.out.symm;rwa [Bool.or_eq_false_iff] at h
  obtain ⟨q1,q2⟩:=hq;cases b6
  case false=>
   have q0:(q==0)=false:=N.out.symm;have g:=f.out.trans' j.out;clear d;go_wp2_with fail;go_ret2;exact ⟨by rw [C.out];rfl,g⟩
  have q0:(q==0)=true:=N.out.symm;go_wp2_with fail;refine (C7.out H j.out).mono ?_;rintro e w5 ⟨rfl,p⟩;have r:=ah (j.out.trans' p);clear d p;have d:∀ k:Nat,w5.cell? ⟨w.heap.size,k,none⟩=t.v.cells[k]? :=aQ r.out;cases b7
  case true=>
   have g:=f.out.trans' r.out;clear d;go_wp2_with fail;go_ret2;exact ⟨by rw [C.out];rfl,g⟩
  cases b8
  case false=>
   have m:(z != 0)=true∧(z != 4)=true:=by
    have h:=P.out.symm;simp only [Bool.or_eq_false_iff,aP] at h;simp only [bne_iff_ne];exact h
   obtain ⟨z0,J⟩:=m;have g:=f.out.trans' r.out;clear d;go_wp2_with fail;go_ret2;exact ⟨by rw [C.out];rfl,g⟩
  have m:(z != 0)=false∨((z != 0)=true∧(z != 4)=false):=by
   have h:=P.out.symm;simp only [Bool.or_eq_true,beq_iff_eq] at h;simp only [bne_iff_ne,bne_eq_false_iff_eq];omega
  rcases m with z0|⟨z0,J⟩
  all_goals
   have g:=f.out.trans' r.out;clear d;go_wp2_with fail;go_ret2;exact ⟨by rw [C.out];rfl,g⟩
 ·have h0:l=[]:=List.eq_nil_of_length_eq_zero (by omega);subst h0;go_enter func93,ntmps93;go_wp2_with fail;refine HO.out.mono ?_;rintro e w1 ⟨rfl,i⟩;have g:=f.out.trans' i;clear i;go_wp2_with fail;go_ret2;exact ⟨rfl,g⟩
theorem aQk (B:List Int):0≤uI B:=by
 unfold uI;split
 ·omega
 ·unfold KW
  repeat' split
  all_goals omega
theorem aQj (T:ak) (t:TV) (ls:List (List Int)) (A:Option Addr) (n c:Nat) (w:World) (ht:aS w t T) (hi:oG w ⟨A,n,c⟩ ls) (hw:dI T=true) (g:∀ l∈ls,bM T l=0) (hm:ls.length≤1000000):
 Calls prog 57 #[t.v,.slice A n c] w (U7 w T ls):=by
 have q:=dS w t;have D:=ah q;have X:=ah (ht.aF q);have HI:=ah (hi.ext q);have HW:=ah hw;have HZ:=ah g;have HM:=ah hm;have hn:=hi.len.1;subst hn;clear ht hi q hw g hm;go_enter func57,ntmps57;go_wp2_with fail;go_loopg [6,16] ls.length (fun L s6 a2 M=>U9 T (tW' w t) ls L s6 a2 M)
 case atStart=>exact ⟨0,by omega,rfl,rfl,ah (Ext.refl _)⟩
 case round=>
  obtain ⟨k,N,rfl,rfl,d⟩:=hrel;have s:∀ k:Nat,wr.cell? ⟨w.heap.size,k,none⟩=t.v.cells[k]? :=aQ d.out;have ae:ls.length≤1000000:=HM.out;by_cases j:k<ls.length
  ·obtain ⟨f,rfl⟩:∃ O,gk=O+1:=⟨gk - 1,by omega⟩;obtain ⟨b,o,H,I,J,rfl,P,g⟩:=(BO HI.out d.out).at_ j;have Q:=ah g;have Y:=ah (L8 (nD T) ls k j);have R:=ah (HZ.out _ (List.getElem_mem j));clear g;generalize ls[k]=x at*;have HO:=ah (vS t T x H I J wr (X.out.aF d.out) Q.out);rw [R.out] at HO;have S:=z0' k;have U:(k:Int)<(ls.length:Int):=(by omega);go_wp2_with fail;refine HO.out.mono ?_;rintro e w1 ⟨rfl,E⟩;have y:=ah (d.out.trans' E);have oP:=ah E;clear s E HO;have s:∀ k:Nat,w1.cell? ⟨w.heap.size,k,none⟩=t.v.cells[k]? :=aQ y.out;have jV:=ah (aQh T t x H I J w1 (X.out.aF y.out) (Q.out.ext oP.out) R.out);generalize nD T x=p at*;cases m:(ls.take k).any (nD T)
   ·rw [m] at Y;clear m;go_wp2_with fail;refine jV.out.mono ?_;rintro e w2 ⟨rfl,a⟩;have i:=ah (y.out.trans' a);clear a s;go_wp2_with fail;go_roundg f
    case measure=>omega
    case rel=>exact ⟨k+1,by omega,by go_num,by rw [Y.out];rfl,i⟩
   ·rw [m] at Y;clear m;go_wp2_with fail;go_roundg f
    case measure=>omega
    case rel=>exact ⟨k+1,by omega,by go_num,by rw [Y.out];rfl,y⟩
  ·have HE:Hid (ls.take k=ls):=ah (List.take_of_length_le (by omega));rw [HE.out];clear s;cases m:ls.any (nD T)
   ·have Z:=ah m;have C:=ah (Gf (T:=T) (ls:=ls) (fun h=>by rw [m] at h;cases h));clear m;go_wp2_with fail;go_loopg [37] ls.length (fun L F M=>Gg T (tW' w t) ls L F M)
    case atStart=>exact ⟨0,by omega,rfl,ah (fun _=>rfl),d⟩
    case round=>
     obtain ⟨k,N,rfl,K,d⟩:=hrel;have G:=D.out.trans' d.out;by_cases j:k<ls.length
     ·obtain ⟨f,rfl⟩:∃ O,gk=O+1:=⟨gk - 1,by omega⟩;obtain ⟨b,o,H,I,J,rfl,P,g⟩:=(BO HI.out d.out).at_ j;have S:=z0' k;have U:(k:Int)<(ls.length:Int):=(by omega);have z:=ah (Ua T t ls[k] H I J wr (X.out.aF d.out) g (HZ.out _ (List.getElem_mem j)));clear g G;generalize ls[k]=x at*;generalize uI (bY T x)=r at*;have s:∀ k:Nat,wr.cell? ⟨w.heap.size,k,none⟩=t.v.cells[k]? :=aQ d.out;go_wp2_with fail;refine z.out.mono ?_;rintro e w2 ⟨rfl,a⟩;have i:=ah (d.out.trans' a);clear a s;go_wp2_with fail;go_roundg f
      case measure=>omega
      case rel=>exact ⟨k+1,by omega,by go_num,ah (fun h=>by rw [Z.out] at h;cases h),i⟩
     ·go_wp2_with fail;go_ret2;exact ⟨by rw [C.out.1,C.out.2];rfl,G⟩
   ·have Z:=ah m;clear m;go_wp2_with fail;go_loopg [37] ls.length (fun L F M=>Gg T (tW' w t) ls L F M)
    case atStart=>exact ⟨0,by omega,rfl,ah (fun _=>rfl),d⟩
    case round=>
     obtain ⟨k,N,rfl,K,d⟩:=hrel;have G:=D.out.trans' d.out;by_cases j:k<ls.length
     ·obtain ⟨f,rfl⟩:∃ O,gk=O+1:=⟨gk - 1,by omega⟩;obtain ⟨b,o,H,I,J,rfl,P,g⟩:=(BO HI.out d.out).at_ j;have B:=ah (U8 (T:=T) j);have z:=ah (Ua T t ls[k] H I J wr (X.out.aF d.out) g (HZ.out _ (List.getElem_mem j)));clear g G;have a5:=ah (aQk (bY T ls[k]));generalize ls[k]=x at*;generalize uI (bY T x)=r at*;have s:∀ k:Nat,wr.cell? ⟨w.heap.size,k,none⟩=t.v.cells[k]? :=aQ d.out;have S:=z0' k;have U:(k:Int)<(ls.length:Int):=(by omega);by_cases V:r=0
      ·have e1:decide (0<r)=false:=by rw [V];rfl
       have a6:Hid (ls.any (nD T)=true→frR T ((k+1:Nat):Int) (ls.drop (k+1))=frR T 0 ls):=ah (fun h=>by
        have W:=B.out;rw [if_neg (by rw [V];simp)] at W
        rw [← W];exact K.out h)
       clear V B K;go_wp2_with fail;refine z.out.mono ?_;rintro e w2 ⟨rfl,a⟩;have i:=ah (d.out.trans' a);clear a s;go_wp2_with fail;go_roundg f
       case measure=>omega
       case rel=>exact ⟨k+1,by omega,by go_num,a6,i⟩
      ·have e1:decide (0<r)=true:=decide_eq_true (by have:=a5.out;omega)
       have C:Hid (vN T ls=k∧tN T ls=19):=ah (by
        have W:=B.out;rw [if_pos V] at W
        exact U6 Z.out ((K.out Z.out).symm.trans W))
       clear V B K;go_wp2_with fail;refine z.out.mono ?_;rintro e w2 ⟨rfl,a⟩;have G:=(D.out.trans' d.out).trans' a;clear a s;go_wp2_with fail;go_ret2;exact ⟨by rw [C.out.1,C.out.2];rfl,G⟩
     ·have C:=ah (Gf (T:=T) (ls:=ls) (fun h=>by rw [← K.out h,List.drop_of_length_le (by omega)];rfl));go_wp2_with fail;go_ret2;exact ⟨by rw [C.out.1,C.out.2];rfl,G⟩
end Go.Proofs.YtjccgagakfndpaaGreatDoor
