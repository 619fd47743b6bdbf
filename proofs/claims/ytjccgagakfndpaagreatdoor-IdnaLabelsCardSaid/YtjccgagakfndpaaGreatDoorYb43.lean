/- Part Yb43. -/
import Derived.Test.YtjccgagakfndpaaGreatDoorYb42
open Go.Proofs.Tryz
namespace Go.Proofs.YtjccgagakfndpaaGreatDoor
set_option maxHeartbeats 25600000
set_option maxRecDepth 100000
open Go.RowKit
theorem aMV (b:Int):∀ (ds:List (Option Int)) (j v w x:Int) (r:List (Option Int)),aBY b ds j v w=some (x,r)→r.length<ds.length
 |[],_,_,_,_,_,h=>by cases h
 |none::_,_,_,_,_,_,h=>by cases h
 |some d::ds,j,v,w,x,r,h=>by
  unfold aBY at h;split at h
  ·injection h with h;injection h with _ h;subst h;simp
  ·have:=aMV b ds _ _ _ _ _ h;simp only [List.length_cons];omega
theorem aMU:∀ (g:Nat) (ds:List (Option Int)) (o:List Int) (n i b:Int) (f:Bool) (l:List Int),0≤i→decP g ds o n i b f= .ok l→l.length≤o.length+ds.length
 |0,_,o,_,_,_,_,l,_,h=>by
  unfold decP at h;injection h with h;subst h;omega
 |g+1,ds,o,n,i,b,f,l,hi,h=>by
  by_cases a:ds=[]
  ·subst a;unfold decP at h;injection h with h;subst h;simp
  ·rw [aKA a] at h;split at h
   ·cases h
   ·rename_i v r c;have j:=aMV b ds 0 0 1 v r c;split at h
    ·cases h
    ·split at h
     ·cases h
     ·have k:=Int.emod_nonneg (v+i) (b:=(o.length:Int)+1) (by omega);have d:=Int.emod_lt_of_pos (v+i) (b:=(o.length:Int)+1) (by omega);have:=aMU g r _ _ _ _ _ l (by omega) h;rw [aIv _ _ _ (by omega)] at this;omega
theorem aMZ (s:List Int):(pdU s).1.length≤s.length:=by
 unfold pdU;split
 ·simp
 ·split
  ·simp
  ·cases a:decP (aJs s).length ((aJs s).map aJA) (s.take (hyB s)) 128 0 72 true with
   |aIZ=>simp [resD]
   |over=>simp [resD]
   |ok l=>
    have h:=aMU _ _ _ _ _ _ _ l (by omega) a;simp only [resD];unfold aJs at h;split at h
    ·rename_i b;rw [b] at h;simpa using h
    ·simp at h;omega
theorem aMc (l:List Int):IsB (alE l).1:=by
 unfold alE;split
 ·exact a2g
 ·split
  ·rename_i b;split
   ·exact a2g
   ·intro x a;have:=aMG b x a;omega
  ·split
   ·exact a2g
   ·rename_i c;split
    ·exact a2g
    ·exact a2f (by intro x a;simp at a;omega) (aML l (by omega))
def aMe (w1:World) (s:List Int) (g:Nat) (so si:Value) (wx:World):Prop:=
 ∃ (A:Option Addr) (c k:Nat),g+k=s.length∧si= .int .i64 k∧so= .slice A k c∧bJ wx w1.heap.size A k c (s.take k)∧Ext w1 wx∧Hid ((s.take k).any (fun b=>decide (127<b))=false)
theorem aMi (s:List Int) (hs:IsB s) (hm:s.length≤1000000) (w:World):Calls prog 144 #[.string (sB s)] w (aK2 w (alD s)):=by
 have d:Hid (alD s=if s.length=0 then ([],10) else if s.any (fun b=>decide (127<b)) then ([],12) else if 63<s.length then ([],11) else if isX s=false then (s,0)
  else if (pdU (aKa (s.drop 4))).2≠0 then ([],(pdU (aKa (s.drop 4))).2) else if aLb (pdU (aKa (s.drop 4))).1=true then ([],12)
  else if (alE (pdU (aKa (s.drop 4))).1).2≠0∨(alE (pdU (aKa (s.drop 4))).1).1≠aKa s then ([],12) else ((pdU (aKa (s.drop 4))).1,0)):=rfl
 have p:=aW0 hs;generalize alD s=D at*;clear hs;have r:=aJ0 s;by_cases I:s.length=0
 ·rw [if_pos I] at d;rw [List.eq_nil_of_length_eq_zero I,show ([]:List Int).isEmpty=true from rfl] at r;rw [List.eq_nil_of_length_eq_zero I];clear I;go_enter func144,ntmps144;go_wp2_with fail;go_ret2;exact ⟨none,0,0,by rw [d.out];rfl,by rw [d.out];exact aX.nil_ w,Ext.refl _⟩
 rw [if_neg I] at d;rw [show s.isEmpty=false from by cases s with|nil=>exact absurd rfl I|cons a b=>rfl] at r;obtain ⟨cc,w1,ad,K,L,_⟩:=a1Z (w:=w) p.out (by omega);have af:=aW0 K;have M:=aW0 L;go_enter func144,ntmps144;go_wp2_with fail;clear r ad K L;go_loopg [4,15] s.length (fun gh so si wx=>aMe w1 s gh so si wx)
 case atStart=>exact ⟨none,0,0,by omega,rfl,rfl,Own.nil_ _ _ _ _,Ext.refl _,rfl⟩
 case round=>
  obtain ⟨A,c,k,hg,rfl,rfl,o,N,O⟩:=hrel;have HO:=aW0 o;have Q:=aW0 N;clear o N;by_cases J:k<s.length
  ·have hr:=a9U p.out k;obtain ⟨b',o',hA,ag⟩:=(af.out.ext Q.out).at_ J;injection hA with hA;injection hA with e1 e2;subst e1 e2;rw [Nat.zero_add,← getD_lt s k 0 J] at ag;have t:=aW0 (a9W (f:=fun b=>decide (127<b)) J);have x:=aW0 (anyM (f:=fun b=>decide (127<b)) J);have HT:Hid (s.take (k+1)=s.take k++[s[k]]):=aW0 (List.take_succ_eq_append_getElem J);rw [← getD_lt s k 0 J] at t x HT;generalize s.getD k 0=y at*;by_cases R:127<y
   ·have HF:Hid (D=([],12)):=aW0 (by rw [d.out,if_pos (x.out (by simp [R]))]);have g:=M.out.trans' Q.out;go_wp2_with fail;go_ret2;exact ⟨none,0,0,by rw [HF.out];rfl,by rw [HF.out];exact aX.nil_ _,g⟩
   ·have ai:Hid ((s.take (k+1)).any (fun b=>decide (127<b))=false):=aW0 (by rw [t.out,O.out];simp;omega);obtain ⟨A5,c5,w5,S,i,j,_⟩:=a6e HO.out Q.out y (by omega);have kC:Hid (bJ w5 w1.heap.size A5 (k+1) c5 (s.take (k+1))):=aW0 (by rw [HT.out];exact i);have T:=aW0 j;clear i j O t x HT;go_wp2_with (at_builtin;refine aF rfl _ _ _ rfl _ _ rfl rfl _ _ S ?_);go_roundg (s.length - (k+1))
    case measure=>omega
    case rel=>exact ⟨A5,c5,k+1,by omega,by go_num,rfl,kC.out,T.out,ai⟩
  ·have he:s.take k=s:=List.take_of_length_le (by omega);rw [he] at HO O;rw [if_neg (by rw [O.out];simp)] at d;have z:=aW0 (M.out.trans' Q.out);have U:=aW0 (bJ.ints HO.out);have aN:k≤s.length∧s.length≤k:=by omega
   clear O HO he Q;generalize wr=w3 at*;by_cases V:63<s.length
   ·rw [if_pos V] at d;have g:=z.out;go_wp2_with fail;go_ret2;exact ⟨none,0,0,by rw [d.out];rfl,by rw [d.out];exact aX.nil_ _,g⟩
   rw [if_neg V] at d;have B:=aW0 (aMN s p.out w3);obtain ⟨X,hX⟩:∃ X,isX s=X:=⟨_,rfl⟩
   have pK:Hid (X=true→4≤s.length):=aW0 (by
    intro h;rw [← hX] at h;unfold isX at h;rw [aYr] at h
    exact of_decide_eq_true h.1)
   rw [hX] at d B;clear hX;go_wp2_with fail;refine B.out.mono ?_;rintro e w4 ⟨rfl,C⟩;have T:=aW0 (z.out.trans' C);have U7:=aW0 (U.out.ext C);clear B C z U;cases X
   ·rw [if_pos rfl] at d;have g:=T.out;have hi:=U7.out;go_wp2_with fail;go_ret2;exact ⟨A,_,c,by rw [d.out];rfl,by rw [d.out];exact hi,g⟩
   rw [if_neg (by simp)] at d;have h4:=pK.out rfl;have Y:∀ W,(Instr.slice 9 (.string (sB s)) (some (.int .i64 4)) none none).run prog W= .ok (.string (sB (s.drop 4))) W:=fun W=>a2l W (l:=s) (k:=4) h4
   have Z:(s.drop 4).length≤63:=by rw [List.length_drop];omega
   have a0:=aW0 (aLn (s.drop 4) (a0m p.out 4) (by omega) w4);have a1:=aW0 (fun W=>aLn s p.out (by omega) W);have al:=aW0 (aLt (a0m p.out 4));have a2:=aW0 (aMZ (aKa (s.drop 4)));have b2:(aKa (s.drop 4)).length≤63:=by rw [aLV];exact Z
   have a3:=aW0 (fun W=>aJw (aKa (s.drop 4)) al.out W);have am:=aW0 (aLt p.out);clear pK Z;generalize s.drop 4=s4 at*;generalize aKa s4=u at*;generalize aKa s=sl at*;go_wp2_with fail;refine a0.out.mono ?_;rintro e w5 ⟨rfl,j⟩;have xM:=aW0 (T.out.trans' j);clear a0 j T U7 Y;go_wp2_with fail;refine (a3.out w5).mono ?_;rintro e w6 ⟨A6,n6,c6,rfl,OV,a4⟩;have LV:=aW0 (xM.out.trans' a4);have ap:=a2.out;generalize pdU u=P at*;obtain ⟨q,pe⟩:=P;simp only at d OV ap;have aq:=OV.len.1;subst aq;have QV:=aW0 OV;clear xM a4 OV a3 a2;by_cases F:pe=0
   case neg=>
    rw [if_pos F] at d;have g:=LV.out;go_wp2_with fail;go_ret2;exact ⟨none,0,0,by rw [d.out];rfl,by rw [d.out];exact aX.nil_ _,g⟩
   rw [if_neg (by rw [F];simp)] at d;subst F;have a5:=aW0 (fun W (h:Ext w6 W)=>aMK q A6 q.length c6 W (QV.out.ext h));have a6:=aW0 (aMO q A6 q.length c6 w6 QV.out (by omega));have a7:=aW0 (aMc q);generalize aLb q=av at*;generalize alE q=E at*;obtain ⟨ae,ee⟩:=E;simp only at d a7;have a8:=a3Z a7.out am.out;go_wp2_with fail;refine (a5.out w6 (Ext.refl _)).mono ?_;rintro e w' ⟨rfl,rfl⟩;cases av
   case true=>
    rw [if_pos rfl] at d;have g:=LV.out;go_wp2_with fail;go_ret2;exact ⟨none,0,0,by rw [d.out];rfl,by rw [d.out];exact aX.nil_ _,g⟩
   rw [if_neg (by simp)] at d;go_wp2_with fail;refine a6.out.mono ?_;rintro e w7 ⟨rfl,G⟩;have rU:=aW0 (LV.out.trans' G);have au:=aW0 (QV.out.ext G);clear LV G QV a6 a5;by_cases H:ee=0
   case neg=>
    rw [if_pos (.inl H)] at d;have b5:(ee != 0)=true:=bN' H;have g:=rU.out;go_wp2_with fail;go_ret2;exact ⟨none,0,0,by rw [d.out];rfl,by rw [d.out];exact aX.nil_ _,g⟩
   subst H;by_cases m:ae=sl
   ·rw [if_neg (by simp [m])] at d;rw [decide_eq_true m] at a8;go_wp2_with fail;refine (a1.out _).mono ?_;rintro e w8 ⟨rfl,n⟩;have g:=rU.out.trans' n;have hi:=au.out.ext n;go_wp2_with fail;go_ret2;exact ⟨A6,_,c6,by rw [d.out];rfl,by rw [d.out];exact hi,g⟩
   ·rw [if_pos (.inr m)] at d;rw [decide_eq_false m] at a8;go_wp2_with fail;refine (a1.out _).mono ?_;rintro e w8 ⟨rfl,n⟩;have g:=rU.out.trans' n;go_wp2_with fail;go_ret2;exact ⟨none,0,0,by rw [d.out];rfl,by rw [d.out];exact aX.nil_ _,g⟩
def aMd (w1:World) (s:List Int) (g:Nat) (so si:Value) (wx:World):Prop:=
 ∃ (A:Option Addr) (c k:Nat),g+k=s.length∧si= .int .i64 k∧so= .slice A k c∧bJ wx w1.heap.size A k c (s.take k)∧Ext w1 wx∧Hid ((s.take k).any (fun b=>decide (127<b))=false)
theorem aMh (s:List Int) (hs:IsB s) (hm:s.length≤1000000) (w:World):Calls prog 55 #[.string (sB s)] w (aK2 w (alD s)):=by
 have d:Hid (alD s=if s.length=0 then ([],10) else if s.any (fun b=>decide (127<b)) then ([],12) else if 63<s.length then ([],11) else if isX s=false then (s,0)
  else if (pdU (aKa (s.drop 4))).2≠0 then ([],(pdU (aKa (s.drop 4))).2) else if aLb (pdU (aKa (s.drop 4))).1=true then ([],12)
  else if (alE (pdU (aKa (s.drop 4))).1).2≠0∨(alE (pdU (aKa (s.drop 4))).1).1≠aKa s then ([],12) else ((pdU (aKa (s.drop 4))).1,0)):=rfl
 have r:=aW0 hs;generalize alD s=D at*;clear hs;have t:=aJ0 s;by_cases I:s.length=0
 ·rw [if_pos I] at d;rw [List.eq_nil_of_length_eq_zero I,show ([]:List Int).isEmpty=true from rfl] at t;rw [List.eq_nil_of_length_eq_zero I];clear I;go_enter func55,ntmps55;go_wp2_with fail;go_ret2;exact ⟨none,0,0,by rw [d.out];rfl,by rw [d.out];exact aX.nil_ w,Ext.refl _⟩
 rw [if_neg I] at d;rw [show s.isEmpty=false from by cases s with|nil=>exact absurd rfl I|cons a b=>rfl] at t;have J:Hid (Ext w w):=aW0 (Ext.refl _);go_enter func55,ntmps55;go_wp2_with fail;clear t;go_loopg [4,5] s.length (fun gh so si wx=>aMd w s gh so si wx)
 case atStart=>exact ⟨none,0,0,by omega,rfl,rfl,Own.nil_ _ _ _ _,Ext.refl _,rfl⟩
 case round=>
  obtain ⟨A,c,k,hg,rfl,rfl,p,K,L⟩:=hrel;have HO:=aW0 p;have HX:=aW0 K;clear p K;by_cases M:k<s.length
  ·have hr:=a9U r.out k;have aA:∀ W,(Instr.index 9 (.string (sB s)) (.int .i64 (k:Int))).run prog W= .ok (.int .u8 (s.getD k 0)) W:=ixc r.out M;have x:=aW0 (a9W (f:=fun b=>decide (127<b)) M);have z:=aW0 (anyM (f:=fun b=>decide (127<b)) M);have HT:Hid (s.take (k+1)=s.take k++[s[k]]):=aW0 (List.take_succ_eq_append_getElem M);rw [← getD_lt s k 0 M] at x z HT;generalize s.getD k 0=y at*;by_cases N:127<y
   ·have HF:Hid (D=([],12)):=aW0 (by rw [d.out,if_pos (z.out (by simp [N]))]);have g:=J.out.trans' HX.out;go_wp2_with fail;go_ret2;exact ⟨none,0,0,by rw [HF.out];rfl,by rw [HF.out];exact aX.nil_ _,g⟩
   ·have ac:Hid ((s.take (k+1)).any (fun b=>decide (127<b))=false):=aW0 (by rw [x.out,L.out];simp;omega);obtain ⟨A5,c5,w5,O,i,j,_⟩:=a6e HO.out HX.out y (by omega);have kC:Hid (bJ w5 w.heap.size A5 (k+1) c5 (s.take (k+1))):=aW0 (by rw [HT.out];exact i);have Q:=aW0 j;clear i j L x z HT;go_wp2_with (at_builtin;refine aF rfl _ _ _ rfl _ _ rfl rfl _ _ O ?_);go_roundg (s.length - (k+1))
    case measure=>omega
    case rel=>exact ⟨A5,c5,k+1,by omega,by go_num,rfl,kC.out,Q.out,ac⟩
  ·have he:s.take k=s:=List.take_of_length_le (by omega);rw [he] at HO L;rw [if_neg (by rw [L.out];simp)] at d;have B:=aW0 (J.out.trans' HX.out);have R:=aW0 (bJ.ints HO.out);have aE:k≤s.length∧s.length≤k:=by omega
   clear L HO he HX;generalize wr=w3 at*;by_cases S:63<s.length
   ·rw [if_pos S] at d;have g:=B.out;go_wp2_with fail;go_ret2;exact ⟨none,0,0,by rw [d.out];rfl,by rw [d.out];exact aX.nil_ _,g⟩
   rw [if_neg S] at d;have C:=aW0 (aMM s r.out w3);obtain ⟨X,hX⟩:∃ X,isX s=X:=⟨_,rfl⟩
   have pK:Hid (X=true→4≤s.length):=aW0 (by
    intro h;rw [← hX] at h;unfold isX at h;rw [aYr] at h
    exact of_decide_eq_true h.1)
   rw [hX] at d C;clear hX;go_wp2_with fail;refine C.out.mono ?_;rintro e w4 ⟨rfl,F⟩;have Q:=aW0 (B.out.trans' F);have U7:=aW0 (R.out.ext F);clear C F B R;cases X
   ·rw [if_pos rfl] at d;have g:=Q.out;have hi:=U7.out;go_wp2_with fail;go_ret2;exact ⟨A,_,c,by rw [d.out];rfl,by rw [d.out];exact hi,g⟩
   rw [if_neg (by simp)] at d;have h4:=pK.out rfl;have T:∀ W,(Instr.slice 9 (.string (sB s)) (some (.int .i64 4)) none none).run prog W= .ok (.string (sB (s.drop 4))) W:=fun W=>a2l W (l:=s) (k:=4) h4
   have U:(s.drop 4).length≤63:=by rw [List.length_drop];omega
   have V:=aW0 (aLc (s.drop 4) (a0m r.out 4) (by omega) w4);have Y:=aW0 (fun W=>aLc s r.out (by omega) W);have ag:=aW0 (aLt (a0m r.out 4));have Z:=aW0 (aMZ (aKa (s.drop 4)));have aI:(aKa (s.drop 4)).length≤63:=by rw [aLV];exact U
   have a0:=aW0 (fun W=>aKV (aKa (s.drop 4)) ag.out W);have ah:=aW0 (aLt r.out);clear pK U;generalize s.drop 4=s4 at*;generalize aKa s4=u at*;generalize aKa s=sl at*;go_wp2_with fail;refine V.out.mono ?_;rintro e w5 ⟨rfl,j⟩;have xM:=aW0 (Q.out.trans' j);clear V j Q U7 T;go_wp2_with fail;refine (a0.out w5).mono ?_;rintro e w6 ⟨A6,n6,c6,rfl,OV,a1⟩;have LV:=aW0 (xM.out.trans' a1);have ak:=Z.out;generalize pdU u=P at*;obtain ⟨q,pe⟩:=P;simp only at d OV ak;have al:=OV.len.1;subst al;have QV:=aW0 OV;clear xM a1 OV a0 Z;by_cases G:pe=0
   case neg=>
    rw [if_pos G] at d;have g:=LV.out;go_wp2_with fail;go_ret2;exact ⟨none,0,0,by rw [d.out];rfl,by rw [d.out];exact aX.nil_ _,g⟩
   rw [if_neg (by rw [G];simp)] at d;subst G;have a2:=aW0 (fun W (h:Ext w6 W)=>aMI q A6 q.length c6 W (QV.out.ext h));have a3:=aW0 (aMX q A6 q.length c6 w6 QV.out (by omega));have a4:=aW0 (aMc q);generalize aLb q=av at*;generalize alE q=E at*;obtain ⟨ae,ee⟩:=E;simp only at d a4;have a5:=a3Z a4.out ah.out;go_wp2_with fail;refine a3.out.mono ?_;rintro e w7 ⟨rfl,m⟩;have rU:=aW0 (LV.out.trans' m);have am:=aW0 (QV.out.ext m);have an:=aW0 (a2.out w7 m);clear LV m QV a3 a2;go_wp2_with fail;refine an.out.mono ?_;rintro e w' ⟨rfl,rfl⟩;cases av
   case true=>
    rw [if_pos rfl] at d;have g:=rU.out;go_wp2_with fail;go_ret2;exact ⟨none,0,0,by rw [d.out];rfl,by rw [d.out];exact aX.nil_ _,g⟩
   rw [if_neg (by simp)] at d;by_cases H:ee=0
   case neg=>
    rw [if_pos (.inl H)] at d;have aR:(ee != 0)=true:=bN' H;have g:=rU.out;go_wp2_with fail;go_ret2;exact ⟨none,0,0,by rw [d.out];rfl,by rw [d.out];exact aX.nil_ _,g⟩
   subst H;by_cases n:ae=sl
   ·rw [if_neg (by simp [n])] at d;rw [decide_eq_true n] at a5;go_wp2_with fail;refine (Y.out _).mono ?_;rintro e w8 ⟨rfl,o⟩;have g:=rU.out.trans' o;have hi:=am.out.ext o;go_wp2_with fail;go_ret2;exact ⟨A6,_,c6,by rw [d.out];rfl,by rw [d.out];exact hi,g⟩
   ·rw [if_pos (.inr n)] at d;rw [decide_eq_false n] at a5;go_wp2_with fail;refine (Y.out _).mono ?_;rintro e w8 ⟨rfl,o⟩;have g:=rU.out.trans' o;go_wp2_with fail;go_ret2;exact ⟨none,0,0,by rw [d.out];rfl,by rw [d.out];exact aX.nil_ _,g⟩
noncomputable def aQg (l:List Int):List Int × Int:=if (aLb l&&isX l)=true then alD l else (l,0)
noncomputable def aQy (T:bK) (l:List Int):List Int × Int:=if (aQg l).2≠0 then ([],(aQg l).2) else if qB T (aQg l).1≠0 then ([],qB T (aQg l).1) else ((aQg l).1,0)
theorem aQs {l:List Int} (h:aLb l=true):∀ c∈l,0≤c∧c≤127:=by
 intro c a;unfold aLb at h;rw [Bool.not_eq_true',List.any_eq_false] at h;have:=h c a;simp only [Bool.or_eq_true,aYu] at this;omega
theorem aQv {l:List Int} (h:aLb l=true):IsB l:=fun c hc=>by
 have:=aQs h c hc;omega
theorem aQp:∀ {l:List Int},(∀ c∈l,0≤c∧c≤127)→a4l l=l
 |[],_=>rfl
 |x::r,h=>by
  have a:=aQp fun c hc=>h c (List.mem_cons_of_mem _ hc)
  have b:=h x (List.mem_cons_self ..);show enc1 x++a4l r=x::r
  rw [a,enc1,if_pos b.2];rfl
theorem aQw {l:List Int} (h:aLb l=true) (i:l.length≤4096):a7q l=(l,0):=by
 have a:=aQs h;unfold a7q;rw [if_neg (by omega),if_neg,aQp a];intro b;rw [List.any_eq_true] at b;obtain ⟨c,f,d⟩:=b;have:=a c f;have g:bD c=true:=by simp only [bD,aYr,Bool.or_eq_true,aYu];omega
 rw [g] at d;cases d
theorem aR3 (T:bK) (t:TV) (l:List Int) (A:Option Addr) (n c:Nat) (w:World) (ht:bT w t T) (hi:aX w ⟨A,n,c⟩ l) (W:l.length≤4096):
 Calls prog 100 #[t.v,.slice A n c] w (aK2 w (aQy T l)):=by
 have r:=aUt w t;have C:=aW0 r;have HT:=aW0 (ht.aQ r);have P:=aW0 (hi.ext r);have M:=aW0 (aMK l A n c _ P.out);have y:Hid (aQy T l=if (aQg l).2≠0 then ([],(aQg l).2) else if qB T (aQg l).1≠0 then ([],qB T (aQg l).1) else ((aQg l).1,0)):=rfl;have g:Hid (aQg l=if (aLb l&&isX l)=true then alD l else (l,0)):=rfl;generalize aQy T l=D at*;generalize aQg l=E at*;have J:Hid (∀ w',Ext (tW' w t) w'→Calls prog 145 #[t.v,.slice A n c] w' fun e w''=>e= .returned (.int .i64 (qB T l))∧Ext w' w''):=aW0 (fun w' h=>iU T t l A n c w' (HT.out.aQ h) (P.out.ext h));cases z:aLb l
 ·rw [z] at M;have I:=aW0 (g.out.trans (by rw [z];rfl:_=(l,(0:Int))));have p:=y;rw [I.out] at p;have i:Hid (D=if qB T l≠0 then ([],qB T l) else (l,0)):=aW0 p.out;clear ht hi r W z p y g I;generalize qB T l=v at*;go_enter func100,ntmps100;go_wp2_with fail;refine M.out.mono ?_;rintro e X ⟨rfl,rfl⟩;go_wp2_with fail;refine (J.out _ (Ext.refl _)).mono ?_;rintro e w4 ⟨rfl,a⟩;have s:=aW0 (P.out.ext a);have q:=C.out.trans' a;clear a;by_cases b:v=0
  ·have f:=aW0 (i.out.trans (if_neg (by rw [b];simp)));have N:(v != 0)=false:=bZ' b;clear b;go_wp2_with fail;go_ret2;exact ⟨A,n,c,by rw [f.out];rfl,by rw [f.out];exact s.out,q⟩
  ·have f:=aW0 (i.out.trans (if_pos b));have N:(v != 0)=true:=bN' b;clear b;go_wp2_with fail;go_ret2;exact ⟨none,0,0,by rw [f.out];rfl,by rw [f.out];exact aX.nil_ _,q⟩
 ·rw [z] at M;have U:=aW0 (uenc_spec l A n c (tW' w t) P.out);rw [aQw z W] at U;have Q:Hid (∀ w':World,Calls prog 143 #[.string (sB l)] w' fun e w''=>e= .returned (.bool (isX l))∧Ext w' w''):=aW0 fun w'=>aMN l (aQv z) w'
  have K:Hid (∀ w':World,Calls prog 144 #[.string (sB l)] w' (aK2 w' (alD l))):=aW0 fun w'=>aMi l (aQv z) (by omega) w'
  rw [z] at g;cases q:isX l
  ·rw [q] at Q g;have I:=aW0 (g.out.trans (by rfl:_=(l,(0:Int))));have p:=y;rw [I.out] at p;have i:Hid (D=if qB T l≠0 then ([],qB T l) else (l,0)):=aW0 p.out;clear ht hi r W z p y g I q K;generalize qB T l=v at*;go_enter func100,ntmps100;go_wp2_with fail;refine M.out.mono ?_;rintro e X ⟨rfl,rfl⟩;go_wp2_with fail;refine (U.out).mono ?_;rintro e R ⟨rfl,j⟩;go_wp2_with fail;refine (Q.out R).mono ?_;rintro e O ⟨rfl,o⟩;have F:=aW0 (j.trans' o);have Z:∀ k:Nat,O.cell? ⟨w.heap.size,k,none⟩=t.v.cells[k]? :=aO F.out;clear j o;go_wp2_with fail;refine (J.out O F.out).mono ?_;rintro e w4 ⟨rfl,a⟩;have s:=aW0 (P.out.ext (F.out.trans' a));have q:=C.out.trans' (F.out.trans' a);clear a Z;by_cases b:v=0
   ·have f:=aW0 (i.out.trans (if_neg (by rw [b];simp)));have N:(v != 0)=false:=bZ' b;clear b;go_wp2_with fail;go_ret2;exact ⟨A,n,c,by rw [f.out];rfl,by rw [f.out];exact s.out,q⟩
   ·have f:=aW0 (i.out.trans (if_pos b));have N:(v != 0)=true:=bN' b;clear b;go_wp2_with fail;go_ret2;exact ⟨none,0,0,by rw [f.out];rfl,by rw [f.out];exact aX.nil_ _,q⟩
  ·rw [q] at Q g;have I:=aW0 (g.out.trans (by rfl:_=alD l));rw [I.out] at y;clear ht hi r W z g I q J;generalize alD l=Y at*;obtain ⟨m,ev⟩:=Y;simp only [] at y;by_cases G:ev=0
   ·subst G;have i:Hid (D=if qB T m≠0 then ([],qB T m) else (m,0)):=aW0 y.out;have a0:Hid (∀ B k d w',Ext (tW' w t) w'→aX w' ⟨B,k,d⟩ m→Calls prog 145 #[t.v,.slice B k d] w' fun e w''=>e= .returned (.int .i64 (qB T m))∧Ext w' w''):=aW0 (fun B k d w' h hi=>iU T t m B k d w' (HT.out.aQ h) hi);generalize qB T m=v at*;clear y;go_enter func100,ntmps100;go_wp2_with fail;refine M.out.mono ?_;rintro e X ⟨rfl,rfl⟩;go_wp2_with fail;refine (U.out).mono ?_;rintro e R ⟨rfl,j⟩;go_wp2_with fail;refine (Q.out R).mono ?_;rintro e O ⟨rfl,o⟩;go_wp2_with fail;refine (K.out O).mono ?_;rintro e V ⟨B,k,d,rfl,H,x⟩;have L:Hid (Ext (tW' w t) V):=aW0 ((j.trans' o).trans' x);have S:=aW0 H;have Z:∀ k:Nat,V.cell? ⟨w.heap.size,k,none⟩=t.v.cells[k]? :=aO L.out;clear j o x H;go_wp2_with fail;refine (a0.out B k d V L.out S.out).mono ?_;rintro e w4 ⟨rfl,a⟩;have s:=aW0 (S.out.ext a);have q:=(C.out.trans' L.out).trans' a;clear a Z;by_cases b:v=0
    ·have f:=aW0 (i.out.trans (if_neg (by rw [b];simp)));have N:(v != 0)=false:=bZ' b;clear b;go_wp2_with fail;go_ret2;exact ⟨B,k,d,by rw [f.out];rfl,by rw [f.out];exact s.out,q⟩
    ·have f:=aW0 (i.out.trans (if_pos b));have N:(v != 0)=true:=bN' b;clear b;go_wp2_with fail;go_ret2;exact ⟨none,0,0,by rw [f.out];rfl,by rw [f.out];exact aX.nil_ _,q⟩
   ·have f:=aW0 (y.out.trans (if_pos G));have N:(ev != 0)=true:=bN' G;clear G y;go_enter func100,ntmps100;go_wp2_with fail;refine M.out.mono ?_;rintro e X ⟨rfl,rfl⟩;go_wp2_with fail;refine (U.out).mono ?_;rintro e R ⟨rfl,j⟩;go_wp2_with fail;refine (Q.out R).mono ?_;rintro e O ⟨rfl,o⟩;go_wp2_with fail;refine (K.out O).mono ?_;rintro e V ⟨B,k,d,rfl,H,x⟩;have q:=((C.out.trans' j).trans' o).trans' x;clear j o x H;go_wp2_with fail;go_ret2;exact ⟨none,0,0,by rw [f.out];rfl,by rw [f.out];exact aX.nil_ _,q⟩
theorem aQW (w:World) (ks:List Int) (a:ks.length≤1000):aX (w.alloc (.cells (ks.map (Value.int .i64)).toArray 3)) ⟨some ⟨w.heap.size,0,none⟩,ks.length,ks.length⟩ ks:=by
 refine ⟨⟨rfl,Nat.le_refl _,by simp only [maxLen];omega⟩,fun i y hy=>⟨w.heap.size,0,rfl,?_⟩⟩;rw [Nat.zero_add,aO (Ext.refl _) i];simp [hy]
theorem aQP {T:bK} (h:lV T=true):P8 T.tY:=aOB (aPc h)
theorem take_any {T:bK} {ks:List Int} (l:List Int) (k:Nat) (a:k<l.length):aOy ks (aPE T (l.take (k+1)))=(aOy ks (aPE T (l.take k))||ks.any fun y=>y==aYy T l[k]):=by
 rw [aPt T l k a,aQ3]
theorem aQL {T:bK} {ks:List Int} {l:List Int} {k j:Nat} (a:k<l.length) (b:j<ks.length) (h:aYy T l[k]=ks[j]):aOy ks (aPE T l)=true:=by
 unfold aOy;rw [List.any_eq_true];exact ⟨aYy T l[k],List.mem_map.2 ⟨_,List.getElem_mem a,rfl⟩,List.any_eq_true.2 ⟨ks[j],List.getElem_mem b,by rw [h];simp⟩⟩
def AnL (T:bK) (w0:World) (ks l:List Int) (gh:Nat) (s13:Value) (wx:World):Prop:=
 ∃ (k:Nat),k+gh=l.length∧s13= .int .i64 k∧Hid (aOy ks (aPE T (l.take k))=false)∧Hid (Ext w0 wx)
def aQb (w0:World) (ks:List Int) (q:Int) (gh:Nat) (IE:Value) (wx:World):Prop:=
 ∃ (j:Nat),j+gh=ks.length∧IE= .int .i64 j∧Hid (((ks.take j).any fun y=>y==q)=false)∧Hid (Ext w0 wx)
theorem aQX (T:bK) (t:TV) (l ks:List Int) (A:Option Addr) (n c:Nat) (K:Option Addr) (m d:Nat) (w:World) (ht:bT w t T) (hi:aX w ⟨A,n,c⟩ l) (W:lV T=true) (X:l.length≤4096) (R:aX w ⟨K,m,d⟩ ks) (F:ks.length≤4096):
 Calls prog 58 #[t.v,.slice A n c,.slice K m d] w fun e w'=>e= .returned (.bool (aOy ks (aPE T l)))∧Ext w w':=by
 have g:=aUt w t;have p:=aW0 g;have Y:=aW0 (ht.aQ g);have Z:=aW0 (hi.ext g);have HK:=aW0 (R.ext g);have HW:=aW0 W;have HM:=aW0 X;have G:=aW0 F;have hn:=hi.len.1;subst hn;have H:=R.len.1;subst H;clear ht hi g W X R F;go_enter func58,ntmps58;go_wp2_with fail;go_loopg [13] l.length (fun gh s13 wx=>AnL T (tW' w t) ks l gh s13 wx)
 case atStart=>exact ⟨0,by omega,rfl,aW0 rfl,aW0 (Ext.refl _)⟩
 case round=>
  obtain ⟨k,a4,rfl,S,I⟩:=hrel;have f:=p.out.trans' I.out;have a5:l.length≤4096:=HM.out;have a6:ks.length≤4096:=G.out;by_cases r:k<l.length
  ·obtain ⟨J,rfl⟩:∃ g',gk=g'+1:=⟨gk - 1,by omega⟩;obtain ⟨b,o,rfl,a7⟩:=(Z.out.ext I.out).at_ r;have L:=aW0 (take_any (T:=T) (ks:=ks) l k r);have D:Hid (∀ j,(B:j<ks.length)→aYy T l[k]=ks[j]→aOy ks (aPE T l)=true):=aW0 (fun j B h=>aQL r B h);generalize l[k]=x at*;have U:Hid (∀ w',Ext (tW' w t) w'→Calls prog 94 #[t.v,.int .i64 x] w' fun e w''=>e= .returned (.int .i64 (aYy T x))∧Ext w' w''):=aW0 (fun w' h=>aO9 t T x w' (Y.out.aQ h) (aQP HW.out));generalize aYy T x=q at*;have a8:=z0' k;have a9:(k:Int)<(l.length:Int):=by omega
   clear f;go_wp2_with fail;rename_i aa;go_loopg [19] ks.length (fun gh IE wx=>aQb (tW' w t) ks q gh IE wx)
   case atStart=>exact ⟨0,by omega,rfl,aW0 rfl,I⟩
   case round=>
    obtain ⟨j,ab,rfl,s,a⟩:=hrel;have f:=p.out.trans' a.out;have M:∀ k:Nat,wr.cell? ⟨w.heap.size,k,none⟩=t.v.cells[k]? :=aO a.out;by_cases B:j<ks.length
    ·obtain ⟨N,rfl⟩:∃ g',gk=g'+1:=⟨gk - 1,by omega⟩;obtain ⟨b2,o2,rfl,ac⟩:=(HK.out.ext a.out).at_ B;have E:=aW0 (aRT (fun y=>y==q) ks j B);have z:=aW0 (D.out j B);generalize ks[j]=y at*;have ad:=z0' j;have ae:(j:Int)<(ks.length:Int):=by omega
     by_cases C:q=y
     ·have e1:(q==y)=true:=by rw [beq_iff_eq];exact C
      have HV:=aW0 (z.out C);clear C z D f;go_wp2_with fail;refine (U.out _ a.out).mono ?_;rintro e w3 ⟨rfl,i⟩;have hx:=(p.out.trans' a.out).trans' i;clear M i;go_wp2_with fail;go_ret;exact ⟨by rw [HV.out];rfl,hx⟩
     ·have e1:(q==y)=false:=by rw [aYs];exact C
      have O:Hid (((ks.take (j+1)).any fun y=>y==q)=false):=aW0 (by rw [E.out,s.out,Bool.false_or,aYs];exact fun h=>C h.symm);clear C z E s f;go_wp2_with fail;refine (U.out _ a.out).mono ?_;rintro e w3 ⟨rfl,i⟩;have P:=aW0 (a.out.trans' i);clear M i;go_wp2_with fail;go_roundg N
      case measure=>omega
      case rel=>exact ⟨j+1,by omega,by go_num,O,P⟩
    ·have Q:Hid (aOy ks (aPE T (l.take (k+1)))=false):=aW0 (by
      have V:=s.out;rw [List.take_of_length_le (by omega)] at V;rw [L.out,S.out,Bool.false_or]
      exact V)
     clear M f;go_wp2_with fail;go_roundg J
     case measure=>omega
     case rel=>exact ⟨k+1,by omega,by go_num,Q,a⟩
  ·have HE:Hid (aOy ks (aPE T l)=false):=aW0 (by rw [← S.out,List.take_of_length_le (by omega)]);go_wp2_with fail;go_ret;exact ⟨by rw [HE.out];rfl,f⟩
def RlL (T:bK) (w0:World) (l:List Int) (gh:Nat) (s5 s11:Value) (wx:World):Prop:=
 ∃ (k:Nat),k+gh=l.length∧s11= .int .i64 k∧s5= .int .i64 (lastB (aPE T (l.take k)))∧Hid (Ext w0 wx)
theorem aQS (T:bK) (t:TV) (l:List Int) (A:Option Addr) (n c:Nat) (w:World) (ht:bT w t T) (hi:aX w ⟨A,n,c⟩ l) (z:lV T=true) (B:l.length≤4096):
 Calls prog 127 #[t.v,.slice A n c] w fun e w'=>e= .returned (.int .i64 (lastB (aPE T l)))∧Ext w w':=by
 have d:=aUt w t;have r:=aW0 d;have C:=aW0 (ht.aQ d);have D:=aW0 (hi.ext d);have E:=aW0 z;have F:=aW0 B;have G:=hi.len.1;subst G;clear ht hi d z B;go_enter func127,ntmps127;go_wp2_with fail;go_loopg [5,11] l.length (fun gh s5 s11 wx=>RlL T (tW' w t) l gh s5 s11 wx)
 case atStart=>exact ⟨0,by omega,rfl,rfl,aW0 (Ext.refl _)⟩
 case round=>
  obtain ⟨k,H,rfl,rfl,h⟩:=hrel;have i:=r.out.trans' h.out;have I:l.length≤4096:=F.out;have s:∀ k:Nat,wr.cell? ⟨w.heap.size,k,none⟩=t.v.cells[k]? :=aO h.out;by_cases j:k<l.length
  ·obtain ⟨m,rfl⟩:∃ g',gk=g'+1:=⟨gk - 1,by omega⟩;obtain ⟨b,o,rfl,J⟩:=(D.out.ext h.out).at_ j;have p:Hid (lastB (aPE T (l.take (k+1)))=if aYy T l[k]=10 then lastB (aPE T (l.take k)) else aYy T l[k]):=aW0 (by rw [aPt T l k j,aPk]);generalize l[k]=x at*;have y:=aW0 (aO9 t T x wr (C.out.aQ h.out) (aQP E.out));generalize aYy T x=q at*;have K:=z0' k;have L:(k:Int)<(l.length:Int):=by omega
   clear i;by_cases h10:q=10
   ·have M:(q != 10)=false:=by rw [h10];rfl
    have f:=aW0 (p.out.trans (if_pos h10));clear h10 p;go_wp2_with fail;refine y.out.mono ?_;rintro e N ⟨rfl,a⟩;have g:=aW0 (h.out.trans' a);clear s a;go_wp2_with fail;go_roundg m
    case measure=>omega
    case rel=>exact ⟨k+1,by omega,by go_num,by rw [f.out],g⟩
   ·have M:(q != 10)=true:=bN' h10;have f:=aW0 (p.out.trans (if_neg h10));clear h10 p;go_wp2_with fail;refine y.out.mono ?_;rintro e N ⟨rfl,a⟩;have g:=aW0 (h.out.trans' a);clear s a;go_wp2_with fail;go_roundg m
    case measure=>omega
    case rel=>exact ⟨k+1,by omega,by go_num,by rw [f.out],g⟩
  ·have O:Hid (l.take k=l):=aW0 (List.take_of_length_le (by omega));clear s;go_wp2_with fail;go_ret;exact ⟨by rw [O.out];rfl,i⟩
end Go.Proofs.YtjccgagakfndpaaGreatDoor
