/- Part Ya37. -/
import Derived.Test.YtjccgagakfndpaaGreatDoorYa36
open Go.Proofs.Tryz
namespace Go.Proofs.YtjccgagakfndpaaGreatDoor
set_option maxHeartbeats 25600000
set_option maxRecDepth 100000
open Go.RowKit
theorem aMV (b:Int):∀ (ds:List (Option Int)) (j v w x:Int) (r:List (Option Int)),aBY b ds j v w=some (x,r)→r.length<ds.length
 |[],_,_,_,_,_,h=>by cases h
 |none::_,_,_,_,_,_,h=>by cases h
 |some d::ds,j,v,w,x,r,h=>by
  unfold aBY at h;split at h
  ·injection h with h;injection h with _ h;subst h;simp
  ·have:=aMV b ds _ _ _ _ _ h;simp only [List.length_cons];omega
theorem aMU:∀ (g:Nat) (ds:List (Option Int)) (o:List Int) (n i b:Int) (f:Bool) (l:List Int),0≤i→decP g ds o n i b f= .ok l→l.length≤o.length+ds.length
 |0,_,o,_,_,_,_,l,_,h=>by
  unfold decP at h;injection h with h;subst h;omega
 |g+1,ds,o,n,i,b,f,l,hi,h=>by
  by_cases a:ds=[]
  ·subst a;unfold decP at h;injection h with h;subst h;simp
  ·rw [aKA a] at h;split at h
   ·cases h
   ·rename_i v r c;have j:=aMV b ds 0 0 1 v r c;split at h
    ·cases h
    ·split at h
     ·cases h
     ·have k:=Int.emod_nonneg (v+i) (b:=(o.length:Int)+1) (by omega);have d:=Int.emod_lt_of_pos (v+i) (b:=(o.length:Int)+1) (by omega);have:=aMU g r _ _ _ _ _ l (by omega) h;rw [aIv _ _ _ (by omega)] at this;omega
theorem aMZ (s:List Int):(pdU s).1.length≤s.length:=by
 unfold pdU;split
 ·simp
 ·split
  ·simp
  ·cases a:decP (aJs s).length ((aJs s).map aJA) (s.take (hyB s)) 128 0 72 true with
   |aIZ=>simp [resD]
   |over=>simp [resD]
   |ok l=>
    have h:=aMU _ _ _ _ _ _ _ l (by omega) a;simp only [resD];unfold aJs at h;split at h
    ·rename_i b;rw [b] at h;simpa using h
    ·simp at h;omega
theorem aMc (l:List Int):IsB (alE l).1:=by
 unfold alE;split
 ·exact a2g
 ·split
  ·rename_i b;split
   ·exact a2g
   ·intro x a;have:=aMG b x a;omega
  ·split
   ·exact a2g
   ·rename_i c;split
    ·exact a2g
    ·exact a2f (by intro x a;simp at a;omega) (aML l (by omega))
def aMe (w1:World) (s:List Int) (g:Nat) (so si:Value) (wx:World):Prop:=
 ∃ (A:Option Addr) (c k:Nat),g+k=s.length∧si= .int .i64 k∧so= .slice A k c∧bJ wx w1.heap.size A k c (s.take k)∧Ext w1 wx∧Hid ((s.take k).any (fun b=>decide (127<b))=false)
theorem aMi (s:List Int) (hs:IsB s) (hm:s.length≤1000000) (w:World):Calls prog 144 #[.string (sB s)] w (aK2 w (alD s)):=by
 have d:Hid (alD s=if s.length=0 then ([],10) else if s.any (fun b=>decide (127<b)) then ([],12) else if 63<s.length then ([],11) else if isX s=false then (s,0)
  else if (pdU (aKa (s.drop 4))).2≠0 then ([],(pdU (aKa (s.drop 4))).2) else if aLb (pdU (aKa (s.drop 4))).1=true then ([],12)
  else if (alE (pdU (aKa (s.drop 4))).1).2≠0∨(alE (pdU (aKa (s.drop 4))).1).1≠aKa s then ([],12) else ((pdU (aKa (s.drop 4))).1,0)):=rfl
 have p:=aW0 hs;generalize alD s=D at*;clear hs;have r:=aJ0 s;by_cases I:s.length=0
 ·rw [if_pos I] at d;rw [List.eq_nil_of_length_eq_zero I,show ([]:List Int).isEmpty=true from rfl] at r;rw [List.eq_nil_of_length_eq_zero I];clear I;go_enter func144,ntmps144;go_wp2_with fail;go_ret2;exact ⟨none,0,0,by rw [d.out];rfl,by rw [d.out];exact aX.nil_ w,Ext.refl _⟩
 rw [if_neg I] at d;rw [show s.isEmpty=false from by cases s with|nil=>exact absurd rfl I|cons a b=>rfl] at r;obtain ⟨cc,w1,ad,K,L,_⟩:=a1Z (w:=w) p.out (by omega);have af:=aW0 K;have M:=aW0 L;go_enter func144,ntmps144;go_wp2_with fail;clear r ad K L;go_loopg [4,15] s.length (fun gh so si wx=>aMe w1 s gh so si wx)
 case atStart=>exact ⟨none,0,0,by omega,rfl,rfl,Own.nil_ _ _ _ _,Ext.refl _,rfl⟩
 case round=>
  obtain ⟨A,c,k,hg,rfl,rfl,o,N,O⟩:=hrel;have HO:=aW0 o;have Q:=aW0 N;clear o N;by_cases J:k<s.length
  ·have hr:=a9U p.out k;obtain ⟨b',o',hA,ag⟩:=(af.out.ext Q.out).at_ J;injection hA with hA;injection hA with e1 e2;subst e1 e2;rw [Nat.zero_add,← getD_lt s k 0 J] at ag;have t:=aW0 (a9W (f:=fun b=>decide (127<b)) J);have x:=aW0 (anyM (f:=fun b=>decide (127<b)) J);have HT:Hid (s.take (k+1)=s.take k++[s[k]]):=aW0 (List.take_succ_eq_append_getElem J);rw [← getD_lt s k 0 J] at t x HT;generalize s.getD k 0=y at*;by_cases R:127<y
   ·have HF:Hid (D=([],12)):=aW0 (by rw [d.out,if_pos (x.out (by simp [R]))]);have g:=M.out.trans' Q.out;go_wp2_with fail;go_ret2;exact ⟨none,0,0,by rw [HF.out];rfl,by rw [HF.out];exact aX.nil_ _,g⟩
   ·have ai:Hid ((s.take (k+1)).any (fun b=>decide (127<b))=false):=aW0 (by rw [t.out,O.out];simp;omega);obtain ⟨A5,c5,w5,S,i,j,_⟩:=a6e HO.out Q.out y (by omega);have kC:Hid (bJ w5 w1.heap.size A5 (k+1) c5 (s.take (k+1))):=aW0 (by rw [HT.out];exact i);have T:=aW0 j;clear i j O t x HT;go_wp2_with (at_builtin;refine aF rfl _ _ _ rfl _ _ rfl rfl _ _ S ?_);go_roundg (s.length - (k+1))
    case measure=>omega
    case rel=>exact ⟨A5,c5,k+1,by omega,by go_num,rfl,kC.out,T.out,ai⟩
  ·have he:s.take k=s:=List.take_of_length_le (by omega);rw [he] at HO O;rw [if_neg (by rw [O.out];simp)] at d;have z:=aW0 (M.out.trans' Q.out);have U:=aW0 (bJ.ints HO.out);have aN:k≤s.length∧s.length≤k:=by omega
   clear O HO he Q;generalize wr=w3 at*;by_cases V:63<s.length
   ·rw [if_pos V] at d;have g:=z.out;go_wp2_with fail;go_ret2;exact ⟨none,0,0,by rw [d.out];rfl,by rw [d.out];exact aX.nil_ _,g⟩
   rw [if_neg V] at d;have B:=aW0 (aMN s p.out w3);obtain ⟨X,hX⟩:∃ X,isX s=X:=⟨_,rfl⟩
   have pK:Hid (X=true→4≤s.length):=aW0 (by
    intro h;rw [← hX] at h;unfold isX at h;rw [aYr] at h
    exact of_decide_eq_true h.1)
   rw [hX] at d B;clear hX;go_wp2_with fail;refine B.out.mono ?_;rintro e w4 ⟨rfl,C⟩;have T:=aW0 (z.out.trans' C);have U7:=aW0 (U.out.ext C);clear B C z U;cases X
   ·rw [if_pos rfl] at d;have g:=T.out;have hi:=U7.out;go_wp2_with fail;go_ret2;exact ⟨A,_,c,by rw [d.out];rfl,by rw [d.out];exact hi,g⟩
   rw [if_neg (by simp)] at d;have h4:=pK.out rfl;have Y:∀ W,(Instr.slice 9 (.string (sB s)) (some (.int .i64 4)) none none).run prog W= .ok (.string (sB (s.drop 4))) W:=fun W=>a2l W (l:=s) (k:=4) h4
   have Z:(s.drop 4).length≤63:=by rw [List.length_drop];omega
   have a0:=aW0 (aLn (s.drop 4) (a0m p.out 4) (by omega) w4);have a1:=aW0 (fun W=>aLn s p.out (by omega) W);have al:=aW0 (aLt (a0m p.out 4));have a2:=aW0 (aMZ (aKa (s.drop 4)));have b2:(aKa (s.drop 4)).length≤63:=by rw [aLV];exact Z
   have a3:=aW0 (fun W=>aJw (aKa (s.drop 4)) al.out W);have am:=aW0 (aLt p.out);clear pK Z;generalize s.drop 4=s4 at*;generalize aKa s4=u at*;generalize aKa s=sl at*;go_wp2_with fail;refine a0.out.mono ?_;rintro e w5 ⟨rfl,j⟩;have xM:=aW0 (T.out.trans' j);clear a0 j T U7 Y;go_wp2_with fail;refine (a3.out w5).mono ?_;rintro e w6 ⟨A6,n6,c6,rfl,OV,a4⟩;have LV:=aW0 (xM.out.trans' a4);have ap:=a2.out;generalize pdU u=P at*;obtain ⟨q,pe⟩:=P;simp only at d OV ap;have aq:=OV.len.1;subst aq;have QV:=aW0 OV;clear xM a4 OV a3 a2;by_cases F:pe=0
   case neg=>
    rw [if_pos F] at d;have g:=LV.out;go_wp2_with fail;go_ret2;exact ⟨none,0,0,by rw [d.out];rfl,by rw [d.out];exact aX.nil_ _,g⟩
   rw [if_neg (by rw [F];simp)] at d;subst F;have a5:=aW0 (fun W (h:Ext w6 W)=>aMK q A6 q.length c6 W (QV.out.ext h));have a6:=aW0 (aMO q A6 q.length c6 w6 QV.out (by omega));have a7:=aW0 (aMc q);generalize aLb q=av at*;generalize alE q=E at*;obtain ⟨ae,ee⟩:=E;simp only at d a7;have a8:=a3Z a7.out am.out;go_wp2_with fail;refine (a5.out w6 (Ext.refl _)).mono ?_;rintro e w' ⟨rfl,rfl⟩;cases av
   case true=>
    rw [if_pos rfl] at d;have g:=LV.out;go_wp2_with fail;go_ret2;exact ⟨none,0,0,by rw [d.out];rfl,by rw [d.out];exact aX.nil_ _,g⟩
   rw [if_neg (by simp)] at d;go_wp2_with fail;refine a6.out.mono ?_;rintro e w7 ⟨rfl,G⟩;have rU:=aW0 (LV.out.trans' G);have au:=aW0 (QV.out.ext G);clear LV G QV a6 a5;by_cases H:ee=0
   case neg=>
    rw [if_pos (.inl H)] at d;have b5:(ee != 0)=true:=bN' H;have g:=rU.out;go_wp2_with fail;go_ret2;exact ⟨none,0,0,by rw [d.out];rfl,by rw [d.out];exact aX.nil_ _,g⟩
   subst H;by_cases m:ae=sl
   ·rw [if_neg (by simp [m])] at d;rw [decide_eq_true m] at a8;go_wp2_with fail;refine (a1.out _).mono ?_;rintro e w8 ⟨rfl,n⟩;have g:=rU.out.trans' n;have hi:=au.out.ext n;go_wp2_with fail;go_ret2;exact ⟨A6,_,c6,by rw [d.out];rfl,by rw [d.out];exact hi,g⟩
   ·rw [if_pos (.inr m)] at d;rw [decide_eq_false m] at a8;go_wp2_with fail;refine (a1.out _).mono ?_;rintro e w8 ⟨rfl,n⟩;have g:=rU.out.trans' n;go_wp2_with fail;go_ret2;exact ⟨none,0,0,by rw [d.out];rfl,by rw [d.out];exact aX.nil_ _,g⟩
end Go.Proofs.YtjccgagakfndpaaGreatDoor
