/- Part Ya43. -/
import Derived.Test.YtjccgagakfndpaaGreatDoorYa42
open Go.Proofs.Tryz
namespace Go.Proofs.YtjccgagakfndpaaGreatDoor
set_option maxHeartbeats 25600000
set_option maxRecDepth 100000
open Go.RowKit
theorem aX.aRx {w:World} {s z:SV} {l:List Int} (h:aX w s l) {p:Addr} (c:w.cell? p=some z.v) (v:Value):aX (w.setCell p v) s l:=
 ⟨h.1,fun i x hx=>by
  obtain ⟨b,o,d,a⟩:=h.2 i x hx;refine ⟨b,o,d,?_⟩;rw [World.cell?_setCell_other _ _ _ _ (fun e=> ?_)]
  ·exact a
  ·subst e;rw [a] at c
   cases c⟩
structure LsP (w0 w:World) (g N C:Nat) (S:List SV) (ls:List (List Int)):Prop where
 own:aMf w w0.heap.size (some ⟨g,0,none⟩) N C S
 eq:S.length=N
 len:ls.length=N
 ok:∀ (i:Nat) s x,S[i]? =some s→ls[i]? =some x→aX w s x
 ext:Ext w0 w
theorem aMj.lsp {a w:World} {A:Option Addr} {N C:Nat} {ls:List (List Int)} (h:aMj a w A N C ls) (j:Ext a w):∃ g S,A=some ⟨g,0,none⟩∧LsP a w g N C S ls:=by
 obtain ⟨g,S,rfl,b,c,d,f⟩:=h;exact ⟨g,S,rfl,b,c,d,fun i s x hs hl=>(f i s x hs hl).1,j⟩
theorem LsP.aQ {b w w':World} {g N C:Nat} {S:List SV} {ls:List (List Int)} (h:LsP b w g N C S ls) (a:Ext w w'):LsP b w' g N C S ls:=
 ⟨Own.ext h.own a,h.eq,h.len,fun i s x hs hl=>(h.ok i s x hs hl).ext a,h.ext.trans' a⟩
theorem LsP.lists {j w:World} {g N C:Nat} {S:List SV} {ls:List (List Int)} (h:LsP j w g N C S ls):UA w ⟨some ⟨g,0,none⟩,N,C⟩ ls:=by
 obtain ⟨f,h6⟩:=Own.le h.own;have k:=h.eq;have d:=h.len;refine ⟨⟨d.symm,by rw [d];exact f,h6⟩,fun i x hx=> ?_⟩;have hi:=(List.getElem?_eq_some_iff.1 hx).1;have b:i<S.length:=by omega
 refine ⟨g,0,S[i].a,S[i].n,S[i].c,rfl,?_,h.ok i S[i] x (List.getElem?_eq_getElem b) hx⟩;have:=World.ownsRow.cellAt h.own i (by simp;omega);rw [Nat.zero_add,this,List.getElem?_map,List.getElem?_eq_getElem b];rfl
theorem LsP.set {m w:World} {g N C:Nat} {S:List SV} {ls:List (List Int)} (h:LsP m w g N C S ls) {i:Nat} (hi:i<N) {z:SV} {x:List Int} (p:aX w z x):LsP m (w.setCell ⟨g,i,none⟩ z.v) g N C (S.set i z) (ls.set i x):=by
 have n:=h.eq;have o:=h.len;have c:i<S.length:=by omega
 have d:=Own.lt h.own g rfl;have k:w.cell? ⟨g,i,none⟩=some (S[i]).v:=by
  have:=World.ownsRow.cellAt h.own i (by simp;omega);rw [this,List.getElem?_map,List.getElem?_eq_getElem c];rfl
 have f:=World.ownsRow.stored h.own i z.v;refine ⟨?_,by simp [n],by simp [o],fun j s y a b=> ?_,h.ext.jS d.1 _⟩
 ·have:=f.1;unfold aMf Own;rw [List.map_set];exact this
 ·by_cases l:j=i
  ·subst l;rw [List.getElem?_set_self (by omega)] at a b;injection a with a;injection b with b;subst a b;exact p.aRx k _
  ·rw [List.getElem?_set_ne (fun e=>l e.symm)] at a b;exact (h.ok j s y a b).aRx k _
noncomputable def aRf (T:bK):Int→List (List Int)→Option (Int × Int)
 |_,[]=>none
 |i,l::r=>if (aQy T l).2≠0 then some (i,(aQy T l).2) else aRf T (i+1) r
noncomputable def aS3 (T:bK) (L:List (List Int)):List (List Int) × Int × Int:=
 match aRf T 0 L with
 |some p=>([],p)
 |none=>if aQQ T (L.map fun l=>(aQy T l).1)≠0 then ([],aQR T (L.map fun l=>(aQy T l).1),aQQ T (L.map fun l=>(aQy T l).1)) else (L.map fun l=>(aQy T l).1,0,0)
noncomputable def aRw (T:bK) (s:List Int):List (List Int) × Int × Int:=
 if lV T=false then ([],0,2) else if s.length=0 then ([],0,10) else if (a6d s).2.2≠0 then ([],(a6d s).2.1,(a6d s).2.2)
 else if aOK T (a6d s).1≠0 then ([],aOQ T (a6d s).1,aOK T (a6d s).1) else if gJ T (aOT T (a6d s).1)≠0 then ([],0,gJ T (aOT T (a6d s).1))
 else aS3 T (aMp (mF T (aOT T (a6d s).1)))
def aXC (w:World) (d:List (List Int) × Int × Int) (e:Ending) (w':World):Prop:=∃ A n c,e= .returned (.tuple #[.slice A n c,.int .i64 d.2.1,.int .i64 d.2.2])∧UA w' ⟨A,n,c⟩ d.1∧Ext w w'
theorem aRW (w:World):UA w ⟨none,0,0⟩ []:=⟨⟨rfl,Nat.le_refl _,by simp only [maxLen];omega⟩,fun i x hx=>by simp at hx⟩
theorem aS5 {T:bK} {L:List (List Int)} {k:Nat} (a:k<L.length):aRf T k (L.drop k)=if (aQy T L[k]).2≠0 then some ((k:Int),(aQy T L[k]).2) else aRf T ((k+1:Nat):Int) (L.drop (k+1)):=by
 rw [drop_at L k a];rfl
theorem aS6 {T:bK} {l:List Int} (h:(aQy T l).2=0):qB T (aQy T l).1=0:=by
 unfold aQy at h ⊢;split at h
 ·exact absurd h ‹_›
 ·split at h
  ·exact absurd h ‹_›
  ·rename_i b a;rw [if_neg b,if_neg a];exact Decidable.not_not.1 a
theorem aS4 {T:bK} {l:List Int} (h:qB T l=0):bF T l=0:=by
 unfold qB at h;split at h
 ·rename_i a;exact absurd h a
 ·rename_i a;exact Decidable.not_not.1 a
theorem aRX:∀ (r:List Int) (L:List (List Int)) (cur:List Int),(lbG L cur r).length≤L.length+1+r.length
 |[],L,cur=>by simp [lbG]
 |c::r,L,cur=>by
  unfold lbG;split
  ·have:=aRX r (L++[cur]) [];simp at this ⊢;omega
  ·have:=aRX r L (cur++[c]);simp at this ⊢;omega
theorem aRb:∀ (r:List Int) (L:List (List Int)) (cur:List Int) (x:List Int),x∈lbG L cur r→x∈L∨x.length≤cur.length+r.length
 |[],L,cur,x,h=>by
  unfold lbG at h;rw [List.mem_append,List.mem_singleton] at h;rcases h with h|rfl
  ·exact .inl h
  ·exact .inr (Nat.le_refl _)
 |c::r,L,cur,x,h=>by
  unfold lbG at h;split at h
  ·rcases aRb r _ _ x h with a|a
   ·rw [List.mem_append,List.mem_singleton] at a;rcases a with a|rfl
    ·exact .inl a
    ·exact .inr (by simp)
   ·exact .inr (by simp at a ⊢;omega)
  ·rcases aRb r _ _ x h with a|a
   ·exact .inl a
   ·exact .inr (by simp at a ⊢;omega)
theorem aRk (l:List Int):(aMp l).length≤l.length+1:=by
 have:=aRX l [] [];unfold aMp;simp at this;omega
theorem aRr {l x:List Int} (h:x∈aMp l):x.length≤l.length:=by
 rcases aRb l [] [] x h with a|a
 ·cases a
 ·simpa using a
theorem aS7 {T:bK} {L:List (List Int)} {p:Int × Int} (h:aRf T 0 L=some p):aS3 T L=([],p):=by
 unfold aS3;rw [h]
theorem aRy {T:bK} {L:List (List Int)} (h:aRf T 0 L=none):aS3 T L=if aQQ T (L.map fun l=>(aQy T l).1)≠0 then ([],aQR T (L.map fun l=>(aQy T l).1),aQQ T (L.map fun l=>(aQy T l).1)) else (L.map fun l=>(aQy T l).1,0,0):=by
 unfold aS3;rw [h]
theorem aRh {T:bK}:∀ {L:List (List Int)} {i:Int},aRf T i L=none→∀ l∈L,(aQy T l).2=0
 |[],_,_,l,a=>by cases a
 |x::r,i,h,l,a=>by
  unfold aRf at h;split at h
  ·cases h
  ·rename_i b;rcases List.mem_cons.1 a with rfl|a
   ·exact Decidable.not_not.1 b
   ·exact aRh h l a
theorem aS2 {α β:Type} (f:α→β) (L:List α) (M:List β) (e:M.length=L.length) (k:Nat) (a:k<L.length) (h:M.take k=(L.take k).map f):(M.set k (f L[k])).take (k+1)=(L.take (k+1)).map f:=by
 rw [List.take_succ_eq_append_getElem a,List.map_append,List.take_succ_eq_append_getElem (by simp [e,a]),List.take_set_of_le (Nat.le_refl _),h];simp
def PrL (T:bK) (w0 wb:World) (g N C:Nat) (L:List (List Int)) (gh:Nat) (s53:Value) (wx:World):Prop:=
 ∃ (k:Nat) (S:List SV) (M:List (List Int)),k+gh=N∧s53= .int .i64 k∧Hid (LsP w0 wx g N C S M)∧Hid (M.take k=(L.take k).map fun l=>(aQy T l).1)∧Hid (M.drop k=L.drop k)∧Hid (aRf T k (L.drop k)=aRf T 0 L)∧Hid (Ext wb wx)
theorem aRt (T:bK) (t:TV) (s:List Int) (w:World) (ht:bT w t T) (hs:IsB s):Calls prog 59 #[t.v,.string (sB s)] w (aXC w (aRw T s)):=by
 have a2:=aUt w t;have p:=aW0 a2;have HT:=aW0 (ht.aQ a2);have HC:=aW0 (yT t T (tW' w t) HT.out)
 have HD:Hid (aRw T s=if lV T=false then ([],0,2) else if s.length=0 then ([],0,10) else if (a6d s).2.2≠0 then ([],(a6d s).2.1,(a6d s).2.2)
  else if aOK T (a6d s).1≠0 then ([],aOQ T (a6d s).1,aOK T (a6d s).1) else if gJ T (aOT T (a6d s).1)≠0 then ([],0,gJ T (aOT T (a6d s).1))
  else aS3 T (aMp (mF T (aOT T (a6d s).1)))):=rfl
 generalize aRw T s=D at*;clear ht a2;by_cases hw:lV T=false
 ·have i:=aW0 (HD.out.trans (if_pos hw));have q:(jO T != 0)=true:=by rw [bne_iff_ne];exact fun h=>by have:=(iC T).1 h;rw [hw] at this;cases this
  clear hw HD hs;go_enter func59,ntmps59;go_wp2_with fail;refine HC.out.mono ?_;rintro e w1 ⟨rfl,j⟩;have G:=p.out.trans' j;clear j;go_wp2_with fail;go_ret3;exact ⟨none,0,0,by rw [i.out];rfl,by rw [i.out];exact aRW _,G⟩
 have K:=aW0 (HD.out.trans (if_neg hw));rw [(iC T).2 (by cases h:lV T;exact absurd h hw;rfl)] at HC;have HW:Hid (lV T=true):=aW0 (by cases h:lV T;exact absurd h hw;rfl);clear HD hw;have a4:=aJ0 s;by_cases h0:s.length=0
 ·have i:=aW0 (K.out.trans (if_pos h0));rw [List.eq_nil_of_length_eq_zero h0,show ([]:List Int).isEmpty=true from rfl] at a4;rw [List.eq_nil_of_length_eq_zero h0];clear K h0 hs;go_enter func59,ntmps59;go_wp2_with fail;refine HC.out.mono ?_;rintro e w1 ⟨rfl,j⟩;have G:=p.out.trans' j;clear j;go_wp2_with fail;go_ret3;exact ⟨none,0,0,by rw [i.out];rfl,by rw [i.out];exact aRW _,G⟩
 have H:=aW0 (K.out.trans (if_neg h0));rw [show s.isEmpty=false from by cases s with|nil=>exact absurd rfl h0|cons a b=>rfl] at a4;clear K h0;have HU:Hid (∀ w':World,Calls prog 96 #[.string (sB s)] w' (aQx w' (a6d s))):=aW0 fun w'=>udec_spec s hs w'
 clear hs;generalize a6d s=V at*;obtain ⟨l,di,de⟩:=V;simp only [] at H;go_enter func59,ntmps59;go_wp2_with fail;refine HC.out.mono ?_;rintro e w1 ⟨rfl,j⟩;have b2:=aW0 j;clear j HC;go_wp2_with fail;refine (HU.out w1).mono ?_;rintro e w2 ⟨A,n,c,rfl,ah,ai⟩;have O:=aW0 (b2.out.trans' ai);have a6:=aW0 ah;have aj:=p.out.trans' O.out;simp only [] at a6;clear ai ah HU a4;by_cases f:de=0
 case neg=>
  have i:=aW0 (H.out.trans (if_pos f));have q:(de != 0)=true:=bN' f;clear f H;go_wp2_with fail;go_ret3;exact ⟨none,0,0,by rw [i.out];rfl,by rw [i.out];exact aRW _,aj⟩
 have P:=aW0 (H.out.trans (if_neg (by rw [f];simp)));have q:(de != 0)=false:=bZ' f;have rT:∀ k:Nat,w2.cell? ⟨w.heap.size,k,none⟩=t.v.cells[k]? :=aO O.out;clear H aj;go_wp2_with fail;refine (aPl T t l A n c w2 (HT.out.aQ O.out) a6.out).mono ?_;rintro e w3 ⟨A3,n3,c3,rfl,ak,al⟩;have Q:=aW0 (O.out.trans' ak);have am:=aW0 al;have an:=p.out.trans' Q.out;clear ak al rT q f;generalize aOK T l=me at*;generalize aOQ T l=mi at*;generalize aOT T l=ml at*;by_cases f:me=0
 case neg=>
  have i:=aW0 (P.out.trans (if_pos f));have q:(me != 0)=true:=bN' f;clear f P;go_wp2_with fail;go_ret3;exact ⟨none,0,0,by rw [i.out];rfl,by rw [i.out];exact aRW _,an⟩
 have R:=aW0 (P.out.trans (if_neg (by rw [f];simp)));have q:(me != 0)=false:=bZ' f;have rT:∀ k:Nat,w3.cell? ⟨w.heap.size,k,none⟩=t.v.cells[k]? :=aO Q.out;clear P an;go_wp2_with fail;refine (lN T t ml A3 n3 c3 w3 (HT.out.aQ Q.out) am.out).mono ?_;rintro e w4 ⟨A4,n4,c4,rfl,ao,ap⟩;have a8:=aW0 (Q.out.trans' ao);have aq:=aW0 ap
 have ar:Hid (gJ T ml=0→(mF T ml).length≤4096):=aW0 (fun h=>by
  have h2:=(I7 h).2;have h3:=DR (T:=T) ml;rw [mF,if_pos h]
  omega)
 have au:=p.out.trans' a8.out;clear ao ap rT q f;generalize gJ T ml=ne at*;generalize mF T ml=nl at*;by_cases f:ne=0
 case neg=>
  have i:=aW0 (R.out.trans (if_pos f));have q:(ne != 0)=true:=bN' f;clear f R;go_wp2_with fail;go_ret3;exact ⟨none,0,0,by rw [i.out];rfl,by rw [i.out];exact aRW _,au⟩
 have av:=aW0 (R.out.trans (if_neg (by rw [f];simp)));have q:(ne != 0)=false:=bZ' f;have U:=aW0 (ar.out f);clear R au f ar;go_wp2_with fail;refine (aMw nl A4 n4 c4 w4 aq.out (by have:=U.out;omega)).mono ?_;rintro e w5 ⟨A5,N,C,rfl,aw,a9⟩;obtain ⟨g,S5,rfl,aa⟩:=aw.lsp a9;have iJ:=aW0 (a8.out.trans' a9);have ax:=aW0 aa;have b3:Hid ((aMp nl).length≤5000):=aW0 (by have:=aRk nl;have:=U.out;omega);have b4:Hid (∀ x∈aMp nl,x.length≤4096):=aW0 (fun x G=>by have:=aRr G;have:=U.out;omega);have ay:(aMp nl).length=N:=aa.len;clear a9 aw aa U aq am a6 q;generalize aMp nl=L at*;have bf:N≤5000:=by have:=b3.out;omega
 have W:=aW0 ay;clear ay;go_wp2_with fail;go_loopg [53] N (fun gh s53 wx=>PrL T w4 (tW' w t) g N C L gh s53 wx)
 case atStart=>exact ⟨0,S5,L,by omega,rfl,ax,aW0 rfl,aW0 rfl,aW0 rfl,iJ⟩
 case round=>
  obtain ⟨k,S,M,bg,rfl,X,Y,Z,r,HB⟩:=hrel;clear ax;by_cases hk:k<N
  ·obtain ⟨b5,rfl⟩:∃ g',gk=g'+1:=⟨gk - 1,by omega⟩;have I:k<L.length:=by have:=W.out;omega
   have a0:k<M.length:=by have:=X.out.len;omega
   have az:M[k]=L[k]:=by
    have f:=Z.out;rw [drop_at M k a0,drop_at L k I] at f;exact (List.cons.inj f).1
   have aA:M.drop (k+1)=L.drop (k+1):=by
    have f:=Z.out;rw [drop_at M k a0,drop_at L k I] at f;exact (List.cons.inj f).2
   have aD:M.length=L.length:=by have:=X.out.len;have:=W.out;omega
   obtain ⟨b,o,za,zn,zc,hA,ab,hz⟩:=X.out.lists.at_ a0;injection hA with hA;injection hA with b6 b7;subst b6 b7;rw [az] at hz;rw [Nat.zero_add] at ab;have a1:=aW0 (aS5 (T:=T) I);have b8:=aW0 (b4.out _ (List.getElem_mem I));have HZ:=aW0 hz;have aE:Hid (∀ y,y=(aQy T L[k]).1→(M.set k y).take (k+1)=(L.take (k+1)).map fun l=>(aQy T l).1):=aW0 (fun y hy=>by rw [hy];exact aS2 (fun l=>(aQy T l).1) L M aD k I Y.out);have aG:Hid (∀ y,(M.set k y).drop (k+1)=L.drop (k+1)):=aW0 (fun y=>by rw [List.drop_set_of_lt (by omega)];exact aA);clear hz az aA aD Y Z a0;generalize L[k]=x at*;have b9:wr.frozen? ⟨g,k,none⟩=false:=World.ownsRow.frozenAt X.out.own k;have bh:=z0' k;have bi:(k:Int)<(N:Int):=by omega
   have rT:∀ k:Nat,wr.cell? ⟨w.heap.size,k,none⟩=t.v.cells[k]? :=aO HB.out;go_wp2_with fail;go_region_law ((go_simp;go_at_call 100;refine (aR3 T t x za zn zc _ (HT.out.aQ (HB.out.trans' (Ext.refl _).dK)) (HZ.out.ext (Ext.refl _).dK) b8.out).mono ?_;rintro e w6 ⟨B,m,d,rfl,OV,E⟩;have xM:Hid (Ext wr w6):=aW0 ((Ext.refl _).dK.trans' E);have QV:=aW0 OV;have F:=aW0 (X.out.aQ xM.out);have bj:w6.frozen? ⟨g,k,none⟩=false:=World.ownsRow.frozenAt F.out.own k;have bk:=aW (bC xM.out) ab;clear E OV))
   all_goals
    have ba:=aW0 (F.out.set hk (z:=⟨B,m,d⟩) (x:=(aQy T x).1) QV.out);have VG:Hid (Ext (tW' w t) (w6.setCell ⟨g,k,none⟩ (.slice B m d))):=aW0 ((HB.out.trans' xM.out).jS (Nat.le_trans a8.out.b.size (Own.lt F.out.own g rfl).1) _);have bb:=aW0 (aE.out _ rfl);have bc:=aW0 (aG.out (aQy T x).1);clear rT b9 ab QV F aE aG;generalize (aQy T x).1=y at*;generalize (aQy T x).2=ev at*;by_cases f:ev=0
    ·have q:(ev != 0)=false:=bZ' f;have bd:=aW0 ((a1.out.trans (if_neg (by rw [f];simp))).symm.trans r.out);clear f a1 r;go_wp2_with fail;go_roundg b5
     case measure=>omega
     case rel=>exact ⟨k+1,S.set k ⟨B,m,d⟩,M.set k y,by omega,by go_num,ba,bb,bc,bd,VG⟩
    ·have q:(ev != 0)=true:=bN' f;have i:=aW0 (av.out.trans (aS7 (r.out.symm.trans (a1.out.trans (if_pos f)))));have G:=p.out.trans' VG.out;clear f a1 r;go_wp2_with fail;go_ret3;exact ⟨none,0,0,by rw [i.out];rfl,by rw [i.out];exact aRW _,G⟩
  ·have be:k=N:=by omega
   subst be
   have ac:Hid (M=L.map fun l=>(aQy T l).1):=aW0 (by
    have f:=Y.out;have h2:=W.out;have h3:=X.out.len
    rwa [List.take_of_length_le (by omega),List.take_of_length_le (by omega)] at f)
   have ad:Hid (aRf T 0 L=none):=aW0 (by
    have h2:=W.out;rw [← r.out,List.drop_of_length_le (by omega)]
    rfl)
   have aH:Hid (∀ l∈M,bF T l=0):=aW0 (fun l hl=>by
    rw [ac.out,List.mem_map] at hl;obtain ⟨x,G,rfl⟩:=hl
    exact aS4 (aS6 (aRh ad.out x G)))
   have J:=aW0 (av.out.trans (aRy ad.out));rw [← ac.out] at J;have aI:=aW0 (aQT T t M _ _ _ wr (HT.out.aQ HB.out) X.out.lists HW.out aH.out (by have:=X.out.len;omega));have rT:∀ k:Nat,wr.cell? ⟨w.heap.size,k,none⟩=t.v.cells[k]? :=aO HB.out;clear Y Z r ad aH ac;go_wp2_with fail;refine aI.out.mono ?_;rintro e w6 ⟨rfl,E⟩;have F:=aW0 (X.out.aQ E);have G:=p.out.trans' (HB.out.trans' E);clear rT E aI;generalize aQR T M=dmi at*;generalize aQQ T M=dme at*;by_cases f:dme=0
   ·have q:(dme != 0)=false:=bZ' f;have i:=aW0 (J.out.trans (if_neg (by rw [f];simp)));clear f J;go_wp2_with fail;go_ret3;exact ⟨_,_,_,by rw [i.out];rfl,by rw [i.out];exact F.out.lists,G⟩
   ·have q:(dme != 0)=true:=bN' f;have i:=aW0 (J.out.trans (if_pos f));clear f J;go_wp2_with fail;go_ret3;exact ⟨none,0,0,by rw [i.out];rfl,by rw [i.out];exact aRW _,G⟩
end Go.Proofs.YtjccgagakfndpaaGreatDoor
