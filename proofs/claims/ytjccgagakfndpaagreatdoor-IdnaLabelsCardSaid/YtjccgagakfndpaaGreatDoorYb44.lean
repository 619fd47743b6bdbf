/- Part Yb44. -/
import Derived.Test.YtjccgagakfndpaaGreatDoorYb43
import Derived.Shelf.Strings.OnBuilder
open Go.Proofs.Tryz
namespace Go.Proofs.YtjccgagakfndpaaGreatDoor
set_option maxHeartbeats 25600000
set_option maxRecDepth 100000
open Go.RowKit
theorem aX.aRx {w:World} {s z:SV} {l:List Int} (h:aX w s l) {p:Addr} (c:w.cell? p=some z.v) (v:Value):aX (w.setCell p v) s l:=
 ⟨h.1,fun i x hx=>by
  obtain ⟨b,o,d,a⟩:=h.2 i x hx;refine ⟨b,o,d,?_⟩;rw [World.cell?_setCell_other _ _ _ _ (fun e=> ?_)]
  ·exact a
  ·subst e;rw [a] at c
   cases c⟩
structure LsP (w0 w:World) (g N C:Nat) (S:List SV) (ls:List (List Int)):Prop where
 own:aMf w w0.heap.size (some ⟨g,0,none⟩) N C S
 eq:S.length=N
 len:ls.length=N
 ok:∀ (i:Nat) s x,S[i]? =some s→ls[i]? =some x→aX w s x
 ext:Ext w0 w
theorem aMj.lsp {a w:World} {A:Option Addr} {N C:Nat} {ls:List (List Int)} (h:aMj a w A N C ls) (j:Ext a w):∃ g S,A=some ⟨g,0,none⟩∧LsP a w g N C S ls:=by
 obtain ⟨g,S,rfl,b,c,d,f⟩:=h;exact ⟨g,S,rfl,b,c,d,fun i s x hs hl=>(f i s x hs hl).1,j⟩
theorem LsP.aQ {b w w':World} {g N C:Nat} {S:List SV} {ls:List (List Int)} (h:LsP b w g N C S ls) (a:Ext w w'):LsP b w' g N C S ls:=
 ⟨Own.ext h.own a,h.eq,h.len,fun i s x hs hl=>(h.ok i s x hs hl).ext a,h.ext.trans' a⟩
theorem LsP.lists {j w:World} {g N C:Nat} {S:List SV} {ls:List (List Int)} (h:LsP j w g N C S ls):UA w ⟨some ⟨g,0,none⟩,N,C⟩ ls:=by
 obtain ⟨f,h6⟩:=Own.le h.own;have k:=h.eq;have d:=h.len;refine ⟨⟨d.symm,by rw [d];exact f,h6⟩,fun i x hx=> ?_⟩;have hi:=(List.getElem?_eq_some_iff.1 hx).1;have b:i<S.length:=by omega
 refine ⟨g,0,S[i].a,S[i].n,S[i].c,rfl,?_,h.ok i S[i] x (List.getElem?_eq_getElem b) hx⟩;have:=World.ownsRow.cellAt h.own i (by simp;omega);rw [Nat.zero_add,this,List.getElem?_map,List.getElem?_eq_getElem b];rfl
theorem LsP.set {m w:World} {g N C:Nat} {S:List SV} {ls:List (List Int)} (h:LsP m w g N C S ls) {i:Nat} (hi:i<N) {z:SV} {x:List Int} (p:aX w z x):LsP m (w.setCell ⟨g,i,none⟩ z.v) g N C (S.set i z) (ls.set i x):=by
 have n:=h.eq;have o:=h.len;have c:i<S.length:=by omega
 have d:=Own.lt h.own g rfl;have k:w.cell? ⟨g,i,none⟩=some (S[i]).v:=by
  have:=World.ownsRow.cellAt h.own i (by simp;omega);rw [this,List.getElem?_map,List.getElem?_eq_getElem c];rfl
 have f:=World.ownsRow.stored h.own i z.v;refine ⟨?_,by simp [n],by simp [o],fun j s y a b=> ?_,h.ext.jS d.1 _⟩
 ·have:=f.1;unfold aMf Own;rw [List.map_set];exact this
 ·by_cases l:j=i
  ·subst l;rw [List.getElem?_set_self (by omega)] at a b;injection a with a;injection b with b;subst a b;exact p.aRx k _
  ·rw [List.getElem?_set_ne (fun e=>l e.symm)] at a b;exact (h.ok j s y a b).aRx k _
noncomputable def aRf (T:bK):Int→List (List Int)→Option (Int × Int)
 |_,[]=>none
 |i,l::r=>if (aQy T l).2≠0 then some (i,(aQy T l).2) else aRf T (i+1) r
noncomputable def aS3 (T:bK) (L:List (List Int)):List (List Int) × Int × Int:=
 match aRf T 0 L with
 |some p=>([],p)
 |none=>if aQQ T (L.map fun l=>(aQy T l).1)≠0 then ([],aQR T (L.map fun l=>(aQy T l).1),aQQ T (L.map fun l=>(aQy T l).1)) else (L.map fun l=>(aQy T l).1,0,0)
noncomputable def aRw (T:bK) (s:List Int):List (List Int) × Int × Int:=
 if lV T=false then ([],0,2) else if s.length=0 then ([],0,10) else if (a6d s).2.2≠0 then ([],(a6d s).2.1,(a6d s).2.2)
 else if aOK T (a6d s).1≠0 then ([],aOQ T (a6d s).1,aOK T (a6d s).1) else if gJ T (aOT T (a6d s).1)≠0 then ([],0,gJ T (aOT T (a6d s).1))
 else aS3 T (aMp (mF T (aOT T (a6d s).1)))
def aXC (w:World) (d:List (List Int) × Int × Int) (e:Ending) (w':World):Prop:=∃ A n c,e= .returned (.tuple #[.slice A n c,.int .i64 d.2.1,.int .i64 d.2.2])∧UA w' ⟨A,n,c⟩ d.1∧Ext w w'
theorem aRW (w:World):UA w ⟨none,0,0⟩ []:=⟨⟨rfl,Nat.le_refl _,by simp only [maxLen];omega⟩,fun i x hx=>by simp at hx⟩
theorem aS5 {T:bK} {L:List (List Int)} {k:Nat} (a:k<L.length):aRf T k (L.drop k)=if (aQy T L[k]).2≠0 then some ((k:Int),(aQy T L[k]).2) else aRf T ((k+1:Nat):Int) (L.drop (k+1)):=by
 rw [drop_at L k a];rfl
theorem aS6 {T:bK} {l:List Int} (h:(aQy T l).2=0):qB T (aQy T l).1=0:=by
 unfold aQy at h ⊢;split at h
 ·exact absurd h ‹_›
 ·split at h
  ·exact absurd h ‹_›
  ·rename_i b a;rw [if_neg b,if_neg a];exact Decidable.not_not.1 a
theorem aS4 {T:bK} {l:List Int} (h:qB T l=0):bF T l=0:=by
 unfold qB at h;split at h
 ·rename_i a;exact absurd h a
 ·rename_i a;exact Decidable.not_not.1 a
theorem aRX:∀ (r:List Int) (L:List (List Int)) (cur:List Int),(lbG L cur r).length≤L.length+1+r.length
 |[],L,cur=>by simp [lbG]
 |c::r,L,cur=>by
  unfold lbG;split
  ·have:=aRX r (L++[cur]) [];simp at this ⊢;omega
  ·have:=aRX r L (cur++[c]);simp at this ⊢;omega
theorem aRb:∀ (r:List Int) (L:List (List Int)) (cur:List Int) (x:List Int),x∈lbG L cur r→x∈L∨x.length≤cur.length+r.length
 |[],L,cur,x,h=>by
  unfold lbG at h;rw [List.mem_append,List.mem_singleton] at h;rcases h with h|rfl
  ·exact .inl h
  ·exact .inr (Nat.le_refl _)
 |c::r,L,cur,x,h=>by
  unfold lbG at h;split at h
  ·rcases aRb r _ _ x h with a|a
   ·rw [List.mem_append,List.mem_singleton] at a;rcases a with a|rfl
    ·exact .inl a
    ·exact .inr (by simp)
   ·exact .inr (by simp at a ⊢;omega)
  ·rcases aRb r _ _ x h with a|a
   ·exact .inl a
   ·exact .inr (by simp at a ⊢;omega)
theorem aRk (l:List Int):(aMp l).length≤l.length+1:=by
 have:=aRX l [] [];unfold aMp;simp at this;omega
theorem aRr {l x:List Int} (h:x∈aMp l):x.length≤l.length:=by
 rcases aRb l [] [] x h with a|a
 ·cases a
 ·simpa using a
theorem aS7 {T:bK} {L:List (List Int)} {p:Int × Int} (h:aRf T 0 L=some p):aS3 T L=([],p):=by
 unfold aS3;rw [h]
theorem aRy {T:bK} {L:List (List Int)} (h:aRf T 0 L=none):aS3 T L=if aQQ T (L.map fun l=>(aQy T l).1)≠0 then ([],aQR T (L.map fun l=>(aQy T l).1),aQQ T (L.map fun l=>(aQy T l).1)) else (L.map fun l=>(aQy T l).1,0,0):=by
 unfold aS3;rw [h]
theorem aRh {T:bK}:∀ {L:List (List Int)} {i:Int},aRf T i L=none→∀ l∈L,(aQy T l).2=0
 |[],_,_,l,a=>by cases a
 |x::r,i,h,l,a=>by
  unfold aRf at h;split at h
  ·cases h
  ·rename_i b;rcases List.mem_cons.1 a with rfl|a
   ·exact Decidable.not_not.1 b
   ·exact aRh h l a
theorem aS2 {α β:Type} (f:α→β) (L:List α) (M:List β) (e:M.length=L.length) (k:Nat) (a:k<L.length) (h:M.take k=(L.take k).map f):(M.set k (f L[k])).take (k+1)=(L.take (k+1)).map f:=by
 rw [List.take_succ_eq_append_getElem a,List.map_append,List.take_succ_eq_append_getElem (by simp [e,a]),List.take_set_of_le (Nat.le_refl _),h];simp
def PrL (T:bK) (w0 wb:World) (g N C:Nat) (L:List (List Int)) (gh:Nat) (s53:Value) (wx:World):Prop:=
 ∃ (k:Nat) (S:List SV) (M:List (List Int)),k+gh=N∧s53= .int .i64 k∧Hid (LsP w0 wx g N C S M)∧Hid (M.take k=(L.take k).map fun l=>(aQy T l).1)∧Hid (M.drop k=L.drop k)∧Hid (aRf T k (L.drop k)=aRf T 0 L)∧Hid (Ext wb wx)
theorem aRt (T:bK) (t:TV) (s:List Int) (w:World) (ht:bT w t T) (hs:IsB s):Calls prog 59 #[t.v,.string (sB s)] w (aXC w (aRw T s)):=by
 have a2:=aUt w t;have p:=aW0 a2;have HT:=aW0 (ht.aQ a2);have HC:=aW0 (yT t T (tW' w t) HT.out)
 have HD:Hid (aRw T s=if lV T=false then ([],0,2) else if s.length=0 then ([],0,10) else if (a6d s).2.2≠0 then ([],(a6d s).2.1,(a6d s).2.2)
  else if aOK T (a6d s).1≠0 then ([],aOQ T (a6d s).1,aOK T (a6d s).1) else if gJ T (aOT T (a6d s).1)≠0 then ([],0,gJ T (aOT T (a6d s).1))
  else aS3 T (aMp (mF T (aOT T (a6d s).1)))):=rfl
 generalize aRw T s=D at*;clear ht a2;by_cases hw:lV T=false
 ·have i:=aW0 (HD.out.trans (if_pos hw));have q:(jO T != 0)=true:=by rw [bne_iff_ne];exact fun h=>by have:=(iC T).1 h;rw [hw] at this;cases this
  clear hw HD hs;go_enter func59,ntmps59;go_wp2_with fail;refine HC.out.mono ?_;rintro e w1 ⟨rfl,j⟩;have G:=p.out.trans' j;clear j;go_wp2_with fail;go_ret3;exact ⟨none,0,0,by rw [i.out];rfl,by rw [i.out];exact aRW _,G⟩
 have K:=aW0 (HD.out.trans (if_neg hw));rw [(iC T).2 (by cases h:lV T;exact absurd h hw;rfl)] at HC;have HW:Hid (lV T=true):=aW0 (by cases h:lV T;exact absurd h hw;rfl);clear HD hw;have a4:=aJ0 s;by_cases h0:s.length=0
 ·have i:=aW0 (K.out.trans (if_pos h0));rw [List.eq_nil_of_length_eq_zero h0,show ([]:List Int).isEmpty=true from rfl] at a4;rw [List.eq_nil_of_length_eq_zero h0];clear K h0 hs;go_enter func59,ntmps59;go_wp2_with fail;refine HC.out.mono ?_;rintro e w1 ⟨rfl,j⟩;have G:=p.out.trans' j;clear j;go_wp2_with fail;go_ret3;exact ⟨none,0,0,by rw [i.out];rfl,by rw [i.out];exact aRW _,G⟩
 have H:=aW0 (K.out.trans (if_neg h0));rw [show s.isEmpty=false from by cases s with|nil=>exact absurd rfl h0|cons a b=>rfl] at a4;clear K h0;have HU:Hid (∀ w':World,Calls prog 96 #[.string (sB s)] w' (aQx w' (a6d s))):=aW0 fun w'=>udec_spec s hs w'
 clear hs;generalize a6d s=V at*;obtain ⟨l,di,de⟩:=V;simp only [] at H;go_enter func59,ntmps59;go_wp2_with fail;refine HC.out.mono ?_;rintro e w1 ⟨rfl,j⟩;have b2:=aW0 j;clear j HC;go_wp2_with fail;refine (HU.out w1).mono ?_;rintro e w2 ⟨A,n,c,rfl,ah,ai⟩;have O:=aW0 (b2.out.trans' ai);have a6:=aW0 ah;have aj:=p.out.trans' O.out;simp only [] at a6;clear ai ah HU a4;by_cases f:de=0
 case neg=>
  have i:=aW0 (H.out.trans (if_pos f));have q:(de != 0)=true:=bN' f;clear f H;go_wp2_with fail;go_ret3;exact ⟨none,0,0,by rw [i.out];rfl,by rw [i.out];exact aRW _,aj⟩
 have P:=aW0 (H.out.trans (if_neg (by rw [f];simp)));have q:(de != 0)=false:=bZ' f;have rT:∀ k:Nat,w2.cell? ⟨w.heap.size,k,none⟩=t.v.cells[k]? :=aO O.out;clear H aj;go_wp2_with fail;refine (aPl T t l A n c w2 (HT.out.aQ O.out) a6.out).mono ?_;rintro e w3 ⟨A3,n3,c3,rfl,ak,al⟩;have Q:=aW0 (O.out.trans' ak);have am:=aW0 al;have an:=p.out.trans' Q.out;clear ak al rT q f;generalize aOK T l=me at*;generalize aOQ T l=mi at*;generalize aOT T l=ml at*;by_cases f:me=0
 case neg=>
  have i:=aW0 (P.out.trans (if_pos f));have q:(me != 0)=true:=bN' f;clear f P;go_wp2_with fail;go_ret3;exact ⟨none,0,0,by rw [i.out];rfl,by rw [i.out];exact aRW _,an⟩
 have R:=aW0 (P.out.trans (if_neg (by rw [f];simp)));have q:(me != 0)=false:=bZ' f;have rT:∀ k:Nat,w3.cell? ⟨w.heap.size,k,none⟩=t.v.cells[k]? :=aO Q.out;clear P an;go_wp2_with fail;refine (lN T t ml A3 n3 c3 w3 (HT.out.aQ Q.out) am.out).mono ?_;rintro e w4 ⟨A4,n4,c4,rfl,ao,ap⟩;have a8:=aW0 (Q.out.trans' ao);have aq:=aW0 ap
 have ar:Hid (gJ T ml=0→(mF T ml).length≤4096):=aW0 (fun h=>by
  have h2:=(I7 h).2;have h3:=DR (T:=T) ml;rw [mF,if_pos h]
  omega)
 have au:=p.out.trans' a8.out;clear ao ap rT q f;generalize gJ T ml=ne at*;generalize mF T ml=nl at*;by_cases f:ne=0
 case neg=>
  have i:=aW0 (R.out.trans (if_pos f));have q:(ne != 0)=true:=bN' f;clear f R;go_wp2_with fail;go_ret3;exact ⟨none,0,0,by rw [i.out];rfl,by rw [i.out];exact aRW _,au⟩
 have av:=aW0 (R.out.trans (if_neg (by rw [f];simp)));have q:(ne != 0)=false:=bZ' f;have U:=aW0 (ar.out f);clear R au f ar;go_wp2_with fail;refine (aMw nl A4 n4 c4 w4 aq.out (by have:=U.out;omega)).mono ?_;rintro e w5 ⟨A5,N,C,rfl,aw,a9⟩;obtain ⟨g,S5,rfl,aa⟩:=aw.lsp a9;have iJ:=aW0 (a8.out.trans' a9);have ax:=aW0 aa;have b3:Hid ((aMp nl).length≤5000):=aW0 (by have:=aRk nl;have:=U.out;omega);have b4:Hid (∀ x∈aMp nl,x.length≤4096):=aW0 (fun x G=>by have:=aRr G;have:=U.out;omega);have ay:(aMp nl).length=N:=aa.len;clear a9 aw aa U aq am a6 q;generalize aMp nl=L at*;have bf:N≤5000:=by have:=b3.out;omega
 have W:=aW0 ay;clear ay;go_wp2_with fail;go_loopg [53] N (fun gh s53 wx=>PrL T w4 (tW' w t) g N C L gh s53 wx)
 case atStart=>exact ⟨0,S5,L,by omega,rfl,ax,aW0 rfl,aW0 rfl,aW0 rfl,iJ⟩
 case round=>
  obtain ⟨k,S,M,bg,rfl,X,Y,Z,r,HB⟩:=hrel;clear ax;by_cases hk:k<N
  ·obtain ⟨b5,rfl⟩:∃ g',gk=g'+1:=⟨gk - 1,by omega⟩;have I:k<L.length:=by have:=W.out;omega
   have a0:k<M.length:=by have:=X.out.len;omega
   have az:M[k]=L[k]:=by
    have f:=Z.out;rw [drop_at M k a0,drop_at L k I] at f;exact (List.cons.inj f).1
   have aA:M.drop (k+1)=L.drop (k+1):=by
    have f:=Z.out;rw [drop_at M k a0,drop_at L k I] at f;exact (List.cons.inj f).2
   have aD:M.length=L.length:=by have:=X.out.len;have:=W.out;omega
   obtain ⟨b,o,za,zn,zc,hA,ab,hz⟩:=X.out.lists.at_ a0;injection hA with hA;injection hA with b6 b7;subst b6 b7;rw [az] at hz;rw [Nat.zero_add] at ab;have a1:=aW0 (aS5 (T:=T) I);have b8:=aW0 (b4.out _ (List.getElem_mem I));have HZ:=aW0 hz;have aE:Hid (∀ y,y=(aQy T L[k]).1→(M.set k y).take (k+1)=(L.take (k+1)).map fun l=>(aQy T l).1):=aW0 (fun y hy=>by rw [hy];exact aS2 (fun l=>(aQy T l).1) L M aD k I Y.out);have aG:Hid (∀ y,(M.set k y).drop (k+1)=L.drop (k+1)):=aW0 (fun y=>by rw [List.drop_set_of_lt (by omega)];exact aA);clear hz az aA aD Y Z a0;generalize L[k]=x at*;have b9:wr.frozen? ⟨g,k,none⟩=false:=World.ownsRow.frozenAt X.out.own k;have bh:=z0' k;have bi:(k:Int)<(N:Int):=by omega
   have rT:∀ k:Nat,wr.cell? ⟨w.heap.size,k,none⟩=t.v.cells[k]? :=aO HB.out;go_wp2_with fail;go_region_law ((go_simp;go_at_call 100;refine (aR3 T t x za zn zc _ (HT.out.aQ (HB.out.trans' (Ext.refl _).dK)) (HZ.out.ext (Ext.refl _).dK) b8.out).mono ?_;rintro e w6 ⟨B,m,d,rfl,OV,E⟩;have xM:Hid (Ext wr w6):=aW0 ((Ext.refl _).dK.trans' E);have QV:=aW0 OV;have F:=aW0 (X.out.aQ xM.out);have bj:w6.frozen? ⟨g,k,none⟩=false:=World.ownsRow.frozenAt F.out.own k;have bk:=aW (bC xM.out) ab;clear E OV))
   all_goals
    have ba:=aW0 (F.out.set hk (z:=⟨B,m,d⟩) (x:=(aQy T x).1) QV.out);have VG:Hid (Ext (tW' w t) (w6.setCell ⟨g,k,none⟩ (.slice B m d))):=aW0 ((HB.out.trans' xM.out).jS (Nat.le_trans a8.out.b.size (Own.lt F.out.own g rfl).1) _);have bb:=aW0 (aE.out _ rfl);have bc:=aW0 (aG.out (aQy T x).1);clear rT b9 ab QV F aE aG;generalize (aQy T x).1=y at*;generalize (aQy T x).2=ev at*;by_cases f:ev=0
    ·have q:(ev != 0)=false:=bZ' f;have bd:=aW0 ((a1.out.trans (if_neg (by rw [f];simp))).symm.trans r.out);clear f a1 r;go_wp2_with fail;go_roundg b5
     case measure=>omega
     case rel=>exact ⟨k+1,S.set k ⟨B,m,d⟩,M.set k y,by omega,by go_num,ba,bb,bc,bd,VG⟩
    ·have q:(ev != 0)=true:=bN' f;have i:=aW0 (av.out.trans (aS7 (r.out.symm.trans (a1.out.trans (if_pos f)))));have G:=p.out.trans' VG.out;clear f a1 r;go_wp2_with fail;go_ret3;exact ⟨none,0,0,by rw [i.out];rfl,by rw [i.out];exact aRW _,G⟩
  ·have be:k=N:=by omega
   subst be
   have ac:Hid (M=L.map fun l=>(aQy T l).1):=aW0 (by
    have f:=Y.out;have h2:=W.out;have h3:=X.out.len
    rwa [List.take_of_length_le (by omega),List.take_of_length_le (by omega)] at f)
   have ad:Hid (aRf T 0 L=none):=aW0 (by
    have h2:=W.out;rw [← r.out,List.drop_of_length_le (by omega)]
    rfl)
   have aH:Hid (∀ l∈M,bF T l=0):=aW0 (fun l hl=>by
    rw [ac.out,List.mem_map] at hl;obtain ⟨x,G,rfl⟩:=hl
    exact aS4 (aS6 (aRh ad.out x G)))
   have J:=aW0 (av.out.trans (aRy ad.out));rw [← ac.out] at J;have aI:=aW0 (aQT T t M _ _ _ wr (HT.out.aQ HB.out) X.out.lists HW.out aH.out (by have:=X.out.len;omega));have rT:∀ k:Nat,wr.cell? ⟨w.heap.size,k,none⟩=t.v.cells[k]? :=aO HB.out;clear Y Z r ad aH ac;go_wp2_with fail;refine aI.out.mono ?_;rintro e w6 ⟨rfl,E⟩;have F:=aW0 (X.out.aQ E);have G:=p.out.trans' (HB.out.trans' E);clear rT E aI;generalize aQR T M=dmi at*;generalize aQQ T M=dme at*;by_cases f:dme=0
   ·have q:(dme != 0)=false:=bZ' f;have i:=aW0 (J.out.trans (if_neg (by rw [f];simp)));clear f J;go_wp2_with fail;go_ret3;exact ⟨_,_,_,by rw [i.out];rfl,by rw [i.out];exact F.out.lists,G⟩
   ·have q:(dme != 0)=true:=bN' f;have i:=aW0 (J.out.trans (if_pos f));clear f J;go_wp2_with fail;go_ret3;exact ⟨none,0,0,by rw [i.out];rfl,by rw [i.out];exact aRW _,G⟩
def aNt:TypeDesc→Bool
 | .struct _=>true
 | .array _ _=>true
 |_=>false
theorem aMz {P:Program} {t:TypeId} {b:Bool} (h:(P.underlying t).map aNt=some b):∀ w,(isAgg t).run P w= .ok b w:=fun w=>by
 cases a:P.underlying t with
 |none=>rw [a] at h;cases h
 |some d=>
  rw [a] at h;have h:aNt d=b:=by simpa using h
  subst h;simp only [isAgg,Sem.run_bind,run_underlying a,Result.andThen_ok];cases d<;>rfl
theorem aN9 {P:Program} {t:TypeId} {n:Nat} (h:(P.info? t).map (·.size)=some n):∀ w,(Go.sizeOf t).run P w= .ok n w:=fun w=>by
 cases hi:P.info? t with
 |none=>rw [hi] at h;cases h
 |some i=>
  rw [hi] at h;have h:i.size=n:=by simpa using h
  simp [Go.sizeOf,typeInfo,hi,h]
theorem aNh {P:Program} {t:TypeId} {z:Value} (h:(P.info? t).map (·.zero)=some (some z)):∀ w,(zeroValue t).run P w= .ok z w:=fun w=>by
 cases hi:P.info? t with
 |none=>rw [hi] at h;cases h
 |some i=>
  rw [hi] at h;have h:i.zero=some z:=by simpa using h
  simp [zeroValue,typeInfo,hi,h]
def rnJ:Go.Shelf.Ren:=⟨fun x=>if x=156 then 107 else if x=165 then 151 else if x=166 then 152 else if x=169 then 153 else if x=240 then 203 else if x=241 then 204 else if x=276 then 227 else 228,fun x=>if x=0 then 0 else if x=3 then 3 else if x=4 then 4 else if x=9 then 9 else if x=20 then 20 else if x=31 then 33 else if x=37 then 38 else if x=70 then 133 else if x=72 then 135 else if x=75 then 138 else if x=76 then 139 else if x=127 then 170 else if x=164 then 182 else if x=5 then 5 else 141,fun x=>x⟩
theorem aNs:Lays.n156 prog rnJ where
 mixed:=by kernel_rfl
 f156:=func107.trans (by kernel_rfl)
 f165:=func151.trans (by kernel_rfl)
 f166:=func152.trans (by kernel_rfl)
 f169:=func153.trans (by kernel_rfl)
 f240:=func203.trans (by kernel_rfl)
 f241:=func204.trans (by kernel_rfl)
 f276:=func227.trans (by kernel_rfl)
 f277:=func228.trans (by kernel_rfl)
 t0:=by kernel_rfl
 a0:=aMz (by kernel_rfl)
 z0:=aN9 (by kernel_rfl)
 v0:=aNh (by kernel_rfl)
 t3:=by kernel_rfl
 a3:=aMz (by kernel_rfl)
 z3:=aN9 (by kernel_rfl)
 v3:=aNh (by kernel_rfl)
 t4:=by kernel_rfl
 a4:=aMz (by kernel_rfl)
 z4:=aN9 (by kernel_rfl)
 v4:=aNh (by kernel_rfl)
 t9:=by kernel_rfl
 a9:=aMz (by kernel_rfl)
 z9:=aN9 (by kernel_rfl)
 v9:=aNh (by kernel_rfl)
 t20:=by kernel_rfl
 a20:=aMz (by kernel_rfl)
 z20:=aN9 (by kernel_rfl)
 v20:=aNh (by kernel_rfl)
 t31:=by kernel_rfl
 a31:=aMz (by kernel_rfl)
 z31:=aN9 (by kernel_rfl)
 v31:=aNh (by kernel_rfl)
 t37:=by kernel_rfl
 a37:=aMz (by kernel_rfl)
 z37:=aN9 (by kernel_rfl)
 v37:=aNh (by kernel_rfl)
 t70:=by kernel_rfl
 a70:=aMz (by kernel_rfl)
 z70:=aN9 (by kernel_rfl)
 v70:=aNh (by kernel_rfl)
 t72:=by kernel_rfl
 a72:=aMz (by kernel_rfl)
 z72:=aN9 (by kernel_rfl)
 v72:=aNh (by kernel_rfl)
 t75:=by kernel_rfl
 a75:=aMz (by kernel_rfl)
 z75:=aN9 (by kernel_rfl)
 v75:=aNh (by kernel_rfl)
 t76:=by kernel_rfl
 a76:=aMz (by kernel_rfl)
 z76:=aN9 (by kernel_rfl)
 v76:=aNh (by kernel_rfl)
 t127:=by kernel_rfl
 a127:=aMz (by kernel_rfl)
 z127:=aN9 (by kernel_rfl)
 v127:=aNh (by kernel_rfl)
 t164:=by kernel_rfl
 a164:=aMz (by kernel_rfl)
 z164:=aN9 (by kernel_rfl)
 v164:=aNh (by kernel_rfl)
theorem aNq:Builder.Extra prog rnJ where
 sizeBuilder:=by kernel_rfl
 liesBuilder:=by kernel_rfl
 t5:=by kernel_rfl
 a5:=aMz (by kernel_rfl)
 z5:=aN9 (by kernel_rfl)
 v5:=aNh (by kernel_rfl)
 infoByte:=by kernel_rfl
 cellsByte:=by kernel_rfl
 sizeByte:=by kernel_rfl
 neB5:=by decide
def toU (l:List Int):List UInt8:=l.map fun n=>UInt8.ofNat n.toNat
theorem aO2:∀ r:List (List Int),Lib.joinTail (toU [46]) (r.map toU)=toU (jnG false r)
 |[]=>rfl
 |x::r=>by
  have h:=aO2 r;unfold Lib.joinTail at h ⊢;rw [List.map_cons,List.map_cons,List.flatten_cons,h];show _=toU ((46::x)++jnG false r)
  unfold toU;simp
theorem join_eq {ls:List (List Int)} (h:ls≠[]):(⟨(Lib.join ((ls.map sB).map (·.data.toList)) (⟨#[46]⟩:ByteArray).data.toList).toArray⟩:ByteArray)=sB (jnL ls):=by
 cases ls with
 |nil=>exact absurd rfl h
 |cons x r=>
  have a:((x::r).map sB).map (·.data.toList)=toU x::r.map toU:=by
   simp only [List.map_cons,List.map_map];rfl
  have b:(⟨#[46]⟩:ByteArray).data.toList=toU [46]:=rfl;rw [a,b,Lib.join_cons,aO2];refine a0b _ _ ?_;show toU x++toU (jnG false r)=_
  unfold toU;rw [← List.map_append];rfl
theorem aO5 (ls:List (List Int)) (A:Option Addr) (n c:Nat) (w:World) (hi:aRY w ⟨A,n,c⟩ ls) (L:ls.length≤1000000):Calls prog 68 #[.slice A n c] w (a6f w (aNe ls)):=by
 have h:Hid (aNe ls=if (aNQ ls).2≠0 then ([],(aNQ ls).2) else (jnL ls,0)):=rfl;have s:=aW0 (aNW ls A n c w hi L);have d:=aW0 (@aNg ls);generalize aNe ls=D at*;generalize aNQ ls=C at*;obtain ⟨M,t⟩:=C;have z:n=ls.length:=hi.1.1;subst z;simp only at h d;by_cases p:t=0
 case neg=>
  rw [if_pos p] at h;go_enter func68,ntmps68;go_wp2_with fail;refine s.out.mono ?_;rintro e B ⟨i,rfl⟩;unfold IE2 at i;subst i;go_wp2_with fail;go_ret2;exact ⟨by rw [h.out];rfl,Ext.refl _⟩
 rw [if_neg (by rw [p];simp)] at h;subst p;obtain ⟨k,_,E,_⟩:=d.out rfl;have a:=List.length_pos_iff.2 k;obtain ⟨b,o,rfl,l⟩:=hi.at_ a;have m:=World.block_lt_of_cell? w _ l;have f:=join_eq k
 have g:=Any.strings_Join (P:=prog) aNs aNq b o c (ls.map sB) ⟨#[46]⟩ w (fun j x hx=>by
  rw [List.getElem?_map] at hx;cases q:ls[j]? with
  |none=>rw [q] at hx;cases hx
  |some y=>
   rw [q] at hx;simp only [Option.map_some,Option.some.injEq] at hx;subst hx;obtain ⟨F,G,e,r⟩:=hi.2 j y q;have e:some (⟨b,o,none⟩:Addr)=some ⟨F,G,none⟩:=e;injection e with e;injection e with H I;subst H I
   exact r) m (by rw [List.length_map];omega) (by rw [List.length_map];exact hi.1.2.1) (by
  have:=congrArg ByteArray.size f;rw [a0E] at this;have e:(⟨(Lib.join ((ls.map sB).map (·.data.toList)) (⟨#[46]⟩:ByteArray).data.toList).toArray⟩:ByteArray).size=(Lib.join ((ls.map sB).map (·.data.toList)) (⟨#[46]⟩:ByteArray).data.toList).length:=by simp [ByteArray.size]
  omega)
 rw [f,List.length_map] at g;have J:=aW0 g;clear g f d l a m;go_enter func68,ntmps68;go_wp2_with fail;refine s.out.mono ?_;rintro e B ⟨i,rfl⟩;unfold IE2 at i;subst i;go_wp2_with fail;refine J.out.mono ?_;rintro e N ⟨rfl,K⟩;go_wp2_with fail;go_ret2;exact ⟨by rw [h.out];rfl,K⟩
abbrev aS8 (w:World) (base:Nat) (A:Option Addr) (n c:Nat) (ls:List (List Int)):Prop:=Own w base 9 1 A n c (ls.map fun x=>Value.string (sB x))
theorem infoSt:(prog.info? 9).map (fun i=>(i.zero,i.size,i.bytes))=some (some (.string ⟨#[]⟩),1,16):=by kernel_rfl
theorem aS8.sts {w:World} {a n c:Nat} {A:Option Addr} {ls:List (List Int)} (h:aS8 w a A n c ls):aRY w ⟨A,n,c⟩ ls:=by
 have d:=Own.len h;simp only [List.length_map,Nat.mul_one] at d;obtain ⟨f,g⟩:=Own.le h;refine ⟨⟨d.symm,by rw [d];exact f,g⟩,fun i x hx=> ?_⟩;obtain ⟨b,rfl,j⟩:=Own.ER h i (.string (sB x)) (by simp [hx]);exact ⟨b,0,rfl,by simpa using j⟩
theorem aSD {w:World} {a n c:Nat} {A:Option Addr} {ls:List (List Int)} (i:aS8 w a A n c ls) (x:List Int) (o:n≤1000000) (f:a≤w.heap.size):
 ∃ A' c' w',(∀ ty,(Builtin.append_ #[33,33] ty #[.slice A n c,.slice (some ⟨w.heap.size,0,none⟩) 1 1]).run prog (w.alloc (.cells #[.string (sB x)] 9))= .ok (.slice A' (n+1) c') w')∧aS8 w' a A' (n+1) c' (ls++[x])∧
  (w.alloc (.cells #[.string (sB x)] 9)).grownBy w' (aT A):=by
 have g:Ext w (w.alloc (.cells #[.string (sB x)] 9)):=(Ext.refl _).aB _;obtain ⟨A',m,w',h,d,k,_⟩:=MJ (T:=33) underlying33 infoSt rfl (by omega) (Own.ext i g) (some ⟨w.heap.size,0,none⟩) 1 1 [.string (sB x)] rfl
  (fun j u hj=>by
   refine ⟨w.heap.size,0,rfl,?_⟩;rw [Nat.zero_add,World.cell?_alloc_new]
   match j,hj with
   |0,hj=>simpa using hj
   |j+1,hj=>simp at hj)
  (by intro u l;simp at l;subst l;rfl) (by simp only [maxLen];omega) (by omega) (Nat.le_trans f g.b.size)
 exact ⟨A',m,w',h,by unfold aS8;rw [List.map_append];exact d,k⟩
noncomputable def aS9:Int→List (List Int)→Option (Int × Int)
 |_,[]=>none
 |i,l::r=>if (alE l).2≠0 then some (i,(alE l).2) else aS9 (i+1) r
theorem aSG {L:List (List Int)} {k:Nat} (a:k<L.length):aS9 k (L.drop k)=if (alE L[k]).2≠0 then some ((k:Int),(alE L[k]).2) else aS9 ((k+1:Nat):Int) (L.drop (k+1)):=by
 rw [drop_at L k a];rfl
noncomputable def aSB (L:List (List Int)):List Int × Int × Int:=match aS9 0 L with
 |some q=>([],q)
 |none=>if (aNQ (L.map fun l=>(alE l).1)).2≠0 then ([],aNQ (L.map fun l=>(alE l).1)) else ((aNe (L.map fun l=>(alE l).1)).1,0,(aNe (L.map fun l=>(alE l).1)).2)
noncomputable def aSI (T:bK) (s:List Int):List Int × Int × Int:=if (aRw T s).2.2≠0 then ([],(aRw T s).2) else aSB (aRw T s).1
theorem aSF {L:List (List Int)} {q:Int × Int} (h:aS9 0 L=some q):aSB L=([],q):=by
 unfold aSB;rw [h]
theorem aSE {L:List (List Int)} (h:aS9 0 L=none):aSB L=if (aNQ (L.map fun l=>(alE l).1)).2≠0 then ([],aNQ (L.map fun l=>(alE l).1)) else ((aNe (L.map fun l=>(alE l).1)).1,0,(aNe (L.map fun l=>(alE l).1)).2):=by
 unfold aSB;rw [h]
theorem aSC {T:bK} {L:List (List Int)} (h:(aS3 T L).2.2=0):(aS3 T L).1=L.map (fun l=>(aQy T l).1)∧∀ l∈L,(aQy T l).2=0:=by
 cases a:aRf T 0 L with
 |some p=>
  exfalso;rw [aS7 a] at h;have:∀ (L:List (List Int)) (i:Int) (p:Int × Int),aRf T i L=some p→p.2≠0:=by
   intro L
   induction L with
   |nil=>intro i p h;cases h
   |cons x r ih=>
    intro i p h;unfold aRf at h;split at h
    ·injection h with h;subst h;assumption
    ·exact ih _ _ h
  exact this L 0 p a h
 |none=>
  rw [aRy a] at h ⊢;split at h
  ·exact absurd h ‹_›
  ·rename_i b;rw [if_neg b];exact ⟨rfl,aRh a⟩
theorem aSH {T:bK} {s:List Int} (h:(aRw T s).2.2=0):(aRw T s).1.length≤5000∧∀ l∈(aRw T s).1,qB T l=0∧l.length≤4096:=by
 unfold aRw at h ⊢;split at h
 ·cases h
 split at h
 ·cases h
 split at h
 ·exact absurd h ‹_›
 split at h
 ·exact absurd h ‹_›
 split at h
 ·exact absurd h ‹_›
 rename_i b c d f a;rw [if_neg b,if_neg c,if_neg d,if_neg f,if_neg a];obtain ⟨g,i⟩:=aSC h;have h6:=Decidable.not_not.1 a;have k:=(I7 h6).2;have h8:=DR (T:=T) (aOT T (a6d s).1);have h9:(mF T (aOT T (a6d s).1)).length≤4096:=by rw [mF,if_pos h6];omega
 have h10:=aRk (mF T (aOT T (a6d s).1));rw [g];refine ⟨by rw [List.length_map];omega,fun l hl=> ?_⟩;rw [List.mem_map] at hl;obtain ⟨x,j,rfl⟩:=hl;have h11:=aS6 (i x j);exact ⟨h11,aQC (aS4 h11)⟩
def aSJ (w:World) (L:List (List Int)) (d:List Int × Int × Int) (e:Ending) (w':World):Prop:=∃ A n c,e= .returned (.tuple #[.slice A n c,.string (sB d.1),.int .i64 d.2.1,.int .i64 d.2.2])∧(d.2.2=0→UA w' ⟨A,n,c⟩ L)∧Ext w w'
def AsL (wb:World) (L:List (List Int)) (gh:Nat) (s11 s32:Value) (wx:World):Prop:=
 ∃ (k:Nat) (A:Option Addr) (c:Nat),k+gh=L.length∧s32= .int .i64 k∧s11= .slice A k c∧Hid (aS8 wx wb.heap.size A k c ((L.take k).map fun l=>(alE l).1))∧Hid (aS9 k (L.drop k)=aS9 0 L)∧Hid (Ext wb wx)
theorem aSc (T:bK) (t:TV) (s:List Int) (w:World) (ht:bT w t T) (hs:IsB s):Calls prog 38 #[t.v,.string (sB s)] w (aSJ w (aRw T s).1 (aSI T s)):=by
 have F:=aUt w t;have q:=aW0 F;have HP:=aW0 (aRt T t s (tW' w t) (ht.aQ F) hs);have S:Hid (aSI T s=if (aRw T s).2.2≠0 then ([],(aRw T s).2) else aSB (aRw T s).1):=rfl;have G:=aW0 (@aSH T s);generalize aSI T s=D at*;generalize aRw T s=Y at*;obtain ⟨L,pi,pe⟩:=Y;simp only [] at S G ⊢;clear ht F hs;go_enter func38,ntmps38;go_wp2_with fail;refine HP.out.mono ?_;rintro e w1 ⟨A,n,c,rfl,U,H⟩;have I:=aW0 H;have r:=aW0 U;have V:=q.out.trans' H;simp only [] at r;clear H U HP;by_cases a:pe=0
 case neg=>
  have p:=aW0 (S.out.trans (if_pos a));have e1:(pe != 0)=true:=bN' a;have f:=aW0 a;clear a S;go_wp2_with fail
  (try simp only [Exit.inBlock,Exit.then]);refine bodyPost_ret (results_tmp4 rfl _ _ _) rfl ?_
  exact ⟨none,0,0,by rw [p.out];rfl,fun h=>absurd (by rw [p.out] at h;exact h) f.out,V⟩
 have W:=aW0 (S.out.trans (if_neg (by rw [a];simp)));have e1:(pe != 0)=false:=bZ' a;have HO:=aW0 (G.out a);have hn:=r.out.len.1;subst hn;have hm:L.length≤5000:=HO.out.1;clear a S G V;go_wp2_with fail;go_loopg [11,32] L.length (fun gh s11 s32 wx=>AsL w1 L gh s11 s32 wx)
 case atStart=>exact ⟨0,none,0,by omega,rfl,rfl,aW0 (Own.nil_ _ _ _ _),aW0 rfl,aW0 (Ext.refl _)⟩
 case round=>
  obtain ⟨k,A2,c2,aq,rfl,rfl,z,d,J⟩:=hrel;have N:=q.out.trans' (I.out.trans' J.out);by_cases R:k<L.length
  ·obtain ⟨a4,rfl⟩:∃ g',gk=g'+1:=⟨gk - 1,by omega⟩;obtain ⟨b,o,za,zn,zc,rfl,aw,hz⟩:=(r.out.ext J.out).at_ R;have g:=aW0 (aSG R);have X:Hid (((L.take (k+1)).map fun l=>(alE l).1)=((L.take k).map fun l=>(alE l).1)++[(alE L[k]).1]):=aW0 (by rw [List.take_succ_eq_append_getElem R,List.map_append];rfl);have HE:=aW0 (aMO L[k] za zn zc wr hz (by have:=(HO.out.2 _ (List.getElem_mem R)).2;omega));clear hz N;generalize L[k]=x at*;generalize alE x=Y at*;obtain ⟨y,ev⟩:=Y;simp only [] at g X;have ay:=z0' k;have az:(k:Int)<(L.length:Int):=by omega
   go_wp2_with fail;refine HE.out.mono ?_;rintro e w2 ⟨rfl,Z⟩;have i:=aW0 Z;clear Z;by_cases a:ev=0
   ·have e2:(ev != 0)=false:=bZ' a;have a8:=aW0 ((g.out.trans (if_neg (by rw [a];simp))).symm.trans d.out);obtain ⟨A5,c5,w5,C,j,E⟩:=aSD (Own.ext z.out i.out) y (by omega) (J.out.trans' i.out).b.size;have a0:Ext w2 (w2.alloc (.cells #[.string (sB y)] 9)):=(Ext.refl _).aB _;have kC:Hid (aS8 w5 w1.heap.size A5 (k+1) c5 ((L.take (k+1)).map fun l=>(alE l).1)):=aW0 (by rw [X.out];exact j);have iJ:Hid (Ext w1 w5):=aW0 (aP ((J.out.trans' i.out).trans' a0) E (fun k R=>(Own.lt (Own.ext z.out i.out) k R).1));clear j E a0 a g d;go_wp2_with (at_builtin;refine aF rfl _ _ _ rfl _ _ rfl rfl _ _ C ?_);clear C;go_roundg a4
    case measure=>omega
    case rel=>exact ⟨k+1,A5,c5,by omega,by go_num,rfl,kC,a8,iJ⟩
   ·have e2:(ev != 0)=true:=bN' a;have p:=aW0 (W.out.trans (aSF (d.out.symm.trans (g.out.trans (if_pos a)))));have hx:=q.out.trans' (I.out.trans' (J.out.trans' i.out));have f:=aW0 a;clear a g d;go_wp2_with fail
    (try simp only [Exit.inBlock,Exit.then]);refine bodyPost_ret (results_tmp4 rfl _ _ _) rfl ?_
    exact ⟨none,0,0,by rw [p.out];rfl,fun h=>absurd (by rw [p.out] at h;exact h) f.out,hx⟩
  ·have aa:k=L.length:=by omega
   subst aa;have a1:Hid (aS9 0 L=none):=aW0 (by rw [← d.out,List.drop_of_length_le (by omega)];rfl);have P:=aW0 (W.out.trans (aSE a1.out));have B:=aS8.sts z.out;rw [List.take_length] at B;have ab:=aW0 (aNW _ _ _ _ wr B (by rw [List.length_map];omega));have ac:=aW0 (aO5 _ _ _ _ wr B (by rw [List.length_map];omega));have ad:Hid ((aNQ (L.map fun l=>(alE l).1)).2=0→(aNe (L.map fun l=>(alE l).1)).2=0):=aW0 (fun h=>by unfold aNe;rw [if_neg (by rw [h];simp)]);have ae:=aW0 (r.out.ext J.out);clear B z d a1;generalize (L.map fun l=>(alE l).1)=O at*;generalize aNQ O=K at*;generalize aNe O=M at*;obtain ⟨ki,ke⟩:=K;obtain ⟨m,me⟩:=M;simp only [] at P ad;go_wp2_with fail;refine ab.out.mono ?_;rintro e w2 ⟨he,rfl⟩;unfold IE2 at he;subst he;simp only [];by_cases a:ke=0
   ·have e2:(ke != 0)=false:=bZ' a;have p:=aW0 (P.out.trans (if_neg (by rw [a];simp)));clear a N;go_wp2_with fail;refine ac.out.mono ?_;rintro e w3 ⟨rfl,Q⟩;have hx:=q.out.trans' (I.out.trans' (J.out.trans' Q));have ag:=aW0 (ae.out.ext Q);clear Q;go_wp2_with fail
    (try simp only [Exit.inBlock,Exit.then]);refine bodyPost_ret (results_tmp4 rfl _ _ _) rfl ?_
    exact ⟨_,_,_,by rw [p.out];rfl,fun _=>ag.out,hx⟩
   ·have e2:(ke != 0)=true:=bN' a;have p:=aW0 (P.out.trans (if_pos a));have f:=aW0 a;clear a;go_wp2_with fail
    (try simp only [Exit.inBlock,Exit.then]);refine bodyPost_ret (results_tmp4 rfl _ _ _) rfl ?_
    exact ⟨none,0,0,by rw [p.out];rfl,fun h=>absurd (by rw [p.out] at h;exact h) f.out,N⟩
def aSg (w:World) (d:List Int × Int × Int) (e:Ending) (w':World):Prop:=e= .returned (.tuple #[.string (sB d.1),.int .i64 d.2.1,.int .i64 d.2.2])∧Ext w w'
theorem aSS (T:bK) (t:TV) (s:List Int) (w:World) (ht:bT w t T) (g:IsB s):Calls prog 12 #[t.v,.string (sB s)] w (aSg w (aSI T s)):=by
 have a:=aUt w t;have h:=aW0 (aSc T t s (tW' w t) (ht.aQ a) g);generalize aSI T s=D at*;clear ht g;go_enter func12,ntmps12;go_wp2_with fail;refine h.out.mono ?_;rintro e i ⟨A,n,c,rfl,d,b⟩;have f:=a.trans' b;clear b d;go_wp2_with fail;go_ret3;exact ⟨rfl,f⟩
theorem aST:∀ (f:Bool) (ls:List (List Int)),(∀ x∈ls,x.length≤4096)→(jnG f ls).length≤4097*ls.length
 |_,[],_=>by simp [jnG]
 |f,x::r,h=>by
  have a:=aST false r fun y hy=>h y (List.mem_cons_of_mem _ hy)
  have b:=h x (List.mem_cons_self ..);unfold jnG;rw [List.length_append];have c:(if f=true then x else 46::x).length≤4097:=by
   split
   ·omega
   ·simp;omega
  simp only [List.length_cons];omega
theorem aSU {L:List (List Int)} (h:(aSB L).2.2=0):L.length≤127:=by
 cases a:aS9 0 L with
 |some q=>
  exfalso;rw [aSF a] at h;have:∀ (L:List (List Int)) (i:Int) (p:Int × Int),aS9 i L=some p→p.2≠0:=by
   intro L
   induction L with
   |nil=>intro i p h;cases h
   |cons x r ih=>
    intro i p h;unfold aS9 at h;split at h
    ·injection h with h;subst h;assumption
    ·exact ih _ _ h
  exact this L 0 q a h
 |none=>
  rw [aSE a] at h;split at h
  ·exact absurd h ‹_›
  ·rename_i b;have:=(aNg (Decidable.not_not.1 b)).2.1;rwa [List.length_map] at this
noncomputable def uniD (T:bK) (s:List Int):List Int × Int × Int:=if (aSI T s).2.2≠0 then ([],(aSI T s).2) else ((a7q (jnL (aRw T s).1)).1,0,(a7q (jnL (aRw T s).1)).2)
theorem aSV {T:bK} {s:List Int} (h:(aSI T s).2.2=0):(jnL (aRw T s).1).length≤1000000:=by
 unfold aSI at h;split at h
 ·exact absurd h ‹_›
 ·rename_i a;have b:=aSU h;have c:=aST true (aRw T s).1 fun x hx=>((aSH (Decidable.not_not.1 a)).2 x hx).2
  unfold jnL;omega
theorem aSW (T:bK) (t:TV) (s:List Int) (w:World) (ht:bT w t T) (B:IsB s):Calls prog 28 #[t.v,.string (sB s)] w (aSg w (uniD T s)):=by
 have d:=aUt w t;have C:=aW0 (aSc T t s (tW' w t) (ht.aQ d) B);have f:Hid (uniD T s=if (aSI T s).2.2≠0 then ([],(aSI T s).2) else ((a7q (jnL (aRw T s).1)).1,0,(a7q (jnL (aRw T s).1)).2)):=rfl;have l:=aW0 (@aSV T s);generalize uniD T s=V at*;generalize aSI T s=D at*;generalize (aRw T s).1=L at*;obtain ⟨m,J,o⟩:=D;simp only [] at f l;clear ht B;go_enter func28,ntmps28;go_wp2_with fail;refine C.out.mono ?_;rintro e E ⟨A,n,c,rfl,a,g⟩;have h:=d.trans' g;simp only [] at a;clear g;by_cases b:o=0
 ·have p:=aW0 (a b);have q:=aW0 (l.out b);have r:=aW0 (f.out.trans (if_neg (by rw [b];simp)));have F:(o != 0)=false:=bZ' b;clear b a f l;go_wp2_with fail;refine (aNA L A n c E p.out q.out).mono ?_;rintro e G ⟨H,I,c2,rfl,i,j⟩;have x:=aW0 i;have y:=h.trans' j;clear i j;go_wp2_with fail;refine (uenc_spec (jnL L) H I c2 G x.out).mono ?_;rintro e K ⟨rfl,k⟩;have z:=y.trans' k;clear k;go_wp2_with fail;go_ret3;exact ⟨by rw [r.out];rfl,z⟩
 ·have r:=aW0 (f.out.trans (if_pos b));have F:(o != 0)=true:=bN' b;clear b a f l;go_wp2_with fail;go_ret3;exact ⟨by rw [r.out];rfl,h⟩
end Go.Proofs.YtjccgagakfndpaaGreatDoor
