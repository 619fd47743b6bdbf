/- Part Ya39. -/
import Derived.Test.YtjccgagakfndpaaGreatDoorYa38
open Go.Proofs.Tryz
namespace Go.Proofs.YtjccgagakfndpaaGreatDoor
set_option maxHeartbeats 25600000
set_option maxRecDepth 100000
open Go.RowKit
def aOy (ks B:List Int):Bool:=B.any fun x=>ks.any fun y=>y==x
def lastB (B:List Int):Int:=B.foldl (fun k x=>if x=10 then k else x) (-1)
def aPE (T:bK) (l:List Int):List Int:=l.map (aYy T)
def aPn (B:List Int):List Int:=if lastB B= -1 then [] else [lastB B]
def aQ8 (b1 b2 b3 b4 b5 b6 b7 b8:Bool):Int:=if b1 then (if b2 then 2 else if !b3 then 3 else if b4&&b5 then 4 else 0) else if b6 then (if b7 then 5 else if !b8 then 6 else 0) else 1
def aQD (B:List Int):Int:=match B with
 |[]=>0
 |f::r=>aQ8 (aOy [1,2] [f]) (aOy [0,11] (f::r)) (aOy [1,2,3,4] (aPn (f::r))) (aOy [4] (f::r)) (aOy [3] (f::r)) (aOy [0] [f]) (aOy [1,2,3,11] (f::r)) (aOy [0,4] (aPn (f::r)))
def aOV (B:List Int):Nat:=B.foldl (fun s b=>s ||| 2 ^ b.toNat) 0
def InB (B:List Int):Prop:=∀ x∈B,0≤x∧x≤11
theorem InB.snoc {B:List Int} {x:Int} (h:InB (B++[x])):InB B∧0≤x∧x≤11:=⟨fun y hy=>h y (by simp [hy]),h x (by simp)⟩
theorem aPD (B:List Int) (x:Int):aOV (B++[x])=aOV B ||| 2 ^ x.toNat:=by
 unfold aOV;rw [List.foldl_append];rfl
theorem aPR {p:List Int→Prop} (c:p []) (d:∀ B x,p B→p (B++[x])):∀ B,p B:=by
 intro B;have a:∀ R:List Int,p R.reverse:=by
  intro R
  induction R with
  |nil=>exact c
  |cons x R ih=>
   rw [List.reverse_cons];exact d _ _ ih
 have b:=a B.reverse;rwa [List.reverse_reverse] at b
theorem aPd:∀ (B:List Int),InB B→aOV B<4096:=by
 refine aPR (fun _=>by decide) (fun B x ih h=> ?_);obtain ⟨a,b,c⟩:=h.snoc;rw [aPD];exact Nat.or_lt_two_pow (n:=12) (ih a) (Nat.pow_lt_pow_right (by decide) (by omega))
theorem aP2 (i:Nat):∀ (B:List Int),InB B→(aOV B).testBit i=B.any fun x=>x==(i:Int):=by
 refine aPR (fun _=>by simp [aOV]) (fun B x ih h=> ?_);obtain ⟨a,b,c⟩:=h.snoc;rw [aPD,Nat.testBit_or,ih a,List.any_append,Nat.testBit_two_pow];congr 1;simp only [List.any_cons,List.any_nil,Bool.or_false];rw [Bool.eq_iff_iff,aYu,beq_iff_eq];omega
theorem aPm (a B:List Int) (n:InB a) (j:InB B):(aOV B &&& aOV a != 0)=aOy a B:=by
 rw [Bool.eq_iff_iff,bne_iff_ne];constructor
 ·intro h;rcases Bool.eq_false_or_eq_true (aOy a B) with c|c
  ·exact c
  ·exfalso;apply h;apply Nat.eq_of_testBit_eq;intro i;rw [Nat.testBit_and,aP2 i B j,aP2 i a n,Nat.zero_testBit,Bool.and_eq_false_iff];by_cases b:(B.any fun x=>x==(i:Int))=true
   ·right;rw [List.any_eq_true] at b;obtain ⟨x,g,d⟩:=b;rw [beq_iff_eq] at d;subst d;unfold aOy at c;rw [List.any_eq_false] at c;have:=c _ g;rw [List.any_eq_false];intro z o f;rw [beq_iff_eq] at f;subst f;exact this (List.any_eq_true.2 ⟨_,o,by simp⟩)
   ·left;exact Bool.eq_false_iff.2 b
 ·intro h p;unfold aOy at h;rw [List.any_eq_true] at h;obtain ⟨x,b,k⟩:=h;rw [List.any_eq_true] at k;obtain ⟨y,q,l⟩:=k;rw [beq_iff_eq] at l;subst l;have r:=j _ b;have m:(aOV B &&& aOV a).testBit y.toNat=true:=by
   rw [Nat.testBit_and,aP2 _ B j,aP2 _ a n,aYr,List.any_eq_true,List.any_eq_true];exact ⟨⟨y,b,by rw [beq_iff_eq];omega⟩,⟨y,q,by rw [beq_iff_eq];omega⟩⟩
  rw [p,Nat.zero_testBit] at m;cases m
theorem aPq (a:Nat) (b:a<4096):(BitVec.ofInt 64 (a:Int)).toNat=a:=by
 rw [BitVec.ofInt_natCast,BitVec.toNat_ofNat];exact Nat.mod_eq_of_lt (by omega)
theorem aQ1 (a b:Nat) (d:a<4096) (c:b<4096):bits .and .i64 (a:Int) (b:Int)=((a &&& b:Nat):Int):=by
 have f:a &&& b<2 ^ 12:=Nat.and_lt_two_pow _ c;show IntKind.i64.wrap ((BitVec.ofInt 64 (a:Int) &&& BitVec.ofInt 64 (b:Int)).toNat:Int)=_
 rw [BitVec.toNat_and,aPq a d,aPq b c,IntKind.wrap_i64];omega
theorem aQ6 (a b:Nat) (c:a<4096) (d:b<4096):bits .or .i64 (a:Int) (b:Int)=((a ||| b:Nat):Int):=by
 have f:a ||| b<2 ^ 12:=Nat.or_lt_two_pow c d;show IntKind.i64.wrap ((BitVec.ofInt 64 (a:Int) ||| BitVec.ofInt 64 (b:Int)).toNat:Int)=_
 rw [BitVec.toNat_or,aPq a c,aPq b d,IntKind.wrap_i64];omega
theorem aQ5 (a B:List Int) (b:InB a) (c:InB B) (m:Int) (d:m=(aOV a:Nat)):(bits .and .i64 ((aOV B:Nat):Int) m != 0)=aOy a B:=by
 subst d;rw [aQ1 _ _ (aPd B c) (aPd a b),← aPm a B b c,Bool.eq_iff_iff,bne_iff_ne,bne_iff_ne];omega
theorem aPu:∀ n:Fin 64,n.val≤11→wrap64 (2 ^ n.val)=((2 ^ n.val:Nat):Int):=by decide+kernel
theorem aQ7 {k:Int} (a:0≤k) (b:k≤11):wrap64 (2 ^ k.toNat)=((2 ^ k.toNat:Nat):Int):=aPu ⟨k.toNat,by omega⟩ (by simp only;omega)
theorem aPj {lo hi:Int}:∀ {l:List Sp},valuesL lo hi l=true→lo≤0→0≤hi→∀ c,lo≤eF l c∧eF l c≤hi
 |[],_,h0,h1,c=>⟨h0,h1⟩
 |s::r,h,h0,h1,c=>by
  simp only [valuesL,aYr,Bool.not_eq_true',Bool.or_eq_false_iff,aYt] at h;rw [eF];by_cases a:s.lo≤c∧c≤s.hi
  ·rw [if_pos a];omega
  ·rw [if_neg a];exact aPj h.2 h0 h1 c
theorem aPv {T:bK} (h:lV T=true) (c:Int):0≤aYy T c∧aYy T c≤11:=by
 simp only [lV,aYr] at h;have a:valuesB T=true:=by simp only [h]
 simp only [valuesB,cols,nI,aYr] at a;have b:=aPj a.2.2.2.1 (by omega) (by omega) c;unfold aYy zT;split
 ·omega
 ·split
  ·unfold aAN
   repeat' split
   all_goals omega
  ·exact b
theorem aPx {T:bK} (h:lV T=true) (l:List Int):InB (aPE T l):=by
 intro x a;unfold aPE at a;rw [List.mem_map] at a;obtain ⟨c,_,rfl⟩:=a;exact aPv h c
theorem aPt (T:bK) (l:List Int) (k:Nat) (a:k<l.length):aPE T (l.take (k+1))=aPE T (l.take k)++[aYy T l[k]]:=by
 unfold aPE;rw [List.take_succ_eq_append_getElem a,List.map_append];rfl
theorem aPk (B:List Int) (x:Int):lastB (B++[x])=if x=10 then lastB B else x:=by
 unfold lastB;rw [List.foldl_append];rfl
theorem aPw:∀ B,InB B→ -1≤lastB B∧lastB B≤11∧lastB B≠10:=by
 refine aPR (fun _=>by decide) (fun B x ih h=> ?_);obtain ⟨a,b,c⟩:=h.snoc;rw [aPk];split
 ·exact ih a
 ·omega
theorem aQ4 {B:List Int} (h:InB B):InB (aPn B):=by
 have:=aPw B h;unfold aPn;split
 ·intro x a;cases a
 ·intro x a;rw [List.mem_singleton] at a;subst a;omega
theorem aPz (k:Int) (b:0≤k) (c:k≤11) (w:World):Calls prog 198 #[.int .i64 k] w fun e w'=>e= .returned (.int .i64 ((2 ^ k.toNat:Nat):Int))∧w=w':=by
 have a:=aW0 (aQ7 b c);have d:k≤64:=by omega
 go_enter func198,ntmps198;go_wp2_with fail;go_ret;exact ⟨aY a.out,rfl⟩
theorem aQ2 (a b:Int) (w:World):Calls prog 197 #[.int .i64 a,.int .i64 b] w fun e w'=>e= .returned (.bool (bits .and .i64 a b != 0))∧w=w':=by
 go_enter func197,ntmps197;go_wp2_with fail;go_ret;exact ⟨rfl,rfl⟩
def aQ0 (T:bK) (w0:World) (l:List Int) (gh:Nat) (s5 s10:Value) (wx:World):Prop:=
 ∃ (k:Nat),k+gh=l.length∧s10= .int .i64 k∧s5= .int .i64 ((aOV (aPE T (l.take k)):Nat):Int)∧Hid (Ext w0 wx)
theorem aPy (T:bK) (t:TV) (l:List Int) (A:Option Addr) (n c:Nat) (w:World) (ht:bT w t T) (hi:aX w ⟨A,n,c⟩ l) (p:lV T=true) (K:l.length≤4096):
 Calls prog 196 #[t.v,.slice A n c] w fun e w'=>e= .returned (.int .i64 ((aOV (aPE T l):Nat):Int))∧Ext w w':=by
 have a:=aUt w t;have r:=aW0 a;have L:=aW0 (ht.aQ a);have M:=aW0 (hi.ext a);have N:=aW0 (oN p);have O:=aW0 fun l=>aPx p l
 have s:=aW0 fun c=>aPv p c
 have P:=hi.len.1;subst P;have Q:=aW0 K;clear ht hi a K p;go_enter func196,ntmps196;go_wp2_with fail;go_loopg [5,10] l.length (fun gh s5 s10 wx=>aQ0 T (tW' w t) l gh s5 s10 wx)
 case atStart=>exact ⟨0,by omega,rfl,rfl,aW0 (Ext.refl _)⟩
 case round=>
  obtain ⟨k,R,rfl,rfl,f⟩:=hrel;have g:=r.out.trans' f.out;have H:∀ k:Nat,wr.cell? ⟨w.heap.size,k,none⟩=t.v.cells[k]? :=aO f.out;have S:l.length≤4096:=Q.out;by_cases h:k<l.length
  ·obtain ⟨z,rfl⟩:∃ g',gk=g'+1:=⟨gk - 1,by omega⟩;obtain ⟨b,o,rfl,U⟩:=(M.out.ext f.out).at_ h;have V:=aW0 (aPt T l k h);generalize l[k]=x at*;have W:=z0' k;have X:(k:Int)<(l.length:Int):=by omega
   have i:=s.out x;have B:=aW0 (aPd _ (O.out (l.take k)));have j:2 ^ (aYy T x).toNat<4096:=Nat.pow_lt_pow_right (n:=12) (by decide) (by omega)
   have I:Hid (∀ y:Int,y=aYy T x→bits .or .i64 ((aOV (aPE T (l.take k)):Nat):Int) ((2 ^ y.toNat:Nat):Int)=((aOV (aPE T (l.take (k+1))):Nat):Int)):=aW0 (by
    rintro y rfl
    rw [aQ6 _ _ B.out j,V.out,aPD])
   clear j g;go_wp2_with fail;refine (aOA t T x wr (L.out.aQ f.out) N.out).mono ?_;rintro e Y ⟨rfl,m⟩;have C:=aW0 (f.out.trans' m);clear m H;obtain ⟨q,D⟩:∃ q,q=aYy T x:=⟨_,rfl⟩;have Z:=I.out q D;rw [← D] at i ⊢;clear D I;obtain ⟨E,F⟩:=i;generalize aOV (aPE T (l.take k))=S1 at*;obtain ⟨J,d⟩:∃ J:Nat,J=aOV (aPE T (l.take (k+1))):=⟨_,rfl⟩;have G:=aW0 d;rw [← d] at Z;clear d;go_wp2_with fail;refine (aPz q E F Y).mono ?_;rintro e w4 ⟨rfl,rfl⟩;generalize ((2 ^ q.toNat:Nat):Int)=P2 at*;go_wp2_with fail;go_roundg z
   case measure=>omega
   case rel=>exact ⟨k+1,by omega,by go_num,by rw [← G.out],C⟩
  ·have HE:Hid (l.take k=l):=aW0 (List.take_of_length_le (by omega));clear H;go_wp2_with fail;go_ret;exact ⟨by rw [HE.out];rfl,g⟩
def aRF (T:bK) (w0:World) (l:List Int) (gh:Nat) (s5:Value) (wx:World):Prop:=
 gh≤l.length∧s5= .int .i64 ((gh:Int) - 1)∧Hid (Ext w0 wx)∧Hid (lastB (aPE T l)=lastB (aPE T (l.take gh)))
theorem aQ9 (x:Int):aOV [x]=2 ^ x.toNat:=by
 unfold aOV;simp
theorem aQA (T:bK) (t:TV) (l:List Int) (A:Option Addr) (n c:Nat) (w:World) (ht:bT w t T) (hi:aX w ⟨A,n,c⟩ l) (J:lV T=true) (N:l.length≤4096):
 Calls prog 200 #[t.v,.slice A n c] w fun e w'=>e= .returned (.int .i64 ((aOV (aPn (aPE T l)):Nat):Int))∧Ext w w':=by
 have a:=aUt w t;have f:=aW0 a;have O:=aW0 (ht.aQ a);have P:=aW0 (hi.ext a);have Q:=aW0 (oN J);have y:=aW0 fun c=>aPv J c
 have R:=hi.len.1;subst R;have S:=aW0 N;clear ht hi a N J;have U:l.length≤4096:=S.out;go_enter func200,ntmps200;go_wp2_with fail;go_loopg [5] l.length (fun gh s5 wx=>aRF T (tW' w t) l gh s5 wx)
 case atStart=>exact ⟨Nat.le_refl _,rfl,aW0 (Ext.refl _),aW0 (by rw [List.take_length])⟩
 case round=>
  obtain ⟨V,rfl,g,z⟩:=hrel;have i:=f.out.trans' g.out;cases gk with
  |zero=>
   have B:Hid (aOV (aPn (aPE T l))=0):=aW0 (by rw [aPn,z.out];rfl);go_wp2_with fail;go_ret;exact ⟨by rw [B.out];rfl,i⟩
  |succ k=>
   have j:k<l.length:=by omega
   have W:((k+1:Nat):Int) - 1=(k:Int):=by omega
   rw [W];obtain ⟨b,o,rfl,m⟩:=(P.out.ext g.out).at_ j;have C:Hid (lastB (aPE T (l.take (k+1)))=if aYy T l[k]=10 then lastB (aPE T (l.take k)) else aYy T l[k]):=aW0 (by rw [aPt T l k j,aPk]);generalize l[k]=x at*;have D:=z0' k;have X:(k:Int)<(l.length:Int):=by omega
   have Y:decide ((0:Int)≤(k:Int))=true:=decide_eq_true D;have p:=y.out x;have Z:∀ yy:aS wr,∀ k:Nat,yy.w.cell? ⟨w.heap.size,k,none⟩=t.v.cells[k]? :=fun yy=>aO (g.out.trans' yy.h)
   have rX:∀ yy:aS wr,yy.w.cell? ⟨b,o+k,none⟩=some (.int .i64 x):=bU m;have E:Hid (∀ w',Ext wr w'→Calls prog 199 #[t.v,.int .i64 x] w' fun e w''=>e= .returned (.int .i64 (aYy T x))∧Ext w' w''):=aW0 (fun w' h=>aOA t T x w' (O.out.aQ (g.out.trans' h)) Q.out);obtain ⟨q,K⟩:∃ q,aYy T x=q:=⟨_,rfl⟩;rw [K] at E C p;clear K;obtain ⟨F,G⟩:=p;go_wp2_with fail;refine rX' ?_
   repeat (go_big_quiet_step ((go_at_call 199;with_reducible exact aC (E.out _ (aS.h _)))))
   refine wpQuiet_nil ?_;rintro _ ⟨L,rfl⟩;clear Z rX m E;obtain ⟨s,d⟩:∃ s:World,s=L.w:=⟨_,rfl⟩;have r:Hid (Ext _ s):=aW0 (by rw [d];exact g.out.trans' L.h);rw [← d];clear d i;have H:=f.out.trans' r.out;by_cases h10:q=10
   ·have e1:(q != 10)=false:=by rw [h10];rfl
    have I:=aW0 (z.out.trans (C.out.trans (if_pos h10)));clear h10;go_wp2_with fail;go_roundg k
    case measure=>omega
    case rel=>exact ⟨by omega,by go_num,r,I⟩
   ·have e1:(q != 10)=true:=bN' h10
    have B:Hid (aOV (aPn (aPE T l))=2 ^ q.toNat):=aW0 (by
     have h1:=z.out.trans (C.out.trans (if_neg h10))
     rw [aPn,h1,if_neg (by omega),aQ9])
    clear h10;go_wp2_with fail;refine (aPz q F G s).mono ?_;rintro e w5 ⟨rfl,rfl⟩;generalize M:((2 ^ q.toNat:Nat):Int)=P2 at*;have HP:=aW0 M;clear M;go_wp2_with fail;go_ret;exact ⟨by rw [B.out,HP.out];rfl,H⟩
end Go.Proofs.YtjccgagakfndpaaGreatDoor
