/- Part Yb40. -/
import Derived.Deep.LoopGhost
import Derived.Test.YtjccgagakfndpaaGreatDoorYb37
import Derived.Test.YtjccgagakfndpaaGreatDoorYb11
import Derived.Test.YtjccgagakfndpaaGreatDoorYb39
open Go.Proofs.Tryz
namespace Go.Proofs.YtjccgagakfndpaaGreatDoor
set_option maxHeartbeats 25600000
set_option maxRecDepth 100000
open Go.RowKit
def KH (w:World) (l:List Int) (e:Ending) (w':World):Prop:=∃ A n c,e= .returned (.slice A n c)∧aX w' ⟨A,n,c⟩ l∧Ext w w'
def woS:List Int:=[97,98,109,110,111,114,48,120,121]
def woJ:List Int:=[769,803,945,946,1072,1488,1576,1632,7680,7681,7682,19968,44032,8204,2381]
def woV (r:List Int):Int:=if jY 2 r=0 then woS.getD (jY 9 r.tail).toNat 0 else woJ.getD (jY 15 r.tail).toNat 0
def a2d:Nat→List Int→List Int
 |0,_=>[]
 |n+1,r=>woV r::a2d n r.tail.tail
def uG (m:List Int):List Int:=a2d (1+jY 6 m).toNat m.tail
theorem a9J:∀ n r,(a2d n r).length=n
 |0,_=>rfl
 |n+1,r=>by rw [a2d,List.length_cons,a9J n]
theorem aDh (m:List Int):1≤(uG m).length∧(uG m).length<7:=by
 have:=iI m (n:=6) (by decide);rw [uG,a9J];omega
theorem aIr (r:List Int):woV r∈woS++woJ:=by
 unfold woV;split
 ·have:=iI r.tail (n:=9) (by decide);rw [getD_lt _ _ _ (by simp [woS];omega)];exact List.mem_append_left _ (List.getElem_mem _)
 ·have:=iI r.tail (n:=15) (by decide);rw [getD_lt _ _ _ (by simp [woJ];omega)];exact List.mem_append_right _ (List.getElem_mem _)
theorem aGP:∀ n r,∀ x∈a2d n r,x∈woS++woJ
 |0,_,x,h=>by cases h
 |n+1,r,x,h=>by
  rw [a2d,List.mem_cons] at h;rcases h with rfl|h
  ·exact aIr r
  ·exact aGP n _ x h
def aEX (w0 w:World) (g:Nat) (r:List Int) (e:Ending) (w':World):Prop:=e= .returned (.int .i64 (woV r))∧Src w0 w' g r.tail.tail∧Kp [g] w w'∧Ext w0 w'
theorem aAY (s w:World) (g:Nat) (r:List Int) (P:Src s w g r) (hb:Ext s w):
 Calls prog 40 #[.pointer (some ⟨g,0,none⟩)] w (aEX s w g r):=by
 have S:g<w.heap.size:=by
  obtain ⟨_,_,_,_,_,_,_,T,_⟩:=P;exact World.block_lt_of_cell? w _ T
 have G:=iI r (n:=2) (by decide);obtain ⟨k,H⟩:∃ k:Nat,jY 2 r=k:=⟨(jY 2 r).toNat,by omega⟩;have I:k<2:=by omega
 obtain ⟨V,J⟩:∃ V,V=woV r:=⟨_,rfl⟩;have F:Hid (V=if (k:Int)=0 then woS.getD (jY 9 r.tail).toNat 0 else woJ.getD (jY 15 r.tail).toNat 0):=aW0 (by rw [J,woV,H]);unfold aEX;rw [← J];have U:=aW0 H;have Q:=aW0 P;clear J H G P;go_enter func40,ntmps40;go_wp2_with fail;refine (dP s w g r 2 (by decide) (by decide) Q.out hb).mono ?_;rintro e j ⟨rfl,t,l,x⟩;rw [U.out];have z:=aW0 t;have A:=aW0 l;have B:=aW0 x;have W:=l.size;clear t l x Q
 match k,I with
 |0,_=>
  have C:Hid (V=woS.getD (jY 9 r.tail).toNat 0):=F;have K:=iI r.tail (n:=9) (by decide);obtain ⟨v,a⟩:∃ v:Nat,jY 9 r.tail=v:=⟨(jY 9 r.tail).toNat,by omega⟩;have m:v<9:=by omega
  have o:Hid (V=woS.getD v 0):=aW0 (by rw [C.out,a,Int.toNat_natCast]);have c:=aW0 a;clear F C K a;go_wp2_with fail;refine (dP s j g r.tail 9 (by decide) (by decide) z.out B.out).mono ?_;rintro e R ⟨rfl,d,b,f⟩;rw [c.out];have L:=aW0 d;have p:=aW0 (A.out.trans b);have q:=aW0 f;clear d b f c
  match v,m with
  |0,_|1,_|2,_|3,_|4,_|5,_|6,_|7,_|8,_=>
   go_wp2_with fail;go_ret;exact ⟨aY (by rw [o.out];decide+kernel),L.out,p.out,q.out⟩
  |n+9,h=>exact absurd h (by omega)
 |1,_=>
  have C:Hid (V=woJ.getD (jY 15 r.tail).toNat 0):=F;have K:=iI r.tail (n:=15) (by decide);obtain ⟨v,a⟩:∃ v:Nat,jY 15 r.tail=v:=⟨(jY 15 r.tail).toNat,by omega⟩;have m:v<15:=by omega
  obtain ⟨y,N⟩:∃ y,woJ.getD v 0=y:=⟨_,rfl⟩;have o:Hid (V=y):=aW0 (by rw [C.out,a,Int.toNat_natCast,N]);have c:=aW0 a;have D:Ext j (j.alloc (.cells #[.int .i64 769,.int .i64 803,.int .i64 945,.int .i64 946,.int .i64 1072,.int .i64 1488,.int .i64 1576,.int .i64 1632,.int .i64 7680,.int .i64 7681,.int .i64 7682,.int .i64 19968,.int .i64 44032,.int .i64 8204,.int .i64 2381] 3)):=(Ext.refl _).aB _;have i:(j.alloc (.cells #[.int .i64 769,.int .i64 803,.int .i64 945,.int .i64 946,.int .i64 1072,.int .i64 1488,.int .i64 1576,.int .i64 1632,.int .i64 7680,.int .i64 7681,.int .i64 7682,.int .i64 19968,.int .i64 44032,.int .i64 8204,.int .i64 2381] 3)).cell? ⟨j.heap.size,v,none⟩=some (.int .i64 y):=by
   rw [World.cell?_alloc_new,← N]
   match v,m with
   |0,_|1,_|2,_|3,_|4,_|5,_|6,_|7,_|8,_|9,_|10,_|11,_|12,_|13,_|14,_=>rfl
   |n+15,h=>exact absurd h (by omega)
  have O:=aW0 D;have E:=aW0 i;have X:=z0' v;have Y:(v:Int)<15:=by omega
  clear F C K a N D i;go_wp2_with fail;refine (dP s _ g r.tail 15 (by decide) (by decide) (z.out.kp (M:=[]) (Kp.dG O.out) (by simp)) (B.out.trans' O.out)).mono ?_;rintro e R ⟨rfl,d,b,f⟩;rw [c.out];have Z:R.cell? ⟨j.heap.size,v,none⟩=some (.int .i64 y):=(b.cell ⟨j.heap.size,v,none⟩ (by simp) (by simp;omega)).trans E.out;have L:=aW0 d;have p:=aW0 ((A.out.trans (Kp.dG O.out)).trans b);have q:=aW0 f;clear d b f c E;go_wp2_with fail;go_ret;exact ⟨aY o.out.symm,L.out,p.out,q.out⟩
 |n+2,h=>exact absurd h (by omega)
def aKz (w:World) (g:Nat) (L:List Int) (gh:Nat) (s4 s5:Value) (wx:World):Prop:=
 ∃ (A:Option Addr) (c:Nat) (acc r:List Int),s5= .int .i64 gh∧s4= .slice A acc.length c∧bJ wx (g+1) A acc.length c acc∧Src w wx g r∧Ext w wx∧Hid (L=acc++a2d gh r)∧acc.length+gh<7∧g<wx.heap.size
theorem PX (m:List Int) (A:Option Addr) (n c:Nat) (w:World) (h:aX w ⟨A,n,c⟩ m):
 Calls prog 23 #[.slice A n c] w (KH w (uG m)):=by
 have HI:=aW0 h;clear h;go_enter func23,ntmps23;go_wp2_with fail;refine (zQ m A n c w HI.out).mono ?_;rintro e K ⟨rfl,l,s⟩;have a1:w.heap.size<K.heap.size:=by
  obtain ⟨_,_,_,_,_,_,_,h2,_⟩:=l;exact World.block_lt_of_cell? K _ h2
 generalize hg:w.heap.size=g at*;have HG:=aW0 hg;clear hg;go_wp2_with fail;refine (dP w K g m 6 (by decide) (by decide) l s).mono ?_;rintro e w2 ⟨rfl,t,x,z⟩;have a4:=x.size;have L:=iI m (n:=6) (by decide);obtain ⟨N,W⟩:∃ N:Nat,1+jY 6 m=N:=⟨(1+jY 6 m).toNat,by omega⟩;have HJ:Hid (uG m=a2d N m.tail):=aW0 (by rw [uG,W,Int.toNat_natCast]);have a6:N<7:=by omega
 have B:jY 6 m=(N:Int) - 1:=by omega
 rw [B];have a7:(1:Int)+((N:Int) - 1)=(N:Int):=by omega
 have C:=aW0 t;have D:=aW0 z;clear l s t x z W L B;go_wp2_with fail;go_loopg [4,5] N (fun gh s4 s5 wx=>aKz w g (uG m) gh s4 s5 wx)
 case atStart=>exact ⟨none,0,[],m.tail,rfl,rfl,Own.nil_ _ _ _ _,C.out,D.out,aW0 (by rw [HJ.out];rfl),by simp;omega,by omega⟩
 case round=>
  obtain ⟨O,c4,d,r,rfl,rfl,j,E,F,P,a8,a9⟩:=hrel;have Q:=aW0 j;have R:=aW0 E;have X:=aW0 F;clear j E F C D;rcases Nat.eq_zero_or_pos gk with h0|Y
  ·subst h0;have HF:Hid (uG m=d):=aW0 (by rw [P.out];simp [a2d]);go_wp2_with fail;go_ret;exact ⟨O,_,c4,rfl,by rw [HF.out];exact bJ.ints Q.out,X.out⟩
  ·obtain ⟨o,rfl⟩:∃ g',gk=g'+1:=⟨gk - 1,by omega⟩;have hd:decide ((0:Int)<((o+1:Nat):Int))=true:=by simp
   obtain ⟨y,S⟩:∃ y,woV r=y:=⟨_,rfl⟩;have T:Hid (uG m=(d++[y])++a2d o r.tail.tail):=aW0 (by rw [P.out,a2d,S];simp);have HY:=aW0 S;clear P S;go_wp2_with fail;refine (aAY w wr g r R.out X.out).mono ?_;rintro e p ⟨rfl,G,q,H⟩;rw [HY.out];have ad:wr.heap.size≤p.heap.size:=q.size;have U:Hid (bJ p (g+1) O d.length c4 d):=aW0 (Own.kp Q.out q (fun b V=>by have:=(Own.lt Q.out b V).1;simp;omega));have f:Ext p (p.alloc (.cells #[.int .i64 y] 3)):=(Ext.refl _).aB _;obtain ⟨A5,c5,J,I,i,a,oG⟩:=aZ (Own.ext U.out f) (dQ p y) (by omega) (by simp;omega);have kC:=aW0 i;have Z:Kp (aT O).toList (p.alloc (.cells #[.int .i64 y] 3)) J:=Kp.eH a (by intro b V;simp [V]);have XM:Hid (Src w J g r.tail.tail):=aW0 ((G.kp (M:=[]) (Kp.dG f) (by simp)).kp Z (by simp only [Option.mem_toList];intro e;have:=(Own.lt U.out g e).1;omega));have iJ:Hid (Ext w J):=aW0 (aP (H.trans' f) a (fun k hk=>by have:=(Own.lt U.out k hk).1;have:=HG.out;omega));have ZM:p.heap.size≤J.heap.size:=Nat.le_trans f.b.size a.size;clear G q H i a oG Z f;go_wp2_with (at_builtin;refine aF rfl _ _ _ rfl _ _ rfl rfl _ _ I ?_);go_roundg o
   case measure=>omega
   case rel=>exact ⟨A5,c5,d++[y],r.tail.tail,by go_num,by simp,by simpa using kC.out,XM.out,iJ.out,T,by simp;omega,by omega⟩
def aOy (ks B:List Int):Bool:=B.any fun x=>ks.any fun y=>y==x
def lastB (B:List Int):Int:=B.foldl (fun k x=>if x=10 then k else x) (-1)
def aPE (T:bK) (l:List Int):List Int:=l.map (aYy T)
def aPn (B:List Int):List Int:=if lastB B= -1 then [] else [lastB B]
def aQ8 (b1 b2 b3 b4 b5 b6 b7 b8:Bool):Int:=if b1 then (if b2 then 2 else if !b3 then 3 else if b4&&b5 then 4 else 0) else if b6 then (if b7 then 5 else if !b8 then 6 else 0) else 1
def aQD (B:List Int):Int:=match B with
 |[]=>0
 |f::r=>aQ8 (aOy [1,2] [f]) (aOy [0,11] (f::r)) (aOy [1,2,3,4] (aPn (f::r))) (aOy [4] (f::r)) (aOy [3] (f::r)) (aOy [0] [f]) (aOy [1,2,3,11] (f::r)) (aOy [0,4] (aPn (f::r)))
def aOV (B:List Int):Nat:=B.foldl (fun s b=>s ||| 2 ^ b.toNat) 0
def InB (B:List Int):Prop:=∀ x∈B,0≤x∧x≤11
theorem InB.snoc {B:List Int} {x:Int} (h:InB (B++[x])):InB B∧0≤x∧x≤11:=⟨fun y hy=>h y (by simp [hy]),h x (by simp)⟩
theorem aPD (B:List Int) (x:Int):aOV (B++[x])=aOV B ||| 2 ^ x.toNat:=by
 unfold aOV;rw [List.foldl_append];rfl
theorem aQ3 (ks B:List Int) (x:Int):aOy ks (B++[x])=(aOy ks B||ks.any fun y=>y==x):=by
 unfold aOy;rw [List.any_append];simp
theorem aPR {p:List Int→Prop} (c:p []) (d:∀ B x,p B→p (B++[x])):∀ B,p B:=by
 intro B;have a:∀ R:List Int,p R.reverse:=by
  intro R
  induction R with
  |nil=>exact c
  |cons x R ih=>
   rw [List.reverse_cons];exact d _ _ ih
 have b:=a B.reverse;rwa [List.reverse_reverse] at b
theorem aPd:∀ (B:List Int),InB B→aOV B<4096:=by
 refine aPR (fun _=>by decide) (fun B x ih h=> ?_);obtain ⟨a,b,c⟩:=h.snoc;rw [aPD];exact Nat.or_lt_two_pow (n:=12) (ih a) (Nat.pow_lt_pow_right (by decide) (by omega))
theorem aP2 (i:Nat):∀ (B:List Int),InB B→(aOV B).testBit i=B.any fun x=>x==(i:Int):=by
 refine aPR (fun _=>by simp [aOV]) (fun B x ih h=> ?_);obtain ⟨a,b,c⟩:=h.snoc;rw [aPD,Nat.testBit_or,ih a,List.any_append,Nat.testBit_two_pow];congr 1;simp only [List.any_cons,List.any_nil,Bool.or_false];rw [Bool.eq_iff_iff,aYu,beq_iff_eq];omega
theorem aPm (ks B:List Int) (m:InB ks) (g:InB B):(aOV B &&& aOV ks != 0)=aOy ks B:=by
 rw [Bool.eq_iff_iff,bne_iff_ne];constructor
 ·intro h;rcases Bool.eq_false_or_eq_true (aOy ks B) with b|b
  ·exact b
  ·exfalso;apply h;apply Nat.eq_of_testBit_eq;intro i;rw [Nat.testBit_and,aP2 i B g,aP2 i ks m,Nat.zero_testBit,Bool.and_eq_false_iff];by_cases a:(B.any fun x=>x==(i:Int))=true
   ·right;rw [List.any_eq_true] at a;obtain ⟨x,f,c⟩:=a;rw [beq_iff_eq] at c;subst c;unfold aOy at b;rw [List.any_eq_false] at b;have:=b _ f;rw [List.any_eq_false];intro z n d;rw [beq_iff_eq] at d;subst d;exact this (List.any_eq_true.2 ⟨_,n,by simp⟩)
   ·left;exact Bool.eq_false_iff.2 a
 ·intro h o;unfold aOy at h;rw [List.any_eq_true] at h;obtain ⟨x,a,j⟩:=h;rw [List.any_eq_true] at j;obtain ⟨y,p,k⟩:=j;rw [beq_iff_eq] at k;subst k;have q:=g _ a;have l:(aOV B &&& aOV ks).testBit y.toNat=true:=by
   rw [Nat.testBit_and,aP2 _ B g,aP2 _ ks m,aYr,List.any_eq_true,List.any_eq_true];exact ⟨⟨y,a,by rw [beq_iff_eq];omega⟩,⟨y,p,by rw [beq_iff_eq];omega⟩⟩
  rw [o,Nat.zero_testBit] at l;cases l
theorem aPq (a:Nat) (b:a<4096):(BitVec.ofInt 64 (a:Int)).toNat=a:=by
 rw [BitVec.ofInt_natCast,BitVec.toNat_ofNat];exact Nat.mod_eq_of_lt (by omega)
theorem aQ1 (a b:Nat) (d:a<4096) (c:b<4096):bits .and .i64 (a:Int) (b:Int)=((a &&& b:Nat):Int):=by
 have f:a &&& b<2 ^ 12:=Nat.and_lt_two_pow _ c;show IntKind.i64.wrap ((BitVec.ofInt 64 (a:Int) &&& BitVec.ofInt 64 (b:Int)).toNat:Int)=_
 rw [BitVec.toNat_and,aPq a d,aPq b c,IntKind.wrap_i64];omega
theorem aQ6 (a b:Nat) (c:a<4096) (d:b<4096):bits .or .i64 (a:Int) (b:Int)=((a ||| b:Nat):Int):=by
 have f:a ||| b<2 ^ 12:=Nat.or_lt_two_pow c d;show IntKind.i64.wrap ((BitVec.ofInt 64 (a:Int) ||| BitVec.ofInt 64 (b:Int)).toNat:Int)=_
 rw [BitVec.toNat_or,aPq a c,aPq b d,IntKind.wrap_i64];omega
theorem aQ5 (ks B:List Int) (a:InB ks) (b:InB B) (m:Int) (c:m=(aOV ks:Nat)):(bits .and .i64 ((aOV B:Nat):Int) m != 0)=aOy ks B:=by
 subst c;rw [aQ1 _ _ (aPd B b) (aPd ks a),← aPm ks B a b,Bool.eq_iff_iff,bne_iff_ne,bne_iff_ne];omega
theorem aPu:∀ n:Fin 64,n.val≤11→wrap64 (2 ^ n.val)=((2 ^ n.val:Nat):Int):=by decide+kernel
theorem aQ7 {k:Int} (a:0≤k) (b:k≤11):wrap64 (2 ^ k.toNat)=((2 ^ k.toNat:Nat):Int):=aPu ⟨k.toNat,by omega⟩ (by simp only;omega)
theorem aPj {lo hi:Int}:∀ {l:List Sp},valuesL lo hi l=true→lo≤0→0≤hi→∀ c,lo≤eF l c∧eF l c≤hi
 |[],_,h0,h1,c=>⟨h0,h1⟩
 |s::r,h,h0,h1,c=>by
  simp only [valuesL,aYr,Bool.not_eq_true',Bool.or_eq_false_iff,aYt] at h;rw [eF];by_cases a:s.lo≤c∧c≤s.hi
  ·rw [if_pos a];omega
  ·rw [if_neg a];exact aPj h.2 h0 h1 c
theorem aPv {T:bK} (h:lV T=true) (c:Int):0≤aYy T c∧aYy T c≤11:=by
 simp only [lV,aYr] at h;have a:valuesB T=true:=by simp only [h]
 simp only [valuesB,cols,nI,aYr] at a;have b:=aPj a.2.2.2.1 (by omega) (by omega) c;unfold aYy zT;split
 ·omega
 ·split
  ·unfold aAN
   repeat' split
   all_goals omega
  ·exact b
theorem aPx {T:bK} (h:lV T=true) (l:List Int):InB (aPE T l):=by
 intro x a;unfold aPE at a;rw [List.mem_map] at a;obtain ⟨c,_,rfl⟩:=a;exact aPv h c
theorem aPt (T:bK) (l:List Int) (k:Nat) (a:k<l.length):aPE T (l.take (k+1))=aPE T (l.take k)++[aYy T l[k]]:=by
 unfold aPE;rw [List.take_succ_eq_append_getElem a,List.map_append];rfl
theorem aPk (B:List Int) (x:Int):lastB (B++[x])=if x=10 then lastB B else x:=by
 unfold lastB;rw [List.foldl_append];rfl
theorem aPw:∀ B,InB B→ -1≤lastB B∧lastB B≤11∧lastB B≠10:=by
 refine aPR (fun _=>by decide) (fun B x ih h=> ?_);obtain ⟨a,b,c⟩:=h.snoc;rw [aPk];split
 ·exact ih a
 ·omega
theorem aQ4 {B:List Int} (h:InB B):InB (aPn B):=by
 have:=aPw B h;unfold aPn;split
 ·intro x a;cases a
 ·intro x a;rw [List.mem_singleton] at a;subst a;omega
theorem aPz (k:Int) (b:0≤k) (c:k≤11) (w:World):Calls prog 198 #[.int .i64 k] w fun e w'=>e= .returned (.int .i64 ((2 ^ k.toNat:Nat):Int))∧w=w':=by
 have a:=aW0 (aQ7 b c);have d:k≤64:=by omega
 go_enter func198,ntmps198;go_wp2_with fail;go_ret;exact ⟨aY a.out,rfl⟩
theorem aQ2 (a b:Int) (w:World):Calls prog 197 #[.int .i64 a,.int .i64 b] w fun e w'=>e= .returned (.bool (bits .and .i64 a b != 0))∧w=w':=by
 go_enter func197,ntmps197;go_wp2_with fail;go_ret;exact ⟨rfl,rfl⟩
def aQ0 (T:bK) (w0:World) (l:List Int) (gh:Nat) (s5 s10:Value) (wx:World):Prop:=
 ∃ (k:Nat),k+gh=l.length∧s10= .int .i64 k∧s5= .int .i64 ((aOV (aPE T (l.take k)):Nat):Int)∧Hid (Ext w0 wx)
theorem aPy (T:bK) (t:TV) (l:List Int) (A:Option Addr) (n c:Nat) (w:World) (ht:bT w t T) (hi:aX w ⟨A,n,c⟩ l) (p:lV T=true) (K:l.length≤4096):
 Calls prog 196 #[t.v,.slice A n c] w fun e w'=>e= .returned (.int .i64 ((aOV (aPE T l):Nat):Int))∧Ext w w':=by
 have a:=aUt w t;have r:=aW0 a;have L:=aW0 (ht.aQ a);have M:=aW0 (hi.ext a);have N:=aW0 (oN p);have O:=aW0 fun l=>aPx p l
 have s:=aW0 fun c=>aPv p c
 have P:=hi.len.1;subst P;have Q:=aW0 K;clear ht hi a K p;go_enter func196,ntmps196;go_wp2_with fail;go_loopg [5,10] l.length (fun gh s5 s10 wx=>aQ0 T (tW' w t) l gh s5 s10 wx)
 case atStart=>exact ⟨0,by omega,rfl,rfl,aW0 (Ext.refl _)⟩
 case round=>
  obtain ⟨k,R,rfl,rfl,f⟩:=hrel;have g:=r.out.trans' f.out;have H:∀ k:Nat,wr.cell? ⟨w.heap.size,k,none⟩=t.v.cells[k]? :=aO f.out;have S:l.length≤4096:=Q.out;by_cases h:k<l.length
  ·obtain ⟨z,rfl⟩:∃ g',gk=g'+1:=⟨gk - 1,by omega⟩;obtain ⟨b,o,rfl,U⟩:=(M.out.ext f.out).at_ h;have V:=aW0 (aPt T l k h);generalize l[k]=x at*;have W:=z0' k;have X:(k:Int)<(l.length:Int):=by omega
   have i:=s.out x;have B:=aW0 (aPd _ (O.out (l.take k)));have j:2 ^ (aYy T x).toNat<4096:=Nat.pow_lt_pow_right (n:=12) (by decide) (by omega)
   have I:Hid (∀ y:Int,y=aYy T x→bits .or .i64 ((aOV (aPE T (l.take k)):Nat):Int) ((2 ^ y.toNat:Nat):Int)=((aOV (aPE T (l.take (k+1))):Nat):Int)):=aW0 (by
    rintro y rfl
    rw [aQ6 _ _ B.out j,V.out,aPD])
   clear j g;go_wp2_with fail;refine (aOA t T x wr (L.out.aQ f.out) N.out).mono ?_;rintro e Y ⟨rfl,m⟩;have C:=aW0 (f.out.trans' m);clear m H;obtain ⟨q,D⟩:∃ q,q=aYy T x:=⟨_,rfl⟩;have Z:=I.out q D;rw [← D] at i ⊢;clear D I;obtain ⟨E,F⟩:=i;generalize aOV (aPE T (l.take k))=S1 at*;obtain ⟨J,d⟩:∃ J:Nat,J=aOV (aPE T (l.take (k+1))):=⟨_,rfl⟩;have G:=aW0 d;rw [← d] at Z;clear d;go_wp2_with fail;refine (aPz q E F Y).mono ?_;rintro e w4 ⟨rfl,rfl⟩;generalize ((2 ^ q.toNat:Nat):Int)=P2 at*;go_wp2_with fail;go_roundg z
   case measure=>omega
   case rel=>exact ⟨k+1,by omega,by go_num,by rw [← G.out],C⟩
  ·have HE:Hid (l.take k=l):=aW0 (List.take_of_length_le (by omega));clear H;go_wp2_with fail;go_ret;exact ⟨by rw [HE.out];rfl,g⟩
def aRF (T:bK) (w0:World) (l:List Int) (gh:Nat) (s5:Value) (wx:World):Prop:=
 gh≤l.length∧s5= .int .i64 ((gh:Int) - 1)∧Hid (Ext w0 wx)∧Hid (lastB (aPE T l)=lastB (aPE T (l.take gh)))
theorem aQ9 (x:Int):aOV [x]=2 ^ x.toNat:=by
 unfold aOV;simp
theorem aQA (T:bK) (t:TV) (l:List Int) (A:Option Addr) (n c:Nat) (w:World) (ht:bT w t T) (hi:aX w ⟨A,n,c⟩ l) (J:lV T=true) (N:l.length≤4096):
 Calls prog 200 #[t.v,.slice A n c] w fun e w'=>e= .returned (.int .i64 ((aOV (aPn (aPE T l)):Nat):Int))∧Ext w w':=by
 have a:=aUt w t;have f:=aW0 a;have O:=aW0 (ht.aQ a);have P:=aW0 (hi.ext a);have Q:=aW0 (oN J);have y:=aW0 fun c=>aPv J c
 have R:=hi.len.1;subst R;have S:=aW0 N;clear ht hi a N J;have U:l.length≤4096:=S.out;go_enter func200,ntmps200;go_wp2_with fail;go_loopg [5] l.length (fun gh s5 wx=>aRF T (tW' w t) l gh s5 wx)
 case atStart=>exact ⟨Nat.le_refl _,rfl,aW0 (Ext.refl _),aW0 (by rw [List.take_length])⟩
 case round=>
  obtain ⟨V,rfl,g,z⟩:=hrel;have i:=f.out.trans' g.out;cases gk with
  |zero=>
   have B:Hid (aOV (aPn (aPE T l))=0):=aW0 (by rw [aPn,z.out];rfl);go_wp2_with fail;go_ret;exact ⟨by rw [B.out];rfl,i⟩
  |succ k=>
   have j:k<l.length:=by omega
   have W:((k+1:Nat):Int) - 1=(k:Int):=by omega
   rw [W];obtain ⟨b,o,rfl,m⟩:=(P.out.ext g.out).at_ j;have C:Hid (lastB (aPE T (l.take (k+1)))=if aYy T l[k]=10 then lastB (aPE T (l.take k)) else aYy T l[k]):=aW0 (by rw [aPt T l k j,aPk]);generalize l[k]=x at*;have D:=z0' k;have X:(k:Int)<(l.length:Int):=by omega
   have Y:decide ((0:Int)≤(k:Int))=true:=decide_eq_true D;have p:=y.out x;have Z:∀ yy:aS wr,∀ k:Nat,yy.w.cell? ⟨w.heap.size,k,none⟩=t.v.cells[k]? :=fun yy=>aO (g.out.trans' yy.h)
   have rX:∀ yy:aS wr,yy.w.cell? ⟨b,o+k,none⟩=some (.int .i64 x):=bU m;have E:Hid (∀ w',Ext wr w'→Calls prog 199 #[t.v,.int .i64 x] w' fun e w''=>e= .returned (.int .i64 (aYy T x))∧Ext w' w''):=aW0 (fun w' h=>aOA t T x w' (O.out.aQ (g.out.trans' h)) Q.out);obtain ⟨q,K⟩:∃ q,aYy T x=q:=⟨_,rfl⟩;rw [K] at E C p;clear K;obtain ⟨F,G⟩:=p;go_wp2_with fail;refine rX' ?_
   repeat (go_big_quiet_step ((go_at_call 199;with_reducible exact aC (E.out _ (aS.h _)))))
   refine wpQuiet_nil ?_;rintro _ ⟨L,rfl⟩;clear Z rX m E;obtain ⟨s,d⟩:∃ s:World,s=L.w:=⟨_,rfl⟩;have r:Hid (Ext _ s):=aW0 (by rw [d];exact g.out.trans' L.h);rw [← d];clear d i;have H:=f.out.trans' r.out;by_cases h10:q=10
   ·have e1:(q != 10)=false:=by rw [h10];rfl
    have I:=aW0 (z.out.trans (C.out.trans (if_pos h10)));clear h10;go_wp2_with fail;go_roundg k
    case measure=>omega
    case rel=>exact ⟨by omega,by go_num,r,I⟩
   ·have e1:(q != 10)=true:=bN' h10
    have B:Hid (aOV (aPn (aPE T l))=2 ^ q.toNat):=aW0 (by
     have h1:=z.out.trans (C.out.trans (if_neg h10))
     rw [aPn,h1,if_neg (by omega),aQ9])
    clear h10;go_wp2_with fail;refine (aPz q F G s).mono ?_;rintro e w5 ⟨rfl,rfl⟩;generalize M:((2 ^ q.toNat:Nat):Int)=P2 at*;have HP:=aW0 M;clear M;go_wp2_with fail;go_ret;exact ⟨by rw [B.out,HP.out];rfl,H⟩
section
variable {T:bK}
structure Scl (T:bK):Prop where
 key:∀ m∈T.dec,bD m.lo=true
 tgt:∀ m∈T.dec,∀ c∈m.to,bD c=true
end
section
variable {T:bK}
theorem a1T {x n:Int} (a:OB n=false) (ht:PO n=false):vM x n=none:=by
 unfold vM;rw [a,ht];simp
def Mks (T:bK) (l:List Int):Prop:=CS T l∧∀ z∈l,bG T z≠0
theorem Mks.tail {x:Int} {r:List Int} (h:Mks T (x::r)):Mks T r:=⟨h.1.tail,fun z hz=>h.2 z (by simp [hz])⟩
theorem aCx {z:Int} (c:bG T z=0) (x:Int) (d:0≤bG T x) (Y:List Int):∀ X,EX T x (X++z::Y)=EX T x X++z::Y:=by
 intro X;unfold EX;by_cases a:bG T x=0
 ·rw [if_pos a,if_pos a];rfl
 ·rw [if_neg a,if_neg a]
  induction X with
  |nil=>
   show oL T (bG T x) x (z::Y)=[x]++z::Y
   rw [oL,if_neg (by omega)];rfl
  |cons y r ih=>
   rw [List.cons_append,oL,oL];by_cases b:bG T x<bG T y
   ·rw [if_pos b,if_pos b,ih];rfl
   ·rw [if_neg b,if_neg b];rfl
theorem a2Q (h:J4 T) {z:Int} (a:bG T z=0) (Y:List Int):∀ (l X:List Int),pI T (X++z::Y) l=(z::Y).reverse++pI T X l
 |[],X=>by simp [pI]
 |x::r,X=>by rw [mW,mW,aCx a x (h.aAC x),a2Q h a Y r]
theorem LJ (h:J4 T) {z:Int} (b:bG T z=0) (A B:List Int):iV T (A++z::B)=iV T A++z::iV T B:=by
 have e:∀ acc:List Int,EX T z acc=z::acc:=fun acc=>by unfold EX;rw [if_pos b]
 have a:=a2Q h b (iV T A).reverse B [];rw [List.nil_append] at a;rw [D9,mW,e,a];simp [iV]
theorem JA:∀ (r X pre tail:List Int) (st:Option Int),cZ T (X++pre) st tail r=X++cZ T pre st tail r
 |[],X,pre,tail,st=>by rw [cZ,cZ];simp
 |c::r,X,pre,tail,none=>by
  rw [cZ,cZ];split
  ·rw [List.append_assoc,JA r X]
  ·exact JA r X _ _ _
 |c::r,X,pre,tail,some s=>by
  rw [cZ,cZ];cases (if vV T tail c=true then none else pairT T s c) with
  |some x=>exact JA r X _ _ _
  |none=>
   simp only;split
   ·rw [List.append_assoc,JA r X]
   ·exact JA r X _ _ _
theorem a5L {z:Int} (b:∀ y,pairT T z y=none):∀ (r tail pre:List Int),cZ T pre (some z) tail r=pre++z::cZ T [] none tail r
 |[],tail,pre=>by rw [WH,WH];simp
 |c::r,tail,pre=>by
  rw [aEx _ _ _ _ _ (b c),ZJ];by_cases a:bG T c=0
  ·rw [if_pos a,if_pos a];have:=JA (T:=T) r (pre++z::[]) tail [] (some c);simp only [List.append_assoc,List.singleton_append,List.nil_append] at this ⊢;exact this
  ·rw [if_neg a,if_neg a,a5L b r]
theorem KR {z:Int} (a:bG T z=0) (d:∀ y,pairT T z y=none) (b:∀ x,pairT T x z=none) (d2:List Int):∀ (r pre tail:List Int) (st:Option Int),cZ T pre st tail (r++z::d2)=cZ T pre st tail r++z::MZ T d2
 |[],pre,tail,none=>by
  rw [List.nil_append,ZJ,if_pos a,a5L d,WH];simp [MZ]
 |[],pre,tail,some s=>by
  rw [List.nil_append,aEx _ _ _ _ _ (b s),if_pos a,a5L d,WH];simp [MZ]
 |c::r,pre,tail,none=>by
  rw [List.cons_append,cZ,cZ];split
  ·exact KR a d b d2 r _ _ _
  ·exact KR a d b d2 r _ _ _
 |c::r,pre,tail,some s=>by
  rw [List.cons_append,cZ,cZ];cases (if vV T tail c=true then none else pairT T s c) with
  |some x=>exact KR a d b d2 r _ _ _
  |none=>
   simp only;split
   ·exact KR a d b d2 r _ _ _
   ·exact KR a d b d2 r _ _ _
theorem a7X (h:J4 T) (y:Int):pairT T 46 y=none∧pairT T y 46=none:=by
 constructor
 ·unfold pairT;rw [show vM 46 y=none from by unfold vM;simp [OQ,OT,bW]];simp only;cases b:rE T 46 y T.dec with
  |none=>rfl
  |some x=>
   obtain ⟨m,c,_,a,_⟩:=yX b;exact absurd rfl (h.tgt m c 46 (by rw [a];simp)).2.2
 ·unfold pairT;rw [a1T (by rfl) (by rfl)];simp only;cases b:rE T y 46 T.dec with
  |none=>rfl
  |some x=>
   obtain ⟨m,c,_,a,_⟩:=yX b;exact absurd rfl (h.tgt m c 46 (by rw [a];simp)).2.2
theorem aFg (h:J4 T) (a b:List Int):fJ T (a++46::b)=fJ T a++46::fJ T b:=by
 have c:bG T 46=0:=h.a0M 46 (by decide);have d:iD T 46=[46]:=KP (by decide) (h.ZT (by decide));have f:iY T (a++46::b)=iY T a++46::iY T b:=by
  unfold iY;rw [List.flatMap_append,List.flatMap_cons,d,List.singleton_append,LJ h c]
 unfold fJ;rw [f,MZ,KR c (fun y=>(a7X h y).1) (fun y=>(a7X h y).2)];rfl
end
theorem oW {T:bK} {l:List Int} (h:lV T=true) (d:∀ c∈l,bD c=true) (f:l.length≤4096):bF T l=0:=by
 unfold bF;rw [if_neg (by rw [h];simp),if_neg (by omega),if_neg];rw [List.any_eq_true];rintro ⟨c,b,a⟩;rw [d c b] at a;simp at a
end Go.Proofs.YtjccgagakfndpaaGreatDoor
