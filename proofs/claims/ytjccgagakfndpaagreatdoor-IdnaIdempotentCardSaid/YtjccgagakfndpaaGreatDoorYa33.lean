/- Part Ya33. -/
import Derived.Test.YtjccgagakfndpaaGreatDoorYa01
import Derived.Deep.LoopGhost
import Derived.Test.YtjccgagakfndpaaGreatDoorYa32
open Go.Proofs.Tryz
namespace Go.Proofs.YtjccgagakfndpaaGreatDoor
set_option maxHeartbeats 25600000
set_option maxRecDepth 100000
open Go.RowKit
def KH (w:World) (l:List Int) (e:Ending) (w':World):Prop:=∃ A n c,e= .returned (.slice A n c)∧aX w' ⟨A,n,c⟩ l∧Ext w w'
def woS:List Int:=[97,98,109,110,111,114,48,120,121]
def woJ:List Int:=[769,803,945,946,1072,1488,1576,1632,7680,7681,7682,19968,44032,8204,2381]
def woV (r:List Int):Int:=if jY 2 r=0 then woS.getD (jY 9 r.tail).toNat 0 else woJ.getD (jY 15 r.tail).toNat 0
theorem aIr (r:List Int):woV r∈woS++woJ:=by
 unfold woV;split
 ·have:=iI r.tail (n:=9) (by decide);rw [getD_lt _ _ _ (by simp [woS];omega)];exact List.mem_append_left _ (List.getElem_mem _)
 ·have:=iI r.tail (n:=15) (by decide);rw [getD_lt _ _ _ (by simp [woJ];omega)];exact List.mem_append_right _ (List.getElem_mem _)
def aEX (w0 w:World) (g:Nat) (r:List Int) (e:Ending) (w':World):Prop:=e= .returned (.int .i64 (woV r))∧Src w0 w' g r.tail.tail∧Kp [g] w w'∧Ext w0 w'
theorem aAY (s w:World) (g:Nat) (r:List Int) (P:Src s w g r) (hb:Ext s w):
 Calls prog 40 #[.pointer (some ⟨g,0,none⟩)] w (aEX s w g r):=by
 have S:g<w.heap.size:=by
  obtain ⟨_,_,_,_,_,_,_,T,_⟩:=P;exact World.block_lt_of_cell? w _ T
 have G:=iI r (n:=2) (by decide);obtain ⟨k,H⟩:∃ k:Nat,jY 2 r=k:=⟨(jY 2 r).toNat,by omega⟩;have I:k<2:=by omega
 obtain ⟨V,J⟩:∃ V,V=woV r:=⟨_,rfl⟩;have F:Hid (V=if (k:Int)=0 then woS.getD (jY 9 r.tail).toNat 0 else woJ.getD (jY 15 r.tail).toNat 0):=aW0 (by rw [J,woV,H]);unfold aEX;rw [← J];have U:=aW0 H;have Q:=aW0 P;clear J H G P;go_enter func40,ntmps40;go_wp2_with fail;refine (dP s w g r 2 (by decide) (by decide) Q.out hb).mono ?_;rintro e j ⟨rfl,t,l,x⟩;rw [U.out];have z:=aW0 t;have A:=aW0 l;have B:=aW0 x;have W:=l.size;clear t l x Q
 match k,I with
 |0,_=>
  have C:Hid (V=woS.getD (jY 9 r.tail).toNat 0):=F;have K:=iI r.tail (n:=9) (by decide);obtain ⟨v,a⟩:∃ v:Nat,jY 9 r.tail=v:=⟨(jY 9 r.tail).toNat,by omega⟩;have m:v<9:=by omega
  have o:Hid (V=woS.getD v 0):=aW0 (by rw [C.out,a,Int.toNat_natCast]);have c:=aW0 a;clear F C K a;go_wp2_with fail;refine (dP s j g r.tail 9 (by decide) (by decide) z.out B.out).mono ?_;rintro e R ⟨rfl,d,b,f⟩;rw [c.out];have L:=aW0 d;have p:=aW0 (A.out.trans b);have q:=aW0 f;clear d b f c
  match v,m with
  |0,_|1,_|2,_|3,_|4,_|5,_|6,_|7,_|8,_=>
   go_wp2_with fail;go_ret;exact ⟨aY (by rw [o.out];decide+kernel),L.out,p.out,q.out⟩
  |n+9,h=>exact absurd h (by omega)
 |1,_=>
  have C:Hid (V=woJ.getD (jY 15 r.tail).toNat 0):=F;have K:=iI r.tail (n:=15) (by decide);obtain ⟨v,a⟩:∃ v:Nat,jY 15 r.tail=v:=⟨(jY 15 r.tail).toNat,by omega⟩;have m:v<15:=by omega
  obtain ⟨y,N⟩:∃ y,woJ.getD v 0=y:=⟨_,rfl⟩;have o:Hid (V=y):=aW0 (by rw [C.out,a,Int.toNat_natCast,N]);have c:=aW0 a;have D:Ext j (j.alloc (.cells #[.int .i64 769,.int .i64 803,.int .i64 945,.int .i64 946,.int .i64 1072,.int .i64 1488,.int .i64 1576,.int .i64 1632,.int .i64 7680,.int .i64 7681,.int .i64 7682,.int .i64 19968,.int .i64 44032,.int .i64 8204,.int .i64 2381] 3)):=(Ext.refl _).aB _;have i:(j.alloc (.cells #[.int .i64 769,.int .i64 803,.int .i64 945,.int .i64 946,.int .i64 1072,.int .i64 1488,.int .i64 1576,.int .i64 1632,.int .i64 7680,.int .i64 7681,.int .i64 7682,.int .i64 19968,.int .i64 44032,.int .i64 8204,.int .i64 2381] 3)).cell? ⟨j.heap.size,v,none⟩=some (.int .i64 y):=by
   rw [World.cell?_alloc_new,← N]
   match v,m with
   |0,_|1,_|2,_|3,_|4,_|5,_|6,_|7,_|8,_|9,_|10,_|11,_|12,_|13,_|14,_=>rfl
   |n+15,h=>exact absurd h (by omega)
  have O:=aW0 D;have E:=aW0 i;have X:=z0' v;have Y:(v:Int)<15:=by omega
  clear F C K a N D i;go_wp2_with fail;refine (dP s _ g r.tail 15 (by decide) (by decide) (z.out.kp (M:=[]) (Kp.dG O.out) (by simp)) (B.out.trans' O.out)).mono ?_;rintro e R ⟨rfl,d,b,f⟩;rw [c.out];have Z:R.cell? ⟨j.heap.size,v,none⟩=some (.int .i64 y):=(b.cell ⟨j.heap.size,v,none⟩ (by simp) (by simp;omega)).trans E.out;have L:=aW0 d;have p:=aW0 ((A.out.trans (Kp.dG O.out)).trans b);have q:=aW0 f;clear d b f c E;go_wp2_with fail;go_ret;exact ⟨aY o.out.symm,L.out,p.out,q.out⟩
 |n+2,h=>exact absurd h (by omega)
def jnG:Bool→List (List Int)→List Int
 |_,[]=>[]
 |f,x::r=>(if f then x else 46::x)++jnG false r
def jnL (ls:List (List Int)):List Int:=jnG true ls
theorem aNC {ls:List (List Int)} {k:Nat} (h:k<ls.length):jnG (k==0) (ls.drop k)=(if (k==0)=true then ls[k] else 46::ls[k])++jnG (k+1==0) (ls.drop (k+1)):=by
 rw [drop_at ls k h];rfl
theorem aMj.lists {l w:World} {A:Option Addr} {N C:Nat} {ls:List (List Int)} (h:aMj l w A N C ls):UA w ⟨A,N,C⟩ ls:=by
 obtain ⟨g,S,rfl,d,m,f,j⟩:=h;obtain ⟨k,h6⟩:=Own.le d;refine ⟨⟨f.symm,by rw [f];exact k,h6⟩,fun i x hx=> ?_⟩;have hi:=(List.getElem?_eq_some_iff.1 hx).1;have b:i<S.length:=by omega
 refine ⟨g,0,S[i].a,S[i].n,S[i].c,rfl,?_,(j i S[i] x (List.getElem?_eq_getElem b) hx).1⟩;have:=World.ownsRow.cellAt d i (by omega);rw [Nat.zero_add,this];simp [b]
def aRY (w:World) (s:SV) (ls:List (List Int)):Prop:=
 a6r s ls.length∧∀ i x,ls[i]? =some x→∃ b o,s.a=some ⟨b,o,none⟩∧w.cell? ⟨b,o+i,none⟩=some (.string (sB x))
theorem aRY.keep {w w':World} {s:SV} {l:List (List Int)} (h:aRY w s l) (d:∀ p:Addr,p.block<w.heap.size→w'.cell? p=w.cell? p):aRY w' s l:=
 ⟨h.1,fun i x hx=>by obtain ⟨b,o,a,c⟩:=h.2 i x hx;exact ⟨b,o,a,aW d c⟩⟩
theorem aRY.ext {w w':World} {s:SV} {l:List (List Int)} (h:aRY w s l) (a:Ext w w'):aRY w' s l:=h.keep (bC a)
theorem aRY.at_ {A:Option Addr} {n c:Nat} {w:World} {l:List (List Int)} (h:aRY w ⟨A,n,c⟩ l) {i:Nat} (hi:i<l.length):∃ b o,A=some ⟨b,o,none⟩∧w.cell? ⟨b,o+i,none⟩=some (.string (sB l[i])):=
 h.2 i _ (List.getElem?_eq_getElem hi)
def fbG:Nat→List (List Int)→Option (Int × Int)
 |_,[]=>none
 |k,x::r=>if x.length=0 then some (k,10) else if 63<x.length then some (k,11) else fbG (k+1) r
def aMk:List (List Int)→Int
 |[]=>0
 |x::r=>x.length+aMk r
def aNQ (ls:List (List Int)):Int × Int:=
 if ls.length=0 then (0,10) else match fbG 0 ls with
  |some p=>p
  |none=>if 127<(ls.length:Int)∨253<(ls.length:Int) - 1+aMk ls then (0,11) else (0,0)
theorem aNI {ls:List (List Int)} {k:Nat} (h:k<ls.length):fbG k (ls.drop k)=if ls[k].length=0 then some ((k:Int),10) else if 63<ls[k].length then some ((k:Int),11) else fbG (k+1) (ls.drop (k+1)):=by
 rw [drop_at ls k h];rfl
theorem aNF (a:List (List Int)) (x:List Int):aMk (a++[x])=aMk a+x.length:=by
 induction a with
 |nil=>simp [aMk]
 |cons y a ih=>simp [aMk,ih];omega
theorem aNY:∀ (ls:List (List Int)),((jnG false ls).length:Int)=ls.length+aMk ls
 |[]=>rfl
 |x::r=>by
  have:=aNY r;show (((46::x)++jnG false r).length:Int)=_
  simp only [List.length_append,List.length_cons,aMk];omega
theorem aNZ {ls:List (List Int)} (h:ls≠[]):((jnL ls).length:Int)=(ls.length:Int) - 1+aMk ls:=by
 cases ls with
 |nil=>exact absurd rfl h
 |cons x r=>
  have:=aNY r;show ((x++jnG false r).length:Int)=_
  simp only [List.length_append,List.length_cons,aMk];omega
theorem aNg {ls:List (List Int)} (h:(aNQ ls).2=0):ls≠[]∧ls.length≤127∧(jnL ls).length≤253∧(aNQ ls).1=0:=by
 unfold aNQ at h ⊢;split at h
 ·cases h
 ·rename_i d;rw [if_neg d];have a:ls≠[]:=fun e=>d (by rw [e];rfl)
  have g:=aNZ a;cases b:fbG 0 ls with
  |some p=>
   rw [b] at h;exfalso;have c:∀ (l:List (List Int)) (k:Nat) (p:Int × Int),fbG k l=some p→p.2≠0:=by
    intro l
    induction l with
    |nil=>intro k p h;cases h
    |cons y r ih=>
     intro k p h;unfold fbG at h;split at h
     ·injection h with h;subst h;simp
     ·split at h
      ·injection h with h;subst h;simp
      ·exact ih _ _ h
   exact c ls 0 p b h
  |none=>
   rw [b] at h;simp only at h ⊢;split at h
   ·cases h
   ·rename_i f;rw [if_neg f];exact ⟨a,by omega,by omega,rfl⟩
def aNe (ls:List (List Int)):List Int × Int:=if (aNQ ls).2≠0 then ([],(aNQ ls).2) else (jnL ls,0)
theorem aMm:∀ (ls:List (List Int)) (k:Nat),fbG k ls=none→∀ x∈ls,0<x.length∧x.length≤63
 |[],_,_,x,a=>by cases a
 |y::r,k,h,x,a=>by
  unfold fbG at h;split at h
  ·cases h
  ·split at h
   ·cases h
   ·rcases List.mem_cons.1 a with rfl|a
    ·omega
    ·exact aMm r _ h x a
def aN4 (w:World) (ls:List (List Int)) (g:Nat) (s3 s8:Value) (wx:World):Prop:=
 ∃ (A:Option Addr) (n c k:Nat) (acc:List Int),g+k=ls.length∧s8= .int .i64 k∧s3= .slice A n c∧Hid (n=acc.length)∧n≤1000000∧bJ wx w.heap.size A n c acc∧Ext w wx∧Hid (jnL ls=acc++jnG (k==0) (ls.drop k))
theorem aNA (ls:List (List Int)) (A:Option Addr) (n c:Nat) (w:World) (hi:UA w ⟨A,n,c⟩ ls) (hm:(jnL ls).length≤1000000):Calls prog 63 #[.slice A n c] w (KH w (jnL ls)):=by
 have T:=hi.len.1;have U:=hi.len.2;subst T;have V:=aW0 hi;clear hi;go_enter func63,ntmps63;go_wp2_with fail;go_loopg [3,8] ls.length (fun gh s3 s8 wx=>aN4 w ls gh s3 s8 wx)
 case atStart=>exact ⟨none,0,0,0,[],by omega,rfl,rfl,rfl,by omega,Own.nil_ _ _ _ _,Ext.refl _,rfl⟩
 case round=>
  obtain ⟨B,m,d,k,g,hg,rfl,rfl,E,X,t,J,F⟩:=hrel;have z:=aW0 t;have y:=aW0 J;clear t J;by_cases G:k<ls.length
  ·obtain ⟨b,o,za,H,zc,hA,I,L⟩:=V.out.at_ G;subst hA;have Y:=aW (bC y.out) I;have K:=aW0 (aNC G);have S:=aW0 (fun W (h:Ext w W)=>L.ext h);have q:=L.len.1;clear L I;generalize ls[k]=x at*;by_cases r:k=0
   ·have Z:decide ((0:Int)<(k:Int))=false:=dF';have M:decide (0<k)=false:=dF';have l:=aJ F (show _=(g++x)++jnG (k+1==0) (ls.drop (k+1)) from by rw [K.out,if_pos (by rw [beq_iff_eq];exact r),List.append_assoc]);have C:m+H≤1000000:=by
     have N:=congrArg List.length l.out;simp only [List.length_append] at N;have h2:=E.out;omega
    obtain ⟨O,c5,P,j,a,f,_⟩:=aZ z.out (S.out wr y.out) (by omega) y.out.b.size;have Q:Hid (Ext w P):=aW0 (aP y.out f (fun k G=>(Own.lt z.out k G).1));have R:=aW0 a;have D:Hid (m+H=(g++x).length):=aW0 (by rw [List.length_append,E.out,q]);clear a f F K z y q E r;go_wp2_with (at_builtin;refine aF rfl _ _ _ rfl _ _ rfl rfl _ _ j ?_);go_roundg (ls.length - (k+1))
    case measure=>omega
    case rel=>exact ⟨O,m+H,c5,k+1,g++x,by omega,by go_num,rfl,D,C,R.out,Q.out,l⟩
   ·have Z:decide ((0:Int)<(k:Int))=true:=dT';have M:decide (0<k)=true:=dT';have l:=aJ F (show _=((g++[46])++x)++jnG (k+1==0) (ls.drop (k+1)) from by rw [K.out,if_neg (by rw [beq_iff_eq];exact r)];simp);have C:m+1+H≤1000000:=by
     have N:=congrArg List.length l.out;simp only [List.length_append,List.length_singleton] at N;have h2:=E.out;omega
    obtain ⟨A4,c4,w4,p,i,s,_⟩:=a6e z.out y.out 46 (by omega);obtain ⟨O,c5,P,j,a,f,_⟩:=aZ i (S.out w4 s) (by omega) s.b.size;have Q:Hid (Ext w P):=aW0 (aP s f (fun k G=>(Own.lt i k G).1));have R:=aW0 a;have D:Hid (m+1+H=((g++[46])++x).length):=aW0 (by simp only [List.length_append,List.length_singleton];rw [E.out,q]);clear a f F K z y q E r i s
    go_wp2_with (at_builtin;first
     |(refine aF rfl _ _ _ rfl _ _ rfl rfl _ _ p ?_;clear p)
     |(refine aF rfl _ _ _ rfl _ _ rfl rfl _ _ j ?_;clear j))
    go_roundg (ls.length - (k+1))
    case measure=>omega
    case rel=>exact ⟨O,m+1+H,c5,k+1,(g++[46])++x,by omega,by go_num,rfl,D,C,R.out,Q.out,l⟩
  ·have HF:Hid (jnL ls=g):=aW0 (by rw [F.out,bH ls k (by omega)];simp [jnG]);have hi:=bJ.ints z.out;have J:=y.out;clear F z;go_wp2_with fail;go_ret;exact ⟨B,_,d,rfl,by rw [HF.out];exact hi,J⟩
def aNL (w:World) (ls:List (List Int)) (g:Nat) (s14:Value) (wx:World):Prop:=
 ∃ k:Nat,g+k=ls.length∧s14= .int .i64 k∧wx=w∧Hid (fbG 0 ls=fbG k (ls.drop k))
def aNR (w:World) (ls:List (List Int)) (g:Nat) (s6 s32:Value) (wx:World):Prop:=
 ∃ (k:Nat) (u:Int),g+k=ls.length∧s32= .int .i64 k∧s6= .int .i64 u∧wx=w∧Hid (u=(ls.length:Int) - 1+aMk (ls.take k))∧ -1≤u∧u≤ls.length+63*k
def IE2 (d:Int × Int) (e:Ending):Prop:=e= .returned (.tuple #[.int .i64 d.1,.int .i64 d.2])
theorem aNW (ls:List (List Int)) (A:Option Addr) (n c:Nat) (w:World) (hi:aRY w ⟨A,n,c⟩ ls) (T:ls.length≤1000000):Calls prog 67 #[.slice A n c] w fun e w'=>IE2 (aNQ ls) e∧w=w':=by
 have h:Hid (aNQ ls=if ls.length=0 then (0,10) else match fbG 0 ls with
  |some p=>p
  |none=>if 127<(ls.length:Int)∨253<(ls.length:Int) - 1+aMk ls then (0,11) else (0,0)):=rfl
 generalize aNQ ls=D at*;have K:n=ls.length:=hi.1.1;subst K;have I:=aW0 hi;clear hi;by_cases z:ls.length=0
 ·rw [if_pos z] at h;have L:((ls.length:Int)==0)=true:=by rw [beq_iff_eq];omega
  have M:(ls.length==0)=true:=by rw [beq_iff_eq];omega
  clear z;go_enter func67,ntmps67;go_wp2_with fail;go_ret2;exact ⟨by rw [h.out];rfl,rfl⟩
 rw [if_neg z] at h;have L:((ls.length:Int)==0)=false:=bF';have M:(ls.length==0)=false:=bF';go_enter func67,ntmps67;go_wp2_with fail;go_loopg [14] ls.length (fun gh s14 wx=>aNL w ls gh s14 wx)
 case atStart=>exact ⟨0,by omega,rfl,rfl,rfl⟩
 case round=>
  obtain ⟨k,hg,rfl,rfl,r⟩:=hrel;by_cases J:k<ls.length
  ·obtain ⟨b,o,hA,B⟩:=I.out.at_ J;subst hA;have i:=aW0 (aNI J);have l:=aJ0 ls[k];have s:ls[k].isEmpty=decide (ls[k].length=0):=by cases ls[k]<;>simp
   rw [s] at l;generalize ls[k]=x at*;clear s;by_cases d:x.length=0
   ·have f:Hid (D=((k:Int),10)):=aW0 (by rw [h.out,r.out,i.out,if_pos d]);rw [decide_eq_true d] at l;go_wp2_with fail;go_ret2;exact ⟨by rw [f.out];rfl,rfl⟩
   rw [decide_eq_false d] at l;by_cases t:63<x.length
   ·have f:Hid (D=((k:Int),11)):=aW0 (by rw [h.out,r.out,i.out,if_neg d,if_pos t]);go_wp2_with fail;go_ret2;exact ⟨by rw [f.out];rfl,rfl⟩
   ·have f:=aJ r (i.out.trans (by rw [if_neg d,if_neg t]));clear r i;go_wp2_with fail;go_roundg (ls.length - (k+1))
    case measure=>omega
    case rel=>exact ⟨k+1,by omega,by go_num,rfl,f⟩
  ·have m:fbG 0 ls=none:=by rw [r.out,bH ls k (by omega)];rfl
   rw [m] at h;have a:Hid (D=if 127<(ls.length:Int)∨253<(ls.length:Int) - 1+aMk ls then (0,11) else (0,0)):=h;have N:=aW0 (aMm ls 0 m);clear h r m;go_wp2_with fail;go_loopg [6,32] ls.length (fun gh s6 s32 wx=>aNR wr ls gh s6 s32 wx)
   case atStart=>exact ⟨0,_,by omega,rfl,rfl,rfl,aW0 (by simp [aMk]),by omega,by omega⟩
   case round=>
    obtain ⟨j,u,O,rfl,rfl,rfl,y,P,Q⟩:=hrel;by_cases C:j<ls.length
    ·obtain ⟨b,o,hA,B⟩:=I.out.at_ C;subst hA;have i:Hid (aMk (ls.take (j+1))=aMk (ls.take j)+ls[j].length):=aW0 (by rw [List.take_succ_eq_append_getElem C,aNF]);have R:=N.out _ (List.getElem_mem C);generalize ls[j]=x at*;have E:Hid (u+x.length=(ls.length:Int) - 1+aMk (ls.take (j+1))):=aW0 (by rw [i.out];have:=y.out;omega);clear y i;go_wp2_with fail;go_roundg (ls.length - (j+1))
     case measure=>omega
     case rel=>exact ⟨j+1,_,by omega,by go_num,rfl,rfl,E,by omega,by omega⟩
    ·have F:=y.out;rw [List.take_of_length_le (by omega)] at F;rw [← F] at a;clear y F;by_cases g:127<(ls.length:Int)
     ·rw [if_pos (.inl g)] at a;have S:decide (127<(ls.length:Int))=true:=by rw [aYu];exact g
      have G:decide (127<ls.length)=true:=dT';go_wp2_with fail;go_ret2;exact ⟨by rw [a.out];rfl,rfl⟩
     have S:decide (127<(ls.length:Int))=false:=by rw [aYt];exact g
     have G:decide (127<ls.length)=false:=dF';by_cases q:253<u
     ·rw [if_pos (.inr q)] at a;have H:decide (253<u)=true:=by rw [aYu];exact q
      go_wp2_with fail;go_ret2;exact ⟨by rw [a.out];rfl,rfl⟩
     ·rw [if_neg (by omega)] at a;have H:decide (253<u)=false:=by rw [aYt];exact q
      go_wp2_with fail;go_ret2;exact ⟨by rw [a.out];rfl,rfl⟩
def aNi (w:World) (ls:List (List Int)) (g:Nat) (s4 s15:Value) (wx:World):Prop:=
 ∃ (k:Nat) (u:Int),g+k=ls.length∧s15= .int .i64 k∧s4= .int .i64 u∧wx=w∧Hid (fbG 0 ls=fbG k (ls.drop k))∧Hid (u=(ls.length:Int) - 1+aMk (ls.take k))∧ -1≤u∧u≤ls.length+63*k
theorem aNS (ls:List (List Int)) (A:Option Addr) (n c:Nat) (w:World) (hi:aRY w ⟨A,n,c⟩ ls) (P:ls.length≤1000000):Calls prog 16 #[.slice A n c] w fun e w'=>IE2 (aNQ ls) e∧w=w':=by
 have h:Hid (aNQ ls=if ls.length=0 then (0,10) else match fbG 0 ls with
  |some p=>p
  |none=>if 127<(ls.length:Int)∨253<(ls.length:Int) - 1+aMk ls then (0,11) else (0,0)):=rfl
 generalize aNQ ls=D at*;have H:n=ls.length:=hi.1.1;subst H;have I:=aW0 hi;clear hi;by_cases y:ls.length=0
 ·rw [if_pos y] at h;have J:((ls.length:Int)==0)=true:=by rw [beq_iff_eq];omega
  have K:(ls.length==0)=true:=by rw [beq_iff_eq];omega
  clear y;go_enter func16,ntmps16;go_wp2_with fail;go_ret2;exact ⟨by rw [h.out];rfl,rfl⟩
 rw [if_neg y] at h;have J:((ls.length:Int)==0)=false:=bF';have K:(ls.length==0)=false:=bF';go_enter func16,ntmps16;go_wp2_with fail;go_loopg [4,15] ls.length (fun gh s4 s15 wx=>aNi w ls gh s4 s15 wx)
 case atStart=>exact ⟨0,_,by omega,rfl,rfl,rfl,rfl,aW0 (by simp [aMk]),by omega,by omega⟩
 case round=>
  obtain ⟨k,u,hg,rfl,rfl,rfl,l,s,L,M⟩:=hrel;by_cases z:k<ls.length
  ·obtain ⟨b,o,hA,N⟩:=I.out.at_ z;subst hA;have t:=aW0 (aNI z);have G:Hid (aMk (ls.take (k+1))=aMk (ls.take k)+ls[k].length):=aW0 (by rw [List.take_succ_eq_append_getElem z,aNF]);have i:=aJ0 ls[k];have m:ls[k].isEmpty=decide (ls[k].length=0):=by cases ls[k]<;>simp
   rw [m] at i;generalize ls[k]=x at*;clear m;by_cases d:x.length=0
   ·have f:Hid (D=((k:Int),10)):=aW0 (by rw [h.out,l.out,t.out,if_pos d]);rw [decide_eq_true d] at i;go_wp2_with fail;go_ret2;exact ⟨by rw [f.out];rfl,rfl⟩
   rw [decide_eq_false d] at i;by_cases q:63<x.length
   ·have f:Hid (D=((k:Int),11)):=aW0 (by rw [h.out,l.out,t.out,if_neg d,if_pos q]);go_wp2_with fail;go_ret2;exact ⟨by rw [f.out];rfl,rfl⟩
   ·have f:=aJ l (t.out.trans (by rw [if_neg d,if_neg q]));have B:Hid (u+x.length=(ls.length:Int) - 1+aMk (ls.take (k+1))):=aW0 (by rw [G.out];have:=s.out;omega);clear l t s G;go_wp2_with fail;go_roundg (ls.length - (k+1))
    case measure=>omega
    case rel=>exact ⟨k+1,_,by omega,by go_num,rfl,rfl,f,B,by omega,by omega⟩
  ·have r:fbG 0 ls=none:=by rw [l.out,bH ls k (by omega)];rfl
   rw [r] at h;have a:Hid (D=if 127<(ls.length:Int)∨253<(ls.length:Int) - 1+aMk ls then (0,11) else (0,0)):=h;have C:=s.out;rw [List.take_of_length_le (by omega)] at C;rw [← C] at a;clear s C h l r;by_cases g:127<(ls.length:Int)
   ·rw [if_pos (.inl g)] at a;have O:decide (127<(ls.length:Int))=true:=by rw [aYu];exact g
    have E:decide (127<ls.length)=true:=dT';go_wp2_with fail;go_ret2;exact ⟨by rw [a.out];rfl,rfl⟩
   have O:decide (127<(ls.length:Int))=false:=by rw [aYt];exact g
   have E:decide (127<ls.length)=false:=dF';by_cases j:253<u
   ·rw [if_pos (.inr j)] at a;have F:decide (253<u)=true:=by rw [aYu];exact j
    go_wp2_with fail;go_ret2;exact ⟨by rw [a.out];rfl,rfl⟩
   ·rw [if_neg (by omega)] at a;have F:decide (253<u)=false:=by rw [aYt];exact j
    go_wp2_with fail;go_ret2;exact ⟨by rw [a.out];rfl,rfl⟩
end Go.Proofs.YtjccgagakfndpaaGreatDoor
