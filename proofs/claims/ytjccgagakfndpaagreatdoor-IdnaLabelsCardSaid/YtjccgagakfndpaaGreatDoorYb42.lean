/- Part Yb42. -/
import Derived.Test.YtjccgagakfndpaaGreatDoorYb40
open Go.Proofs.Tryz
namespace Go.Proofs.YtjccgagakfndpaaGreatDoor
set_option maxHeartbeats 25600000
set_option maxRecDepth 100000
open Go.RowKit
def jnG:Bool→List (List Int)→List Int
 |_,[]=>[]
 |f,x::r=>(if f then x else 46::x)++jnG false r
def jnL (ls:List (List Int)):List Int:=jnG true ls
theorem aNC {ls:List (List Int)} {k:Nat} (h:k<ls.length):jnG (k==0) (ls.drop k)=(if (k==0)=true then ls[k] else 46::ls[k])++jnG (k+1==0) (ls.drop (k+1)):=by
 rw [drop_at ls k h];rfl
theorem aMj.lists {l w:World} {A:Option Addr} {N C:Nat} {ls:List (List Int)} (h:aMj l w A N C ls):UA w ⟨A,N,C⟩ ls:=by
 obtain ⟨g,S,rfl,d,m,f,j⟩:=h;obtain ⟨k,h6⟩:=Own.le d;refine ⟨⟨f.symm,by rw [f];exact k,h6⟩,fun i x hx=> ?_⟩;have hi:=(List.getElem?_eq_some_iff.1 hx).1;have b:i<S.length:=by omega
 refine ⟨g,0,S[i].a,S[i].n,S[i].c,rfl,?_,(j i S[i] x (List.getElem?_eq_getElem b) hx).1⟩;have:=World.ownsRow.cellAt d i (by omega);rw [Nat.zero_add,this];simp [b]
def aRY (w:World) (s:SV) (ls:List (List Int)):Prop:=
 a6r s ls.length∧∀ i x,ls[i]? =some x→∃ b o,s.a=some ⟨b,o,none⟩∧w.cell? ⟨b,o+i,none⟩=some (.string (sB x))
theorem aRY.keep {w w':World} {s:SV} {l:List (List Int)} (h:aRY w s l) (d:∀ p:Addr,p.block<w.heap.size→w'.cell? p=w.cell? p):aRY w' s l:=
 ⟨h.1,fun i x hx=>by obtain ⟨b,o,a,c⟩:=h.2 i x hx;exact ⟨b,o,a,aW d c⟩⟩
theorem aRY.ext {w w':World} {s:SV} {l:List (List Int)} (h:aRY w s l) (a:Ext w w'):aRY w' s l:=h.keep (bC a)
theorem aRY.at_ {A:Option Addr} {n c:Nat} {w:World} {l:List (List Int)} (h:aRY w ⟨A,n,c⟩ l) {i:Nat} (hi:i<l.length):∃ b o,A=some ⟨b,o,none⟩∧w.cell? ⟨b,o+i,none⟩=some (.string (sB l[i])):=
 h.2 i _ (List.getElem?_eq_getElem hi)
def fbG:Nat→List (List Int)→Option (Int × Int)
 |_,[]=>none
 |k,x::r=>if x.length=0 then some (k,10) else if 63<x.length then some (k,11) else fbG (k+1) r
def aMk:List (List Int)→Int
 |[]=>0
 |x::r=>x.length+aMk r
def aNQ (ls:List (List Int)):Int × Int:=
 if ls.length=0 then (0,10) else match fbG 0 ls with
  |some p=>p
  |none=>if 127<(ls.length:Int)∨253<(ls.length:Int) - 1+aMk ls then (0,11) else (0,0)
theorem aNI {ls:List (List Int)} {k:Nat} (h:k<ls.length):fbG k (ls.drop k)=if ls[k].length=0 then some ((k:Int),10) else if 63<ls[k].length then some ((k:Int),11) else fbG (k+1) (ls.drop (k+1)):=by
 rw [drop_at ls k h];rfl
theorem aNF (a:List (List Int)) (x:List Int):aMk (a++[x])=aMk a+x.length:=by
 induction a with
 |nil=>simp [aMk]
 |cons y a ih=>simp [aMk,ih];omega
theorem aNY:∀ (ls:List (List Int)),((jnG false ls).length:Int)=ls.length+aMk ls
 |[]=>rfl
 |x::r=>by
  have:=aNY r;show (((46::x)++jnG false r).length:Int)=_
  simp only [List.length_append,List.length_cons,aMk];omega
theorem aNZ {ls:List (List Int)} (h:ls≠[]):((jnL ls).length:Int)=(ls.length:Int) - 1+aMk ls:=by
 cases ls with
 |nil=>exact absurd rfl h
 |cons x r=>
  have:=aNY r;show ((x++jnG false r).length:Int)=_
  simp only [List.length_append,List.length_cons,aMk];omega
theorem aNg {ls:List (List Int)} (h:(aNQ ls).2=0):ls≠[]∧ls.length≤127∧(jnL ls).length≤253∧(aNQ ls).1=0:=by
 unfold aNQ at h ⊢;split at h
 ·cases h
 ·rename_i d;rw [if_neg d];have a:ls≠[]:=fun e=>d (by rw [e];rfl)
  have g:=aNZ a;cases b:fbG 0 ls with
  |some p=>
   rw [b] at h;exfalso;have c:∀ (l:List (List Int)) (k:Nat) (p:Int × Int),fbG k l=some p→p.2≠0:=by
    intro l
    induction l with
    |nil=>intro k p h;cases h
    |cons y r ih=>
     intro k p h;unfold fbG at h;split at h
     ·injection h with h;subst h;simp
     ·split at h
      ·injection h with h;subst h;simp
      ·exact ih _ _ h
   exact c ls 0 p b h
  |none=>
   rw [b] at h;simp only at h ⊢;split at h
   ·cases h
   ·rename_i f;rw [if_neg f];exact ⟨a,by omega,by omega,rfl⟩
def aNe (ls:List (List Int)):List Int × Int:=if (aNQ ls).2≠0 then ([],(aNQ ls).2) else (jnL ls,0)
theorem aMm:∀ (ls:List (List Int)) (k:Nat),fbG k ls=none→∀ x∈ls,0<x.length∧x.length≤63
 |[],_,_,x,a=>by cases a
 |y::r,k,h,x,a=>by
  unfold fbG at h;split at h
  ·cases h
  ·split at h
   ·cases h
   ·rcases List.mem_cons.1 a with rfl|a
    ·omega
    ·exact aMm r _ h x a
def aN4 (w:World) (ls:List (List Int)) (g:Nat) (s3 s8:Value) (wx:World):Prop:=
 ∃ (A:Option Addr) (n c k:Nat) (acc:List Int),g+k=ls.length∧s8= .int .i64 k∧s3= .slice A n c∧Hid (n=acc.length)∧n≤1000000∧bJ wx w.heap.size A n c acc∧Ext w wx∧Hid (jnL ls=acc++jnG (k==0) (ls.drop k))
theorem aNA (ls:List (List Int)) (A:Option Addr) (n c:Nat) (w:World) (hi:UA w ⟨A,n,c⟩ ls) (hm:(jnL ls).length≤1000000):Calls prog 63 #[.slice A n c] w (KH w (jnL ls)):=by
 have T:=hi.len.1;have U:=hi.len.2;subst T;have V:=aW0 hi;clear hi;go_enter func63,ntmps63;go_wp2_with fail;go_loopg [3,8] ls.length (fun gh s3 s8 wx=>aN4 w ls gh s3 s8 wx)
 case atStart=>exact ⟨none,0,0,0,[],by omega,rfl,rfl,rfl,by omega,Own.nil_ _ _ _ _,Ext.refl _,rfl⟩
 case round=>
  obtain ⟨B,m,d,k,g,hg,rfl,rfl,E,X,t,J,F⟩:=hrel;have z:=aW0 t;have y:=aW0 J;clear t J;by_cases G:k<ls.length
  ·obtain ⟨b,o,za,H,zc,hA,I,L⟩:=V.out.at_ G;subst hA;have Y:=aW (bC y.out) I;have K:=aW0 (aNC G);have S:=aW0 (fun W (h:Ext w W)=>L.ext h);have q:=L.len.1;clear L I;generalize ls[k]=x at*;by_cases r:k=0
   ·have Z:decide ((0:Int)<(k:Int))=false:=dF';have M:decide (0<k)=false:=dF';have l:=aJ F (show _=(g++x)++jnG (k+1==0) (ls.drop (k+1)) from by rw [K.out,if_pos (by rw [beq_iff_eq];exact r),List.append_assoc]);have C:m+H≤1000000:=by
     have N:=congrArg List.length l.out;simp only [List.length_append] at N;have h2:=E.out;omega
    obtain ⟨O,c5,P,j,a,f,_⟩:=aZ z.out (S.out wr y.out) (by omega) y.out.b.size;have Q:Hid (Ext w P):=aW0 (aP y.out f (fun k G=>(Own.lt z.out k G).1));have R:=aW0 a;have D:Hid (m+H=(g++x).length):=aW0 (by rw [List.length_append,E.out,q]);clear a f F K z y q E r;go_wp2_with (at_builtin;refine aF rfl _ _ _ rfl _ _ rfl rfl _ _ j ?_);go_roundg (ls.length - (k+1))
    case measure=>omega
    case rel=>exact ⟨O,m+H,c5,k+1,g++x,by omega,by go_num,rfl,D,C,R.out,Q.out,l⟩
   ·have Z:decide ((0:Int)<(k:Int))=true:=dT';have M:decide (0<k)=true:=dT';have l:=aJ F (show _=((g++[46])++x)++jnG (k+1==0) (ls.drop (k+1)) from by rw [K.out,if_neg (by rw [beq_iff_eq];exact r)];simp);have C:m+1+H≤1000000:=by
     have N:=congrArg List.length l.out;simp only [List.length_append,List.length_singleton] at N;have h2:=E.out;omega
    obtain ⟨A4,c4,w4,p,i,s,_⟩:=a6e z.out y.out 46 (by omega);obtain ⟨O,c5,P,j,a,f,_⟩:=aZ i (S.out w4 s) (by omega) s.b.size;have Q:Hid (Ext w P):=aW0 (aP s f (fun k G=>(Own.lt i k G).1));have R:=aW0 a;have D:Hid (m+1+H=((g++[46])++x).length):=aW0 (by simp only [List.length_append,List.length_singleton];rw [E.out,q]);clear a f F K z y q E r i s
    go_wp2_with (at_builtin;first
     |(refine aF rfl _ _ _ rfl _ _ rfl rfl _ _ p ?_;clear p)
     |(refine aF rfl _ _ _ rfl _ _ rfl rfl _ _ j ?_;clear j))
    go_roundg (ls.length - (k+1))
    case measure=>omega
    case rel=>exact ⟨O,m+1+H,c5,k+1,(g++[46])++x,by omega,by go_num,rfl,D,C,R.out,Q.out,l⟩
  ·have HF:Hid (jnL ls=g):=aW0 (by rw [F.out,bH ls k (by omega)];simp [jnG]);have hi:=bJ.ints z.out;have J:=y.out;clear F z;go_wp2_with fail;go_ret;exact ⟨B,_,d,rfl,by rw [HF.out];exact hi,J⟩
def aNK (w:World) (ls:List (List Int)) (g:Nat) (s3 s8:Value) (wx:World):Prop:=
 ∃ (A:Option Addr) (n c k:Nat) (acc:List Int),g+k=ls.length∧s8= .int .i64 k∧s3= .slice A n c∧Hid (n=acc.length)∧n≤1000000∧bJ wx w.heap.size A n c acc∧Ext w wx∧Hid (jnL ls=acc++jnG (k==0) (ls.drop k))
theorem aNU (ls:List (List Int)) (A:Option Addr) (n c:Nat) (w:World) (hi:UA w ⟨A,n,c⟩ ls) (hm:(jnL ls).length≤1000000):Calls prog 102 #[.slice A n c] w (KH w (jnL ls)):=by
 have T:=hi.len.1;have U:=hi.len.2;subst T;have V:=aW0 hi;clear hi;go_enter func102,ntmps102;go_wp2_with fail;go_loopg [3,8] ls.length (fun gh s3 s8 wx=>aNK w ls gh s3 s8 wx)
 case atStart=>exact ⟨none,0,0,0,[],by omega,rfl,rfl,rfl,by omega,Own.nil_ _ _ _ _,Ext.refl _,rfl⟩
 case round=>
  obtain ⟨B,m,d,k,g,hg,rfl,rfl,E,X,t,J,F⟩:=hrel;have z:=aW0 t;have y:=aW0 J;clear t J;by_cases G:k<ls.length
  ·obtain ⟨b,o,za,H,zc,hA,I,L⟩:=V.out.at_ G;subst hA;have Y:=aW (bC y.out) I;have K:=aW0 (aNC G);have S:=aW0 (fun W (h:Ext w W)=>L.ext h);have q:=L.len.1;clear L I;generalize ls[k]=x at*;by_cases r:k=0
   ·have Z:decide ((0:Int)<(k:Int))=false:=dF';have M:decide (0<k)=false:=dF';have l:=aJ F (show _=(g++x)++jnG (k+1==0) (ls.drop (k+1)) from by rw [K.out,if_pos (by rw [beq_iff_eq];exact r),List.append_assoc]);have C:m+H≤1000000:=by
     have N:=congrArg List.length l.out;simp only [List.length_append] at N;have h2:=E.out;omega
    obtain ⟨O,c5,P,j,a,f,_⟩:=aZ z.out (S.out wr y.out) (by omega) y.out.b.size;have Q:Hid (Ext w P):=aW0 (aP y.out f (fun k G=>(Own.lt z.out k G).1));have R:=aW0 a;have D:Hid (m+H=(g++x).length):=aW0 (by rw [List.length_append,E.out,q]);clear a f F K z y q E r;go_wp2_with (at_builtin;refine aF rfl _ _ _ rfl _ _ rfl rfl _ _ j ?_);go_roundg (ls.length - (k+1))
    case measure=>omega
    case rel=>exact ⟨O,m+H,c5,k+1,g++x,by omega,by go_num,rfl,D,C,R.out,Q.out,l⟩
   ·have Z:decide ((0:Int)<(k:Int))=true:=dT';have M:decide (0<k)=true:=dT';have l:=aJ F (show _=((g++[46])++x)++jnG (k+1==0) (ls.drop (k+1)) from by rw [K.out,if_neg (by rw [beq_iff_eq];exact r)];simp);have C:m+1+H≤1000000:=by
     have N:=congrArg List.length l.out;simp only [List.length_append,List.length_singleton] at N;have h2:=E.out;omega
    obtain ⟨A4,c4,w4,p,i,s,_⟩:=a6e z.out y.out 46 (by omega);obtain ⟨O,c5,P,j,a,f,_⟩:=aZ i (S.out w4 s) (by omega) s.b.size;have Q:Hid (Ext w P):=aW0 (aP s f (fun k G=>(Own.lt i k G).1));have R:=aW0 a;have D:Hid (m+1+H=((g++[46])++x).length):=aW0 (by simp only [List.length_append,List.length_singleton];rw [E.out,q]);clear a f F K z y q E r i s
    go_wp2_with (at_builtin;first
     |(refine aF rfl _ _ _ rfl _ _ rfl rfl _ _ p ?_;clear p)
     |(refine aF rfl _ _ _ rfl _ _ rfl rfl _ _ j ?_;clear j))
    go_roundg (ls.length - (k+1))
    case measure=>omega
    case rel=>exact ⟨O,m+1+H,c5,k+1,(g++[46])++x,by omega,by go_num,rfl,D,C,R.out,Q.out,l⟩
  ·have HF:Hid (jnL ls=g):=aW0 (by rw [F.out,bH ls k (by omega)];simp [jnG]);have hi:=bJ.ints z.out;have J:=y.out;clear F z;go_wp2_with fail;go_ret;exact ⟨B,_,d,rfl,by rw [HF.out];exact hi,J⟩
def aNL (w:World) (ls:List (List Int)) (g:Nat) (s14:Value) (wx:World):Prop:=
 ∃ k:Nat,g+k=ls.length∧s14= .int .i64 k∧wx=w∧Hid (fbG 0 ls=fbG k (ls.drop k))
def aNR (w:World) (ls:List (List Int)) (g:Nat) (s6 s32:Value) (wx:World):Prop:=
 ∃ (k:Nat) (u:Int),g+k=ls.length∧s32= .int .i64 k∧s6= .int .i64 u∧wx=w∧Hid (u=(ls.length:Int) - 1+aMk (ls.take k))∧ -1≤u∧u≤ls.length+63*k
def IE2 (d:Int × Int) (e:Ending):Prop:=e= .returned (.tuple #[.int .i64 d.1,.int .i64 d.2])
theorem aNW (ls:List (List Int)) (A:Option Addr) (n c:Nat) (w:World) (hi:aRY w ⟨A,n,c⟩ ls) (T:ls.length≤1000000):Calls prog 67 #[.slice A n c] w fun e w'=>IE2 (aNQ ls) e∧w=w':=by
 have h:Hid (aNQ ls=if ls.length=0 then (0,10) else match fbG 0 ls with
  |some p=>p
  |none=>if 127<(ls.length:Int)∨253<(ls.length:Int) - 1+aMk ls then (0,11) else (0,0)):=rfl
 generalize aNQ ls=D at*;have K:n=ls.length:=hi.1.1;subst K;have I:=aW0 hi;clear hi;by_cases z:ls.length=0
 ·rw [if_pos z] at h;have L:((ls.length:Int)==0)=true:=by rw [beq_iff_eq];omega
  have M:(ls.length==0)=true:=by rw [beq_iff_eq];omega
  clear z;go_enter func67,ntmps67;go_wp2_with fail;go_ret2;exact ⟨by rw [h.out];rfl,rfl⟩
 rw [if_neg z] at h;have L:((ls.length:Int)==0)=false:=bF';have M:(ls.length==0)=false:=bF';go_enter func67,ntmps67;go_wp2_with fail;go_loopg [14] ls.length (fun gh s14 wx=>aNL w ls gh s14 wx)
 case atStart=>exact ⟨0,by omega,rfl,rfl,rfl⟩
 case round=>
  obtain ⟨k,hg,rfl,rfl,r⟩:=hrel;by_cases J:k<ls.length
  ·obtain ⟨b,o,hA,B⟩:=I.out.at_ J;subst hA;have i:=aW0 (aNI J);have l:=aJ0 ls[k];have s:ls[k].isEmpty=decide (ls[k].length=0):=by cases ls[k]<;>simp
   rw [s] at l;generalize ls[k]=x at*;clear s;by_cases d:x.length=0
   ·have f:Hid (D=((k:Int),10)):=aW0 (by rw [h.out,r.out,i.out,if_pos d]);rw [decide_eq_true d] at l;go_wp2_with fail;go_ret2;exact ⟨by rw [f.out];rfl,rfl⟩
   rw [decide_eq_false d] at l;by_cases t:63<x.length
   ·have f:Hid (D=((k:Int),11)):=aW0 (by rw [h.out,r.out,i.out,if_neg d,if_pos t]);go_wp2_with fail;go_ret2;exact ⟨by rw [f.out];rfl,rfl⟩
   ·have f:=aJ r (i.out.trans (by rw [if_neg d,if_neg t]));clear r i;go_wp2_with fail;go_roundg (ls.length - (k+1))
    case measure=>omega
    case rel=>exact ⟨k+1,by omega,by go_num,rfl,f⟩
  ·have m:fbG 0 ls=none:=by rw [r.out,bH ls k (by omega)];rfl
   rw [m] at h;have a:Hid (D=if 127<(ls.length:Int)∨253<(ls.length:Int) - 1+aMk ls then (0,11) else (0,0)):=h;have N:=aW0 (aMm ls 0 m);clear h r m;go_wp2_with fail;go_loopg [6,32] ls.length (fun gh s6 s32 wx=>aNR wr ls gh s6 s32 wx)
   case atStart=>exact ⟨0,_,by omega,rfl,rfl,rfl,aW0 (by simp [aMk]),by omega,by omega⟩
   case round=>
    obtain ⟨j,u,O,rfl,rfl,rfl,y,P,Q⟩:=hrel;by_cases C:j<ls.length
    ·obtain ⟨b,o,hA,B⟩:=I.out.at_ C;subst hA;have i:Hid (aMk (ls.take (j+1))=aMk (ls.take j)+ls[j].length):=aW0 (by rw [List.take_succ_eq_append_getElem C,aNF]);have R:=N.out _ (List.getElem_mem C);generalize ls[j]=x at*;have E:Hid (u+x.length=(ls.length:Int) - 1+aMk (ls.take (j+1))):=aW0 (by rw [i.out];have:=y.out;omega);clear y i;go_wp2_with fail;go_roundg (ls.length - (j+1))
     case measure=>omega
     case rel=>exact ⟨j+1,_,by omega,by go_num,rfl,rfl,E,by omega,by omega⟩
    ·have F:=y.out;rw [List.take_of_length_le (by omega)] at F;rw [← F] at a;clear y F;by_cases g:127<(ls.length:Int)
     ·rw [if_pos (.inl g)] at a;have S:decide (127<(ls.length:Int))=true:=by rw [aYu];exact g
      have G:decide (127<ls.length)=true:=dT';go_wp2_with fail;go_ret2;exact ⟨by rw [a.out];rfl,rfl⟩
     have S:decide (127<(ls.length:Int))=false:=by rw [aYt];exact g
     have G:decide (127<ls.length)=false:=dF';by_cases q:253<u
     ·rw [if_pos (.inr q)] at a;have H:decide (253<u)=true:=by rw [aYu];exact q
      go_wp2_with fail;go_ret2;exact ⟨by rw [a.out];rfl,rfl⟩
     ·rw [if_neg (by omega)] at a;have H:decide (253<u)=false:=by rw [aYt];exact q
      go_wp2_with fail;go_ret2;exact ⟨by rw [a.out];rfl,rfl⟩
def aNi (w:World) (ls:List (List Int)) (g:Nat) (s4 s15:Value) (wx:World):Prop:=
 ∃ (k:Nat) (u:Int),g+k=ls.length∧s15= .int .i64 k∧s4= .int .i64 u∧wx=w∧Hid (fbG 0 ls=fbG k (ls.drop k))∧Hid (u=(ls.length:Int) - 1+aMk (ls.take k))∧ -1≤u∧u≤ls.length+63*k
theorem aNS (ls:List (List Int)) (A:Option Addr) (n c:Nat) (w:World) (hi:aRY w ⟨A,n,c⟩ ls) (P:ls.length≤1000000):Calls prog 16 #[.slice A n c] w fun e w'=>IE2 (aNQ ls) e∧w=w':=by
 have h:Hid (aNQ ls=if ls.length=0 then (0,10) else match fbG 0 ls with
  |some p=>p
  |none=>if 127<(ls.length:Int)∨253<(ls.length:Int) - 1+aMk ls then (0,11) else (0,0)):=rfl
 generalize aNQ ls=D at*;have H:n=ls.length:=hi.1.1;subst H;have I:=aW0 hi;clear hi;by_cases y:ls.length=0
 ·rw [if_pos y] at h;have J:((ls.length:Int)==0)=true:=by rw [beq_iff_eq];omega
  have K:(ls.length==0)=true:=by rw [beq_iff_eq];omega
  clear y;go_enter func16,ntmps16;go_wp2_with fail;go_ret2;exact ⟨by rw [h.out];rfl,rfl⟩
 rw [if_neg y] at h;have J:((ls.length:Int)==0)=false:=bF';have K:(ls.length==0)=false:=bF';go_enter func16,ntmps16;go_wp2_with fail;go_loopg [4,15] ls.length (fun gh s4 s15 wx=>aNi w ls gh s4 s15 wx)
 case atStart=>exact ⟨0,_,by omega,rfl,rfl,rfl,rfl,aW0 (by simp [aMk]),by omega,by omega⟩
 case round=>
  obtain ⟨k,u,hg,rfl,rfl,rfl,l,s,L,M⟩:=hrel;by_cases z:k<ls.length
  ·obtain ⟨b,o,hA,N⟩:=I.out.at_ z;subst hA;have t:=aW0 (aNI z);have G:Hid (aMk (ls.take (k+1))=aMk (ls.take k)+ls[k].length):=aW0 (by rw [List.take_succ_eq_append_getElem z,aNF]);have i:=aJ0 ls[k];have m:ls[k].isEmpty=decide (ls[k].length=0):=by cases ls[k]<;>simp
   rw [m] at i;generalize ls[k]=x at*;clear m;by_cases d:x.length=0
   ·have f:Hid (D=((k:Int),10)):=aW0 (by rw [h.out,l.out,t.out,if_pos d]);rw [decide_eq_true d] at i;go_wp2_with fail;go_ret2;exact ⟨by rw [f.out];rfl,rfl⟩
   rw [decide_eq_false d] at i;by_cases q:63<x.length
   ·have f:Hid (D=((k:Int),11)):=aW0 (by rw [h.out,l.out,t.out,if_neg d,if_pos q]);go_wp2_with fail;go_ret2;exact ⟨by rw [f.out];rfl,rfl⟩
   ·have f:=aJ l (t.out.trans (by rw [if_neg d,if_neg q]));have B:Hid (u+x.length=(ls.length:Int) - 1+aMk (ls.take (k+1))):=aW0 (by rw [G.out];have:=s.out;omega);clear l t s G;go_wp2_with fail;go_roundg (ls.length - (k+1))
    case measure=>omega
    case rel=>exact ⟨k+1,_,by omega,by go_num,rfl,rfl,f,B,by omega,by omega⟩
  ·have r:fbG 0 ls=none:=by rw [l.out,bH ls k (by omega)];rfl
   rw [r] at h;have a:Hid (D=if 127<(ls.length:Int)∨253<(ls.length:Int) - 1+aMk ls then (0,11) else (0,0)):=h;have C:=s.out;rw [List.take_of_length_le (by omega)] at C;rw [← C] at a;clear s C h l r;by_cases g:127<(ls.length:Int)
   ·rw [if_pos (.inl g)] at a;have O:decide (127<(ls.length:Int))=true:=by rw [aYu];exact g
    have E:decide (127<ls.length)=true:=dT';go_wp2_with fail;go_ret2;exact ⟨by rw [a.out];rfl,rfl⟩
   have O:decide (127<(ls.length:Int))=false:=by rw [aYt];exact g
   have E:decide (127<ls.length)=false:=dF';by_cases j:253<u
   ·rw [if_pos (.inr j)] at a;have F:decide (253<u)=true:=by rw [aYu];exact j
    go_wp2_with fail;go_ret2;exact ⟨by rw [a.out];rfl,rfl⟩
   ·rw [if_neg (by omega)] at a;have F:decide (253<u)=false:=by rw [aYt];exact j
    go_wp2_with fail;go_ret2;exact ⟨by rw [a.out];rfl,rfl⟩
def aNf (w:World) (ls:List (List Int)) (g:Nat) (s6 IE:Value) (wx:World):Prop:=
 ∃ (k:Nat) (acc:List Int),g+k=ls.length∧IE= .int .i64 k∧s6= .string (sB acc)∧acc.length≤253∧wx=w∧Hid (jnL ls=acc++jnG (k==0) (ls.drop k))
theorem aNm (ls:List (List Int)) (A:Option Addr) (n c:Nat) (w:World) (hi:aRY w ⟨A,n,c⟩ ls) (M:ls.length≤1000000):Calls prog 43 #[.slice A n c] w (a6f w (aNe ls)):=by
 have j:Hid (aNe ls=if (aNQ ls).2≠0 then ([],(aNQ ls).2) else (jnL ls,0)):=rfl;have t:=aW0 (aNS ls A n c w hi M);have g:=aW0 (@aNg ls);generalize aNe ls=D at*;generalize aNQ ls=C at*;obtain ⟨N,B⟩:=C;have F:n=ls.length:=hi.1.1;subst F;have G:=aW0 hi;simp only at j g;clear hi;go_enter func43,ntmps43;go_wp2_with fail;refine t.out.mono ?_;rintro e O ⟨y,rfl⟩;unfold IE2 at y;subst y;by_cases p:B=0
 case neg=>
  rw [if_pos p] at j;go_wp2_with fail;go_ret2;exact ⟨by rw [j.out];rfl,Ext.refl _⟩
 rw [if_neg (by rw [p];simp)] at j;subst p;have H:=(g.out rfl).2.2.1;clear g t;go_wp2_with fail;go_loopg [6,19] ls.length (fun gh s6 IE wx=>aNf w ls gh s6 IE wx)
 case atStart=>exact ⟨0,[],by omega,rfl,rfl,by simp,rfl,rfl⟩
 case round=>
  obtain ⟨k,a,hg,rfl,rfl,I,rfl,i⟩:=hrel;by_cases z:k<ls.length
  ·obtain ⟨b,o,hA,J⟩:=G.out.at_ z;subst hA;have m:=aW0 (aNC z);generalize ls[k]=x at*;by_cases f:k=0
   ·have K:decide ((0:Int)<(k:Int))=false:=dF';have q:decide (0<k)=false:=dF';have d:=aJ i (show _=(a++x)++jnG (k+1==0) (ls.drop (k+1)) from by rw [m.out,if_pos (by rw [beq_iff_eq];exact f),List.append_assoc]);have l:=congrArg List.length d.out;simp only [List.length_append] at l;have r:x.length≤253:=by omega
    have h:(a++x).length≤253:=by rw [List.length_append];omega
    clear i m f l;go_wp2_with fail;go_roundg (ls.length - (k+1))
    case measure=>omega
    case rel=>exact ⟨k+1,a++x,by omega,by go_num,rfl,h,rfl,d⟩
   ·have K:decide ((0:Int)<(k:Int))=true:=dT';have q:decide (0<k)=true:=dT';have d:=aJ i (show _=(a++[46]++x)++jnG (k+1==0) (ls.drop (k+1)) from by rw [m.out,if_neg (by rw [beq_iff_eq];exact f)];simp);have l:=congrArg List.length d.out;simp only [List.length_append,List.length_singleton] at l;have r:x.length≤253:=by omega
    have s:(⟨#[46]⟩:ByteArray)=sB [46]:=rfl;have h:(a++[46]++x).length≤253:=by simp only [List.length_append,List.length_singleton];omega
    have hE:[(46:Int)].length≤1:=Nat.le_refl _;have P:(a++[(46:Int)]).length≤254:=by simp only [List.length_append,List.length_singleton];omega
    clear i m f l;generalize [(46:Int)]=E at*;go_wp2_with fail;clear s;go_roundg (ls.length - (k+1))
    case measure=>omega
    case rel=>exact ⟨k+1,a++E++x,by omega,by go_num,by rw [List.append_assoc],h,rfl,d⟩
  ·have L:Hid (jnL ls=a):=aW0 (by rw [i.out,bH ls k (by omega)];simp [jnG]);clear i;go_wp2_with fail;go_ret2;exact ⟨by rw [j.out,L.out];rfl,Ext.refl _⟩
def aQE (T:bK) (l:List Int):Bool:=aOy [1,2,3] (aPE T l)
def frR (T:bK):Int→List (List Int)→Int
 |_,[]=> -1
 |i,l::r=>if aQD (aPE T l)≠0 then i else frR T (i+1) r
def aQQ (T:bK) (ls:List (List Int)):Int:=if ls.any (aQE T)=true∧frR T 0 ls≠ -1 then 19 else 0
def aQR (T:bK) (ls:List (List Int)):Int:=if ls.any (aQE T)=true∧frR T 0 ls≠ -1 then frR T 0 ls else 0
theorem aQF (T:bK) (l:List Int) (h:0<l.length):aQD (aPE T l)=aQ8 (aOy [1,2] [aYy T l[0]]) (aOy [0,11] (aPE T l)) (aOy [1,2,3,4] (aPn (aPE T l))) (aOy [4] (aPE T l)) (aOy [3] (aPE T l)) (aOy [0] [aYy T l[0]]) (aOy [1,2,3,11] (aPE T l)) (aOy [0,4] (aPn (aPE T l))):=by
 cases l with
 |nil=>cases h
 |cons a r=>rfl
theorem aQB (k m:Int) (a:0≤k) (b:k≤11) (c:((2 ^ k.toNat:Nat):Int)=m):Hid (∀ w:World,Calls prog 198 #[.int .i64 k] w fun e w'=>e= .returned (.int .i64 m)∧w=w'):=aW0 fun w=>by
 have:=aPz k a b w;rwa [c] at this
theorem aPs (a m:Int) (b:Bool) (h:(bits .and .i64 a m != 0)=b):Hid (∀ w:World,Calls prog 197 #[.int .i64 a,.int .i64 m] w fun e w'=>e= .returned (.bool b)∧w=w'):=aW0 fun w=>by
 have:=aQ2 a m w;rwa [h] at this
theorem aQG (T:bK) (t:TV) (l:List Int) (A:Option Addr) (n c:Nat) (w:World) (ht:bT w t T) (hi:aX w ⟨A,n,c⟩ l) (Z:lV T=true) (hm:l.length≤4096):
 Calls prog 147 #[t.v,.slice A n c] w fun e w'=>e= .returned (.int .i64 (aQD (aPE T l)))∧Ext w w':=by
 have i:=aUt w t;have B:=aW0 i;have H:=aW0 (ht.aQ i);have M:=aW0 (hi.ext i);have z:=aW0 Z;have I:=aW0 hm;have hn:=hi.len.1;subst hn;clear ht hi i hm Z;by_cases C:0<l.length
 ·have j:=aW0 (aQF T l C);have a2:(0:Int)<(l.length:Int):=by omega
  have a3:l.length≤4096:=I.out;have e0:((l.length:Int)==0)=false:=bF';obtain ⟨b,o,rfl,p⟩:=M.out.at_ C;rw [Nat.add_zero] at p;have m:=aPv z.out l[0];have r:=aW0 (aPx z.out l);have D:Hid (∀ w',Ext (tW' w t) w'→Calls prog 199 #[t.v,.int .i64 l[0]] w' fun e w''=>e= .returned (.int .i64 (aYy T l[0]))∧Ext w' w''):=aW0 (fun w' h=>aOA t T l[0] w' (H.out.aQ h) (oN z.out));have E:Hid (∀ w',Ext (tW' w t) w'→Calls prog 196 #[t.v,.slice (some ⟨b,o,none⟩) l.length c] w' fun e w''=>e= .returned (.int .i64 ((aOV (aPE T l):Nat):Int))∧Ext w' w''):=aW0 (fun w' h=>aPy T t l _ _ c w' (H.out.aQ h) (M.out.ext h) z.out I.out);have S:Hid (∀ w',Ext (tW' w t) w'→Calls prog 200 #[t.v,.slice (some ⟨b,o,none⟩) l.length c] w' fun e w''=>e= .returned (.int .i64 ((aOV (aPn (aPE T l)):Nat):Int))∧Ext w' w''):=aW0 (fun w' h=>aQA T t l _ _ c w' (H.out.aQ h) (M.out.ext h) z.out I.out);generalize l[0]=x0 at*;generalize aYy T x0=q at*;have s:Hid (InB [q]):=aW0 (by intro y U;rw [List.mem_singleton] at U;subst U;exact m);have F:Hid (∀ w',Ext (w.alloc (.cells #[.slice t.s0.a t.s0.n t.s0.c,.slice t.s1.a t.s1.n t.s1.c,.slice t.s2.a t.s2.n t.s2.c,.slice t.s3.a t.s3.n t.s3.c,.slice t.s4.a t.s4.n t.s4.c,.slice t.s5.a t.s5.n t.s5.c,.slice t.s6.a t.s6.n t.s6.c,.slice t.s7.a t.s7.n t.s7.c,.slice t.s8.a t.s8.n t.s8.c,.slice t.s9.a t.s9.n t.s9.c,.slice t.s10.a t.s10.n t.s10.c,.slice t.s11.a t.s11.n t.s11.c] 26)) w'→Calls prog 198 #[.int .i64 q] w' fun e w''=>e= .returned (.int .i64 ((aOV [q]:Nat):Int))∧Ext w' w''):=aW0 (fun w' h=>(aPz q m.1 m.2 w').mono fun e w'' h2=>⟨by rw [aQ9];exact h2.1,by rw [← h2.2];exact Ext.refl _⟩);have g:=fun b h=>aPs ((aOV [q]:Nat):Int) 6 b h
  have g:=g _ (aQ5 [1,2] [q] (by unfold InB;decide) s.out 6 (by decide));have J:=aPs ((aOV [q]:Nat):Int) 1 _ (aQ5 [0] [q] (by unfold InB;decide) s.out 1 (by decide));have G:=aPs _ 2049 _ (aQ5 [0,11] (aPE T l) (by unfold InB;decide) r.out 2049 (by decide));have N:=aPs _ 16 _ (aQ5 [4] (aPE T l) (by unfold InB;decide) r.out 16 (by decide));have V:=aPs _ 8 _ (aQ5 [3] (aPE T l) (by unfold InB;decide) r.out 8 (by decide));have O:=aPs _ 2062 _ (aQ5 [1,2,3,11] (aPE T l) (by unfold InB;decide) r.out 2062 (by decide));have K:=aPs _ 30 _ (aQ5 [1,2,3,4] (aPn (aPE T l)) (by unfold InB;decide) (aQ4 r.out) 30 (by decide));have W:=aPs _ 17 _ (aQ5 [0,4] (aPn (aPE T l)) (by unfold InB;decide) (aQ4 r.out) 17 (by decide));have P:=aQB 4 16 (by omega) (by omega) (by decide);have X:=aQB 3 8 (by omega) (by omega) (by decide);have L:=aQB 0 1 (by omega) (by omega) (by decide);generalize aOy [1,2] [q]=b1 at*;generalize aOy [0,11] (aPE T l)=b2 at*;generalize aOy [1,2,3,4] (aPn (aPE T l))=b3 at*;generalize aOy [4] (aPE T l)=b4 at*;generalize aOy [3] (aPE T l)=b5 at*;generalize aOy [0] [q]=b6 at*;generalize aOy [1,2,3,11] (aPE T l)=b7 at*;generalize aOy [0,4] (aPn (aPE T l))=b8 at*;generalize aQD (aPE T l)=R at*;generalize ((aOV [q]:Nat):Int)=SF at*;generalize ((aOV (aPE T l):Nat):Int)=SB at*;generalize ((aOV (aPn (aPE T l)):Nat):Int)=SL at*;clear r s m z I H;have rT:∀ yy:aS (tW' w t),∀ k:Nat,yy.w.cell? ⟨w.heap.size,k,none⟩=t.v.cells[k]? :=fun yy=>aO yy.h
  have rX:∀ yy:aS (tW' w t),yy.w.cell? ⟨b,o,none⟩=some (.int .i64 x0):=bU p;go_enter func147,ntmps147;go_wp2_with fail;refine rX' ?_
  repeat (go_big_quiet_step (first
   |(go_at_call 199;with_reducible exact aC (D.out _ (aS.h _)))
   |(go_at_call 198;with_reducible exact aC (F.out _ (aS.h _)))
   |(go_at_call 196;with_reducible exact aC (E.out _ (aS.h _)))
   |(go_at_call 200;with_reducible exact aC (S.out _ (aS.h _)))))
  refine wpQuiet_nil ?_;rintro _ ⟨Y,rfl⟩;clear rT rX p D E S F;obtain ⟨Q,x⟩:∃ Q:World,Q=Y.w:=⟨_,rfl⟩;have f:Ext w Q:=by rw [x];exact B.out.trans' Y.h
  rw [← x];clear x;cases b1
  case true=>
   cases b2
   case true=>
    go_wp2_with fail;refine (g.out _).mono ?_;rintro e d ⟨rfl,rfl⟩;go_wp2_with fail;refine (G.out _).mono ?_;rintro e d ⟨rfl,rfl⟩;go_wp2_with fail;go_ret;exact ⟨by rw [j.out];rfl,f⟩
   cases b3
   case true=>
    cases b4
    case true=>
     cases b5
     case true=>
      go_wp2_with fail;refine (g.out _).mono ?_;rintro e d ⟨rfl,rfl⟩;go_wp2_with fail;refine (G.out _).mono ?_;rintro e d ⟨rfl,rfl⟩;go_wp2_with fail;refine (K.out _).mono ?_;rintro e d ⟨rfl,rfl⟩;go_wp2_with fail;refine (P.out _).mono ?_;rintro e d ⟨rfl,rfl⟩;go_wp2_with fail;refine (N.out _).mono ?_;rintro e d ⟨rfl,rfl⟩;go_wp2_with fail;refine (X.out _).mono ?_;rintro e d ⟨rfl,rfl⟩;go_wp2_with fail;refine (V.out _).mono ?_;rintro e d ⟨rfl,rfl⟩;go_wp2_with fail;go_ret;exact ⟨by rw [j.out];rfl,f⟩
     go_wp2_with fail;refine (g.out _).mono ?_;rintro e d ⟨rfl,rfl⟩;go_wp2_with fail;refine (G.out _).mono ?_;rintro e d ⟨rfl,rfl⟩;go_wp2_with fail;refine (K.out _).mono ?_;rintro e d ⟨rfl,rfl⟩;go_wp2_with fail;refine (P.out _).mono ?_;rintro e d ⟨rfl,rfl⟩;go_wp2_with fail;refine (N.out _).mono ?_;rintro e d ⟨rfl,rfl⟩;go_wp2_with fail;refine (X.out _).mono ?_;rintro e d ⟨rfl,rfl⟩;go_wp2_with fail;refine (V.out _).mono ?_;rintro e d ⟨rfl,rfl⟩;go_wp2_with fail;go_ret;exact ⟨by rw [j.out];rfl,f⟩
    go_wp2_with fail;refine (g.out _).mono ?_;rintro e d ⟨rfl,rfl⟩;go_wp2_with fail;refine (G.out _).mono ?_;rintro e d ⟨rfl,rfl⟩;go_wp2_with fail;refine (K.out _).mono ?_;rintro e d ⟨rfl,rfl⟩;go_wp2_with fail;refine (P.out _).mono ?_;rintro e d ⟨rfl,rfl⟩;go_wp2_with fail;refine (N.out _).mono ?_;rintro e d ⟨rfl,rfl⟩;go_wp2_with fail;go_ret;exact ⟨by rw [j.out];rfl,f⟩
   go_wp2_with fail;refine (g.out _).mono ?_;rintro e d ⟨rfl,rfl⟩;go_wp2_with fail;refine (G.out _).mono ?_;rintro e d ⟨rfl,rfl⟩;go_wp2_with fail;refine (K.out _).mono ?_;rintro e d ⟨rfl,rfl⟩;go_wp2_with fail;go_ret;exact ⟨by rw [j.out];rfl,f⟩
  cases b6
  case true=>
   cases b7
   case true=>
    go_wp2_with fail;refine (g.out _).mono ?_;rintro e d ⟨rfl,rfl⟩;go_wp2_with fail;refine (L.out _).mono ?_;rintro e d ⟨rfl,rfl⟩;go_wp2_with fail;refine (J.out _).mono ?_;rintro e d ⟨rfl,rfl⟩;go_wp2_with fail;refine (O.out _).mono ?_;rintro e d ⟨rfl,rfl⟩;go_wp2_with fail;go_ret;exact ⟨by rw [j.out];rfl,f⟩
   cases b8
   case true=>
    go_wp2_with fail;refine (g.out _).mono ?_;rintro e d ⟨rfl,rfl⟩;go_wp2_with fail;refine (L.out _).mono ?_;rintro e d ⟨rfl,rfl⟩;go_wp2_with fail;refine (J.out _).mono ?_;rintro e d ⟨rfl,rfl⟩;go_wp2_with fail;refine (O.out _).mono ?_;rintro e d ⟨rfl,rfl⟩;go_wp2_with fail;refine (W.out _).mono ?_;rintro e d ⟨rfl,rfl⟩;go_wp2_with fail;go_ret;exact ⟨by rw [j.out];rfl,f⟩
   go_wp2_with fail;refine (g.out _).mono ?_;rintro e d ⟨rfl,rfl⟩;go_wp2_with fail;refine (L.out _).mono ?_;rintro e d ⟨rfl,rfl⟩;go_wp2_with fail;refine (J.out _).mono ?_;rintro e d ⟨rfl,rfl⟩;go_wp2_with fail;refine (O.out _).mono ?_;rintro e d ⟨rfl,rfl⟩;go_wp2_with fail;refine (W.out _).mono ?_;rintro e d ⟨rfl,rfl⟩;go_wp2_with fail;go_ret;exact ⟨by rw [j.out];rfl,f⟩
  go_wp2_with fail;refine (g.out _).mono ?_;rintro e d ⟨rfl,rfl⟩;go_wp2_with fail;refine (L.out _).mono ?_;rintro e d ⟨rfl,rfl⟩;go_wp2_with fail;refine (J.out _).mono ?_;rintro e d ⟨rfl,rfl⟩;go_wp2_with fail;go_ret;exact ⟨by rw [j.out];rfl,f⟩
 ·have h0:l=[]:=List.eq_nil_of_length_eq_zero (by omega);subst h0;go_enter func147,ntmps147;go_wp2_with fail;go_ret;exact ⟨rfl,B.out⟩
theorem aQC {T:bK} {l:List Int} (h:bF T l=0):l.length≤4096:=by
 have:=(uF h).2;omega
theorem aQH (T:bK) (t:TV) (l:List Int) (A:Option Addr) (n c:Nat) (w:World) (ht:bT w t T) (hi:aX w ⟨A,n,c⟩ l) (g:bF T l=0):
 Calls prog 146 #[t.v,.slice A n c] w fun e w'=>e= .returned (.bool (aQE T l))∧Ext w w':=by
 have a:=aUt w t;have i:=aW0 a;have j:=aW0 (ht.aQ a);have m:=aW0 (hi.ext a);have o:=aW0 g;have M:=aW0 (aPs _ 14 _ (aQ5 [1,2,3] (aPE T l) (by unfold InB;decide) (aPx (uF g).1 l) 14 (by decide)));have q:Hid (∀ w',Ext (tW' w t) w'→Calls prog 196 #[t.v,.slice A n c] w' fun e w''=>e= .returned (.int .i64 ((aOV (aPE T l):Nat):Int))∧Ext w' w''):=aW0 (fun w' h=>aPy T t l A n c w' (j.out.aQ h) (m.out.ext h) (uF o.out).1 (aQC o.out));have r:Hid (aQE T l=aOy [1,2,3] (aPE T l)):=rfl;generalize aOy [1,2,3] (aPE T l)=b1 at*;generalize ((aOV (aPE T l):Nat):Int)=SB at*;have p:=aW0 (oZ t T l A n c _ j.out m.out);rw [g] at p;clear ht hi a g;go_enter func146,ntmps146;go_wp2_with fail;refine p.out.mono ?_;rintro e s ⟨v,rfl,b,_⟩;have d:=aW0 b;have x:∀ k:Nat,s.cell? ⟨w.heap.size,k,none⟩=t.v.cells[k]? :=aO b;clear b;go_wp2_with fail;refine (q.out _ d.out).mono ?_;rintro e z ⟨rfl,f⟩;have y:=(i.out.trans' d.out).trans' f;clear x f;go_wp2_with fail;refine (M.out.out _).mono ?_;rintro e B ⟨rfl,rfl⟩;go_wp2_with fail;go_ret;exact ⟨by rw [r.out];rfl,y⟩
theorem aQI {w w':World} {s:SV} {ls:List (List Int)} (h:UA w s ls) (a:Ext w w'):UA w' s ls:=h.ext a
theorem aRT {α:Type} (p:α→Bool) (l:List α) (k:Nat) (a:k<l.length):(l.take (k+1)).any p=((l.take k).any p||p l[k]):=by
 rw [List.take_succ_eq_append_getElem a,List.any_append];simp
theorem aQU {T:bK} {ls:List (List Int)} {k:Nat} (a:k<ls.length):frR T k (ls.drop k)=if aQD (aPE T ls[k])≠0 then (k:Int) else frR T ((k+1:Nat):Int) (ls.drop (k+1)):=by
 rw [drop_at ls k a];rfl
def aQY (T:bK) (w0:World) (ls:List (List Int)) (gh:Nat) (s6 s15:Value) (wx:World):Prop:=
 ∃ (k:Nat),k+gh=ls.length∧s15= .int .i64 k∧s6= .bool ((ls.take k).any (aQE T))∧Hid (Ext w0 wx)
def aQV (T:bK) (w0:World) (ls:List (List Int)) (gh:Nat) (s39:Value) (wx:World):Prop:=
 ∃ (k:Nat),k+gh=ls.length∧s39= .int .i64 k∧Hid (ls.any (aQE T)=true→frR T k (ls.drop k)=frR T 0 ls)∧Hid (Ext w0 wx)
theorem aQM {T:bK} {ls:List (List Int)} {k:Nat} (c:ls.any (aQE T)=true) (b:frR T 0 ls=(k:Int)):aQR T ls=k∧aQQ T ls=19:=by
 have a:ls.any (aQE T)=true∧frR T 0 ls≠ -1:=⟨c,by rw [b];omega⟩;unfold aQR aQQ;rw [if_pos a,if_pos a,b];exact ⟨rfl,rfl⟩
theorem aQJ {T:bK} {ls:List (List Int)} (h:ls.any (aQE T)=true→frR T 0 ls= -1):aQR T ls=0∧aQQ T ls=0:=by
 have a:¬(ls.any (aQE T)=true∧frR T 0 ls≠ -1):=fun h'=>h'.2 (h h'.1)
 unfold aQR aQQ;rw [if_neg a,if_neg a];exact ⟨rfl,rfl⟩
def aQN (w:World) (T:bK) (ls:List (List Int)) (e:Ending) (w':World):Prop:=e= .returned (.tuple #[.int .i64 (aQR T ls),.int .i64 (aQQ T ls)])∧Ext w w'
theorem aQT (T:bK) (t:TV) (ls:List (List Int)) (A:Option Addr) (n c:Nat) (w:World) (ht:bT w t T) (hi:UA w ⟨A,n,c⟩ ls) (hw:lV T=true) (g:∀ l∈ls,bF T l=0) (hm:ls.length≤1000000):
 Calls prog 101 #[t.v,.slice A n c] w (aQN w T ls):=by
 have j:=aUt w t;have z:=aW0 j;have V:=aW0 (ht.aQ j);have W:=aW0 (hi.ext j);have HW:=aW0 hw;have Z:=aW0 g;have HM:=aW0 hm;have hn:=hi.len.1;subst hn;clear ht hi j hw g hm;go_enter func101,ntmps101;go_wp2_with fail;go_loopg [6,15] ls.length (fun gh s6 s15 wx=>aQY T (tW' w t) ls gh s6 s15 wx)
 case atStart=>exact ⟨0,by omega,rfl,rfl,aW0 (Ext.refl _)⟩
 case round=>
  obtain ⟨k,H,rfl,rfl,a⟩:=hrel;have B:∀ k:Nat,wr.cell? ⟨w.heap.size,k,none⟩=t.v.cells[k]? :=aO a.out;have a7:ls.length≤1000000:=HM.out;by_cases m:k<ls.length
  ·obtain ⟨f,rfl⟩:∃ g',gk=g'+1:=⟨gk - 1,by omega⟩;obtain ⟨b,o,I,J,K,rfl,L,g⟩:=(aQI W.out a.out).at_ m;have M:=aW0 g;have S:=aW0 (aRT (aQE T) ls k m);have N:=aW0 (Z.out _ (List.getElem_mem m));clear g;generalize ls[k]=x at*;have X:=aW0 (oZ t T x I J K wr (V.out.aQ a.out) M.out);rw [N.out] at X;have O:=z0' k;have P:(k:Int)<(ls.length:Int):=by omega
   go_wp2_with fail;refine X.out.mono ?_;rintro e w1 ⟨v,rfl,C,_⟩;have q:=aW0 (a.out.trans' C);have MG:=aW0 C;clear B C X;have B:∀ k:Nat,w1.cell? ⟨w.heap.size,k,none⟩=t.v.cells[k]? :=aO q.out;have kZ:=aW0 (aQH T t x I J K w1 (V.out.aQ q.out) (M.out.ext MG.out) N.out);generalize aQE T x=p at*;cases i:(ls.take k).any (aQE T)
   ·rw [i] at S;clear i;go_wp2_with fail;refine kZ.out.mono ?_;rintro e w2 ⟨rfl,d⟩;have D:=aW0 (q.out.trans' d);clear d B;go_wp2_with fail;go_roundg f
    case measure=>omega
    case rel=>exact ⟨k+1,by omega,by go_num,by rw [S.out];rfl,D⟩
   ·rw [i] at S;clear i;go_wp2_with fail;go_roundg f
    case measure=>omega
    case rel=>exact ⟨k+1,by omega,by go_num,by rw [S.out];rfl,q⟩
  ·have HE:Hid (ls.take k=ls):=aW0 (List.take_of_length_le (by omega));rw [HE.out];clear B;cases i:ls.any (aQE T)
   ·have U:=aW0 i;have y:=aW0 (aQJ (T:=T) (ls:=ls) (fun h=>by rw [i] at h;cases h));clear i;go_wp2_with fail;go_loopg [39] ls.length (fun gh s39 wx=>aQV T (tW' w t) ls gh s39 wx)
    case atStart=>exact ⟨0,by omega,rfl,aW0 (fun _=>rfl),a⟩
    case round=>
     obtain ⟨k,H,rfl,F,a⟩:=hrel;have E:=z.out.trans' a.out;by_cases m:k<ls.length
     ·obtain ⟨f,rfl⟩:∃ g',gk=g'+1:=⟨gk - 1,by omega⟩;obtain ⟨b,o,I,J,K,rfl,L,g⟩:=(aQI W.out a.out).at_ m;have O:=z0' k;have P:(k:Int)<(ls.length:Int):=by omega
      clear g E;go_wp2_with fail;go_roundg f
      case measure=>omega
      case rel=>exact ⟨k+1,by omega,by go_num,aW0 (fun h=>by rw [U.out] at h;cases h),a⟩
     ·go_wp2_with fail;go_ret2;exact ⟨by rw [y.out.1,y.out.2];rfl,E⟩
   ·have U:=aW0 i;clear i;go_wp2_with fail;go_loopg [39] ls.length (fun gh s39 wx=>aQV T (tW' w t) ls gh s39 wx)
    case atStart=>exact ⟨0,by omega,rfl,aW0 (fun _=>rfl),a⟩
    case round=>
     obtain ⟨k,H,rfl,F,a⟩:=hrel;have E:=z.out.trans' a.out;by_cases m:k<ls.length
     ·obtain ⟨f,rfl⟩:∃ g',gk=g'+1:=⟨gk - 1,by omega⟩;obtain ⟨b,o,I,J,K,rfl,L,g⟩:=(aQI W.out a.out).at_ m;have s:=aW0 (aQU (T:=T) m);have Q:=aW0 (aQG T t ls[k] I J K wr (V.out.aQ a.out) g HW.out (aQC (Z.out _ (List.getElem_mem m))));clear g E;generalize ls[k]=x at*;generalize aQD (aPE T x)=r at*;have B:∀ k:Nat,wr.cell? ⟨w.heap.size,k,none⟩=t.v.cells[k]? :=aO a.out;have O:=z0' k;have P:(k:Int)<(ls.length:Int):=by omega
      by_cases G:r=0
      ·have e1:(r != 0)=false:=bZ' G
       have Y:Hid (ls.any (aQE T)=true→frR T ((k+1:Nat):Int) (ls.drop (k+1))=frR T 0 ls):=aW0 (fun h=>by
        have R:=s.out;rw [if_neg (by rw [G];simp)] at R
        rw [← R];exact F.out h)
       clear G s F;go_wp2_with fail;refine Q.out.mono ?_;rintro e w2 ⟨rfl,d⟩;have D:=aW0 (a.out.trans' d);clear d B;go_wp2_with fail;go_roundg f
       case measure=>omega
       case rel=>exact ⟨k+1,by omega,by go_num,Y,D⟩
      ·have e1:(r != 0)=true:=bN' G
       have y:Hid (aQR T ls=k∧aQQ T ls=19):=aW0 (by
        have R:=s.out;rw [if_pos G] at R
        exact aQM U.out ((F.out U.out).symm.trans R))
       clear G s F;go_wp2_with fail;refine Q.out.mono ?_;rintro e w2 ⟨rfl,d⟩;have E:=(z.out.trans' a.out).trans' d;clear d B;go_wp2_with fail;go_ret2;exact ⟨by rw [y.out.1,y.out.2];rfl,E⟩
     ·have y:=aW0 (aQJ (T:=T) (ls:=ls) (fun h=>by rw [← F.out h,List.drop_of_length_le (by omega)];rfl));go_wp2_with fail;go_ret2;exact ⟨by rw [y.out.1,y.out.2];rfl,E⟩
end Go.Proofs.YtjccgagakfndpaaGreatDoor
