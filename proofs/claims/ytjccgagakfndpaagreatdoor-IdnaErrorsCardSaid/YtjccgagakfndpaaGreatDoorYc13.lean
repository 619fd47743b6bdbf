/- Part Yc13. -/
import Derived.Laws.Tables
import Derived.Laws.Rows
import Derived.Test.YtjccgagakfndpaaGreatDoorYc12
open Go.Proofs.Tryz
namespace Go.Proofs.YtjccgagakfndpaaGreatDoor
set_option maxHeartbeats 25600000
set_option maxRecDepth 100000
open Go.RowKit
theorem tK (c:Int) (w:World):Calls prog 76 #[.int .i64 c] w fun e w'=>e= .returned (.int .i64 (utfLen c))∧w=w':=by
 cases a:aX c
 ·have H:=ah a;clear a;go_enter func76,ntmps76;go_wp2_with (go_at_call 48;refine (yB _ _).mono ?_;rintro e w' ⟨rfl,rfl⟩;rw [H.out])
  all_goals (go_ret;refine ⟨aT ?_,rfl⟩;simp [utfLen,H.out])
 ·have H:=ah a;clear a;go_enter func76,ntmps76;go_wp2_with (go_at_call 48;refine (yB _ _).mono ?_;rintro e w' ⟨rfl,rfl⟩;rw [H.out])
  all_goals (go_ret;refine ⟨aT ?_,rfl⟩;simp [utfLen,H.out];try omega)
theorem xW (w:World) (a:Array Value) (l:List Int) (m:Nat) (b:l.length=m) (c:a=(l.map (Value.int .u8)).toArray) (d:m≤4096):
 (convert 38 9 (.slice (some ⟨w.heap.size,0,none⟩) m m)).run prog (w.alloc (.cells a 5))= .ok (.string (sB l)) (w.alloc (.cells a 5)):=by
 subst b;exact Bf (Nz w a l c d)
theorem xU (x:Int) (f:aX x=true) (w:World):Calls prog 49 #[.int .i64 x] w fun e w'=>e= .returned (.string (sB (enc1 x)))∧Ext w w':=by
 have j:=uF f;have a:utfLen x=if x≤127 then 1 else if x≤2047 then 2 else if x≤65535 then 3 else 4:=by unfold utfLen;rw [f];simp
 have b:Hid (enc1 x=if x≤127 then [x] else if x≤2047 then [192+x / 64,128+x % 64] else if x≤65535 then [224+x / 4096,128+x / 64 % 64,128+x % 64] else [240+x / 262144,128+x / 4096 % 64,128+x / 64 % 64,128+x % 64]):=rfl;clear f;generalize enc1 x=E at*;have d:=fun k=>(Ext.refl w).aB (.cells k 5)
 go_enter func49,ntmps49;go_wp2_with fail;refine (tK _ _).mono ?_;rintro e w' ⟨rfl,rfl⟩;by_cases g:x≤127
 ·rw [if_pos g] at a b;rw [a];have c:=xW w #[.int .u8 x] [x] 1 rfl rfl (by omega);go_wp2_with fail;go_ret;exact ⟨by rw [b.out];rfl,d _⟩
 rw [if_neg g] at a b;by_cases h:x≤2047
 ·rw [if_pos h] at a b;rw [a];have c:=xW w #[.int .u8 (192+x / 64),.int .u8 (128+x % 64)] [192+x / 64,128+x % 64] 2 rfl rfl (by omega);go_wp2_with fail;go_ret;exact ⟨by rw [b.out];rfl,d _⟩
 rw [if_neg h] at a b;by_cases i:x≤65535
 ·rw [if_pos i] at a b;rw [a];have c:=xW w #[.int .u8 (224+x / 4096),.int .u8 (128+x / 64 % 64),.int .u8 (128+x % 64)] [224+x / 4096,128+x / 64 % 64,128+x % 64] 3 rfl rfl (by omega);go_wp2_with fail;go_ret;exact ⟨by rw [b.out];rfl,d _⟩
 ·rw [if_neg i] at a b;rw [a];have c:=xW w #[.int .u8 (240+x / 262144),.int .u8 (128+x / 4096 % 64),.int .u8 (128+x / 64 % 64),.int .u8 (128+x % 64)] [240+x / 262144,128+x / 4096 % 64,128+x / 64 % 64,128+x % 64] 4 rfl rfl (by omega);go_wp2_with fail;go_ret;exact ⟨by rw [b.out];rfl,d _⟩
def rcU (l:List Int) (n:Nat):Int:=
 if n=1 then l.getD 0 0 else if n=2 then (l.getD 0 0 - 192)*64+l.getD 1 0 - 128 else if n=3 then (l.getD 0 0 - 224)*4096+(l.getD 1 0 - 128)*64+l.getD 2 0 - 128
 else (l.getD 0 0 - 240)*262144+(l.getD 1 0 - 128)*4096+(l.getD 2 0 - 128)*64+l.getD 3 0 - 128
theorem utf_scal {c n:Int} (h:utfLen c=n) (b:n≠0):aX c=true:=by
 cases a:aX c
 ·exact absurd ((utfLen_eq_zero c).2 a) (by rw [h];exact b)
 ·rfl
theorem XP {l:List Int} {n:Nat} {c:Int} (g:n≠0) (d:utfLen c=n) (b:enc1 c=l.take n):dN l=(c,n):=by
 have a:=utf_scal d (by omega);have h:=WT a (l.drop n);have f:=WW a;rw [b,List.take_append_drop] at h;rw [h,← b];congr 1;omega
theorem XQ {l:List Int} (p:IsB l) (h:(dN l).2≠0):(dN l).2≤4∧utfLen (rcU l (dN l).2)=(dN l).2∧enc1 (rcU l (dN l).2)=l.take (dN l).2:=by
 have f:∀ (n:Nat) (c:Int),n≠0→n≤4→dN l=(c,n)→c=rcU l n→utfLen c=n→enc1 c=l.take n→(dN l).2≤4∧utfLen (rcU l (dN l).2)=(dN l).2∧enc1 (rcU l (dN l).2)=l.take (dN l).2:=by
  intro n c D q A g i B;rw [A];subst g;exact ⟨q,i,B⟩
 match l,p,h,f with
 |[],_,h,_=>simp [dN] at h
 |a::r,p,h,f=>
  have E:=p a (by simp);have F:(a::r).getD 0 0=a:=rfl;by_cases j:a≤127
  ·have i:utfLen a=1:=by
    unfold utfLen;have:aX a=true:=by simp [aX];omega
    rw [this];simp [j]
   exact f 1 a (by omega) (by omega) (by simp [dN,j]) rfl i (by simp [enc1,j])
  by_cases k:192≤a∧a≤223
  ·match r,p,h,f with
   |[],_,h,_=>simp [dN,j,k] at h
   |b::r,p,h,f=>
    by_cases g:iK b=true∧utfLen ((a - 192)*64+(b - 128))=2
    ·have t:=g.1;simp only [iK,aV,au] at t;have x:=uF (utf_scal g.2 (by omega));have i:=g.2;have w:¬ (a - 192)*64+(b - 128)≤127:=by
      intro m;unfold utfLen at i;rw [utf_scal g.2 (by omega)] at i;simp [m] at i
     refine f 2 ((a - 192)*64+(b - 128)) (by omega) (by omega) (by simp only [dN];rw [if_neg j,if_pos k,if_pos g]) ?_ g.2 ?_
     ·show _=(a - 192)*64+b - 128
      omega
     ·unfold enc1;rw [if_neg w,if_pos (by omega)];show _=[a,b]
      congr 1
      ·omega
      ·congr 1;omega
    ·simp only [dN] at h;rw [if_neg j,if_pos k,if_neg g] at h;exact absurd rfl h
  by_cases o:224≤a∧a≤239
  ·match r,p,h,f with
   |[],_,h,_=>simp [dN,j,k,o] at h
   |[b],_,h,_=>simp [dN,j,k,o] at h
   |b::c::r,p,h,f=>
    by_cases g:iK b=true∧iK c=true∧utfLen (((a - 224)*64+(b - 128))*64+(c - 128))=3
    ·have t:=g.1;have s:=g.2.1;simp only [iK,aV,au] at t s;have i:=g.2.2;have x:=utf_scal i (by omega);have w:¬ ((a - 224)*64+(b - 128))*64+(c - 128)≤2047:=by
      intro m;unfold utfLen at i;rw [x] at i;by_cases y:((a - 224)*64+(b - 128))*64+(c - 128)≤127<;>simp [y,m] at i
     refine f 3 (((a - 224)*64+(b - 128))*64+(c - 128)) (by omega) (by omega) (by simp only [dN];rw [if_neg j,if_neg k,if_pos o,if_pos g]) ?_ i ?_
     ·show _=(a - 224)*4096+(b - 128)*64+c - 128
      omega
     ·unfold enc1;rw [if_neg (by omega),if_neg w,if_pos (by omega)];show _=[a,b,c]
      congr 1
      ·omega
      ·congr 1
       ·omega
       ·congr 1;omega
    ·simp only [dN] at h;rw [if_neg j,if_neg k,if_pos o,if_neg g] at h;exact absurd rfl h
  by_cases q:240≤a∧a≤247
  ·match r,p,h,f with
   |[],_,h,_=>simp [dN,j,k,o,q] at h
   |[b],_,h,_=>simp [dN,j,k,o,q] at h
   |[b,c],_,h,_=>simp [dN,j,k,o,q] at h
   |b::c::d::r,p,h,f=>
    by_cases g:iK b=true∧iK c=true∧iK d=true∧utfLen ((((a - 240)*64+(b - 128))*64+(c - 128))*64+(d - 128))=4
    ·have t:=g.1;have s:=g.2.1;have z:=g.2.2.1;simp only [iK,aV,au] at t s z;have i:=g.2.2.2;have x:=utf_scal i (by omega);have w:¬ (((a - 240)*64+(b - 128))*64+(c - 128))*64+(d - 128)≤65535:=by
      intro m;unfold utfLen at i;rw [x] at i;by_cases y:(((a - 240)*64+(b - 128))*64+(c - 128))*64+(d - 128)≤127
      ·simp [y] at i
      ·by_cases C:(((a - 240)*64+(b - 128))*64+(c - 128))*64+(d - 128)≤2047<;>simp [y,C,m] at i
     refine f 4 ((((a - 240)*64+(b - 128))*64+(c - 128))*64+(d - 128)) (by omega) (by omega) (by simp only [dN];rw [if_neg j,if_neg k,if_neg o,if_pos q,if_pos g]) ?_ i ?_
     ·show _=(a - 240)*262144+(b - 128)*4096+(c - 128)*64+d - 128
      omega
     ·unfold enc1;rw [if_neg (by omega),if_neg (by omega),if_neg w];show _=[a,b,c,d]
      congr 1
      ·omega
      ·congr 1
       ·omega
       ·congr 1
        ·omega
        ·congr 1;omega
    ·simp only [dN] at h;rw [if_neg j,if_neg k,if_neg o,if_pos q,if_neg g] at h;exact absurd rfl h
  ·have:dN (a::r)=(0,0):=by simp [dN,j,k,o,q]
   rw [this] at h;exact absurd rfl h
theorem XU (l:List Int):(dN l).2=0→dN l=(0,0):=by
 unfold dN
 repeat' split
 all_goals (intro h;first|rfl|(simp at h))
theorem Dw {c:Int} (h:aX c=true):IsB (enc1 c):=by
 have b:=uF h;intro x a;unfold enc1 at a
 repeat' split at a
 all_goals (simp only [List.mem_cons,List.not_mem_nil,or_false] at a;omega)
def XT (w:World) (l:List Int) (g:Nat) (s4:Value) (wx:World):Prop:=
 ∃ k:Nat,g+k=5∧1≤k∧s4= .int .i64 k∧Ext w wx∧Hid (∀ m,m≠0→m<k→m≤l.length→¬ (utfLen (rcU l m)=m∧enc1 (rcU l m)=l.take m))
theorem XR (l:List Int) (G:IsB l) (hm:l.length≤1099511627776) (w:World):
 Calls prog 70 #[.string (sB l)] w fun e w'=>e= .returned (.tuple #[.int .i64 (dN l).1,.int .i64 (dN l).2])∧Ext w w':=by
 have q:=ah G;have K:=ah (XQ G);have E:=ah (fun n c=> @XP l n c);have H:=ah (F5 l);generalize I:dN l=V at*;have L:Hid (V.2=0→V=(0,0)):=ah (by subst I;exact XU l);clear G I;go_enter func70,ntmps70;go_wp2_with fail;go_loopg [4] 4 (fun M N O=>XT w l M N O)
 case atStart=>exact ⟨1,by omega,by omega,rfl,Ext.refl _,ah (fun m r A=>by omega)⟩
 case round=>
  obtain ⟨k,R,P,g,D,B⟩:=hrel;have x:=ah D;clear D;by_cases S:k≤4∧k≤l.length
  ·have T:=vM q.out 0;have U:=vM q.out 1;have W:=vM q.out 2;have X:=vM q.out 3;rcases (show k=1∨k=2∨k=3∨k=4 by omega) with h|h|h|h
   ·subst h;have g:=g.trans (show _=Value.int .i64 1 from rfl);subst g;have F:∀ w,(Instr.index 9 (.string (sB l)) (.int .i64 0)).run prog w= .ok (.int .u8 (l.getD 0 0)) w:=ixc q.out (k:=0) (by omega);have y:Hid (rcU l 1=l.getD 0 0):=rfl;have i:∀ w,(Instr.slice 9 (.string (sB l)) none (some (.int .i64 1)) none).run prog w= .ok (.string (sB (l.take 1))) w:=fun w=>Ac w (k:=1) (by omega)
    generalize l.getD 0 0=y0 at*;go_wp2_with fail;generalize y0=c at*;by_cases j:utfLen c=1
    ·have s:=utf_scal j (by omega);have C:(utfLen c==1)=true:=(by rw [beq_iff_eq];exact j);have b:=yT (Dw s) (wK q.out 1);cases p:decide (enc1 c=l.take 1)
     ·rw [p] at b
      have d:Hid (∀ m,m≠0→m<1+1→m≤l.length→¬ (utfLen (rcU l m)=m∧enc1 (rcU l m)=l.take m)):=ah (fun m r A t f=>by
       by_cases e:m=1
       ·subst e;rw [y.out] at f;exact (decide_eq_false_iff_not.1 p) f.2
       ·exact B.out m r (by omega) t f)
      refine rX' ?_
      repeat (go_big_quiet_step (first
       |(go_at_call 76;exact kJ (tK _ _))
       |(go_at_call 49;exact aN (xU c s _))))
      refine wpQuiet_nil ?_;rintro _ ⟨o,rfl⟩;have a:=x.out.trans' o.h;clear i b;go_wp2_with fail;go_roundg 3
      case measure=>omega
      case rel=>exact ⟨1+1,by omega,by omega,by go_num,a,d⟩
     ·rw [p] at b;have z:Hid (V=(c,1)):=ah (E.out 1 c (by omega) j (of_decide_eq_true p));refine rX' ?_
      repeat (go_big_quiet_step (first
       |(go_at_call 76;exact kJ (tK _ _))
       |(go_at_call 49;exact aN (xU c s _))))
      refine wpQuiet_nil ?_;rintro _ ⟨o,rfl⟩;have a:=x.out.trans' o.h;go_wp2_with fail;go_ret2;exact ⟨by rw [z.out];rfl,a⟩
    ·have C:(utfLen c==1)=false:=by rw [aP];exact j
     have d:Hid (∀ m,m≠0→m<1+1→m≤l.length→¬ (utfLen (rcU l m)=m∧enc1 (rcU l m)=l.take m)):=ah (fun m r A t f=>by
      by_cases e:m=1
      ·subst e;rw [y.out] at f;exact j f.1
      ·exact B.out m r (by omega) t f)
     refine rX' ?_
     repeat (go_big_quiet_step ((go_at_call 76;exact kJ (tK _ _))))
     refine wpQuiet_nil ?_;rintro _ ⟨o,rfl⟩;have a:=x.out.trans' o.h;clear i;go_wp2_with fail;go_roundg 3
     case measure=>omega
     case rel=>exact ⟨1+1,by omega,by omega,by go_num,a,d⟩
   ·subst h;have g:=g.trans (show _=Value.int .i64 2 from rfl);subst g;have F:∀ w,(Instr.index 9 (.string (sB l)) (.int .i64 0)).run prog w= .ok (.int .u8 (l.getD 0 0)) w:=ixc q.out (k:=0) (by omega);have J:∀ w,(Instr.index 9 (.string (sB l)) (.int .i64 1)).run prog w= .ok (.int .u8 (l.getD 1 0)) w:=ixc q.out (k:=1) (by omega);have y:Hid (rcU l 2=(l.getD 0 0 - 192)*64+l.getD 1 0 - 128):=rfl;have i:∀ w,(Instr.slice 9 (.string (sB l)) none (some (.int .i64 2)) none).run prog w= .ok (.string (sB (l.take 2))) w:=fun w=>Ac w (k:=2) (by omega)
    generalize l.getD 0 0=y0 at*;generalize l.getD 1 0=y1 at*;go_wp2_with fail;go_quiet (fail);go_wp2_with fail;generalize (y0 - 192)*64+y1 - 128=c at*;by_cases j:utfLen c=2
    ·have s:=utf_scal j (by omega);have C:(utfLen c==2)=true:=(by rw [beq_iff_eq];exact j);have b:=yT (Dw s) (wK q.out 2);cases p:decide (enc1 c=l.take 2)
     ·rw [p] at b
      have d:Hid (∀ m,m≠0→m<2+1→m≤l.length→¬ (utfLen (rcU l m)=m∧enc1 (rcU l m)=l.take m)):=ah (fun m r A t f=>by
       by_cases e:m=2
       ·subst e;rw [y.out] at f;exact (decide_eq_false_iff_not.1 p) f.2
       ·exact B.out m r (by omega) t f)
      refine rX' ?_
      repeat (go_big_quiet_step (first
       |(go_at_call 76;exact kJ (tK _ _))
       |(go_at_call 49;exact aN (xU c s _))))
      refine wpQuiet_nil ?_;rintro _ ⟨o,rfl⟩;have a:=(x.out.mJ _).trans' o.h;clear i b;go_wp2_with fail;go_roundg 2
      case measure=>omega
      case rel=>exact ⟨2+1,by omega,by omega,by go_num,a,d⟩
     ·rw [p] at b;have z:Hid (V=(c,2)):=ah (E.out 2 c (by omega) j (of_decide_eq_true p));refine rX' ?_
      repeat (go_big_quiet_step (first
       |(go_at_call 76;exact kJ (tK _ _))
       |(go_at_call 49;exact aN (xU c s _))))
      refine wpQuiet_nil ?_;rintro _ ⟨o,rfl⟩;have a:=(x.out.mJ _).trans' o.h;go_wp2_with fail;go_ret2;exact ⟨by rw [z.out];rfl,a⟩
    ·have C:(utfLen c==2)=false:=by rw [aP];exact j
     have d:Hid (∀ m,m≠0→m<2+1→m≤l.length→¬ (utfLen (rcU l m)=m∧enc1 (rcU l m)=l.take m)):=ah (fun m r A t f=>by
      by_cases e:m=2
      ·subst e;rw [y.out] at f;exact j f.1
      ·exact B.out m r (by omega) t f)
     refine rX' ?_
     repeat (go_big_quiet_step ((go_at_call 76;exact kJ (tK _ _))))
     refine wpQuiet_nil ?_;rintro _ ⟨o,rfl⟩;have a:=(x.out.mJ _).trans' o.h;clear i;go_wp2_with fail;go_roundg 2
     case measure=>omega
     case rel=>exact ⟨2+1,by omega,by omega,by go_num,a,d⟩
   ·subst h;have g:=g.trans (show _=Value.int .i64 3 from rfl);subst g;have F:∀ w,(Instr.index 9 (.string (sB l)) (.int .i64 0)).run prog w= .ok (.int .u8 (l.getD 0 0)) w:=ixc q.out (k:=0) (by omega);have J:∀ w,(Instr.index 9 (.string (sB l)) (.int .i64 1)).run prog w= .ok (.int .u8 (l.getD 1 0)) w:=ixc q.out (k:=1) (by omega);have Q:∀ w,(Instr.index 9 (.string (sB l)) (.int .i64 2)).run prog w= .ok (.int .u8 (l.getD 2 0)) w:=ixc q.out (k:=2) (by omega);have y:Hid (rcU l 3=(l.getD 0 0 - 224)*4096+(l.getD 1 0 - 128)*64+l.getD 2 0 - 128):=rfl;have i:∀ w,(Instr.slice 9 (.string (sB l)) none (some (.int .i64 3)) none).run prog w= .ok (.string (sB (l.take 3))) w:=fun w=>Ac w (k:=3) (by omega)
    generalize l.getD 0 0=y0 at*;generalize l.getD 1 0=y1 at*;generalize l.getD 2 0=y2 at*;go_wp2_with fail;go_quiet (fail);go_wp2_with fail;generalize (y0 - 224)*4096+(y1 - 128)*64+y2 - 128=c at*;by_cases j:utfLen c=3
    ·have s:=utf_scal j (by omega);have C:(utfLen c==3)=true:=(by rw [beq_iff_eq];exact j);have b:=yT (Dw s) (wK q.out 3);cases p:decide (enc1 c=l.take 3)
     ·rw [p] at b
      have d:Hid (∀ m,m≠0→m<3+1→m≤l.length→¬ (utfLen (rcU l m)=m∧enc1 (rcU l m)=l.take m)):=ah (fun m r A t f=>by
       by_cases e:m=3
       ·subst e;rw [y.out] at f;exact (decide_eq_false_iff_not.1 p) f.2
       ·exact B.out m r (by omega) t f)
      refine rX' ?_
      repeat (go_big_quiet_step (first
       |(go_at_call 76;exact kJ (tK _ _))
       |(go_at_call 49;exact aN (xU c s _))))
      refine wpQuiet_nil ?_;rintro _ ⟨o,rfl⟩;have a:=(x.out.mJ _).trans' o.h;clear i b;go_wp2_with fail;go_roundg 1
      case measure=>omega
      case rel=>exact ⟨3+1,by omega,by omega,by go_num,a,d⟩
     ·rw [p] at b;have z:Hid (V=(c,3)):=ah (E.out 3 c (by omega) j (of_decide_eq_true p));refine rX' ?_
      repeat (go_big_quiet_step (first
       |(go_at_call 76;exact kJ (tK _ _))
       |(go_at_call 49;exact aN (xU c s _))))
      refine wpQuiet_nil ?_;rintro _ ⟨o,rfl⟩;have a:=(x.out.mJ _).trans' o.h;go_wp2_with fail;go_ret2;exact ⟨by rw [z.out];rfl,a⟩
    ·have C:(utfLen c==3)=false:=by rw [aP];exact j
     have d:Hid (∀ m,m≠0→m<3+1→m≤l.length→¬ (utfLen (rcU l m)=m∧enc1 (rcU l m)=l.take m)):=ah (fun m r A t f=>by
      by_cases e:m=3
      ·subst e;rw [y.out] at f;exact j f.1
      ·exact B.out m r (by omega) t f)
     refine rX' ?_
     repeat (go_big_quiet_step ((go_at_call 76;exact kJ (tK _ _))))
     refine wpQuiet_nil ?_;rintro _ ⟨o,rfl⟩;have a:=(x.out.mJ _).trans' o.h;clear i;go_wp2_with fail;go_roundg 1
     case measure=>omega
     case rel=>exact ⟨3+1,by omega,by omega,by go_num,a,d⟩
   ·subst h;have g:=g.trans (show _=Value.int .i64 4 from rfl);subst g;have F:∀ w,(Instr.index 9 (.string (sB l)) (.int .i64 0)).run prog w= .ok (.int .u8 (l.getD 0 0)) w:=ixc q.out (k:=0) (by omega);have J:∀ w,(Instr.index 9 (.string (sB l)) (.int .i64 1)).run prog w= .ok (.int .u8 (l.getD 1 0)) w:=ixc q.out (k:=1) (by omega);have Q:∀ w,(Instr.index 9 (.string (sB l)) (.int .i64 2)).run prog w= .ok (.int .u8 (l.getD 2 0)) w:=ixc q.out (k:=2) (by omega);have Y:∀ w,(Instr.index 9 (.string (sB l)) (.int .i64 3)).run prog w= .ok (.int .u8 (l.getD 3 0)) w:=ixc q.out (k:=3) (by omega);have y:Hid (rcU l 4=(l.getD 0 0 - 240)*262144+(l.getD 1 0 - 128)*4096+(l.getD 2 0 - 128)*64+l.getD 3 0 - 128):=rfl;have i:∀ w,(Instr.slice 9 (.string (sB l)) none (some (.int .i64 4)) none).run prog w= .ok (.string (sB (l.take 4))) w:=fun w=>Ac w (k:=4) (by omega)
    generalize l.getD 0 0=y0 at*;generalize l.getD 1 0=y1 at*;generalize l.getD 2 0=y2 at*;generalize l.getD 3 0=y3 at*;go_wp2_with fail;go_quiet (fail);go_wp2_with fail;generalize (y0 - 240)*262144+(y1 - 128)*4096+(y2 - 128)*64+y3 - 128=c at*;by_cases j:utfLen c=4
    ·have s:=utf_scal j (by omega);have C:(utfLen c==4)=true:=(by rw [beq_iff_eq];exact j);have b:=yT (Dw s) (wK q.out 4);cases p:decide (enc1 c=l.take 4)
     ·rw [p] at b
      have d:Hid (∀ m,m≠0→m<4+1→m≤l.length→¬ (utfLen (rcU l m)=m∧enc1 (rcU l m)=l.take m)):=ah (fun m r A t f=>by
       by_cases e:m=4
       ·subst e;rw [y.out] at f;exact (decide_eq_false_iff_not.1 p) f.2
       ·exact B.out m r (by omega) t f)
      refine rX' ?_
      repeat (go_big_quiet_step (first
       |(go_at_call 76;exact kJ (tK _ _))
       |(go_at_call 49;exact aN (xU c s _))))
      refine wpQuiet_nil ?_;rintro _ ⟨o,rfl⟩;have a:=(x.out.mJ _).trans' o.h;clear i b;go_wp2_with fail;go_roundg 0
      case measure=>omega
      case rel=>exact ⟨4+1,by omega,by omega,by go_num,a,d⟩
     ·rw [p] at b;have z:Hid (V=(c,4)):=ah (E.out 4 c (by omega) j (of_decide_eq_true p));refine rX' ?_
      repeat (go_big_quiet_step (first
       |(go_at_call 76;exact kJ (tK _ _))
       |(go_at_call 49;exact aN (xU c s _))))
      refine wpQuiet_nil ?_;rintro _ ⟨o,rfl⟩;have a:=(x.out.mJ _).trans' o.h;go_wp2_with fail;go_ret2;exact ⟨by rw [z.out];rfl,a⟩
    ·have C:(utfLen c==4)=false:=by rw [aP];exact j
     have d:Hid (∀ m,m≠0→m<4+1→m≤l.length→¬ (utfLen (rcU l m)=m∧enc1 (rcU l m)=l.take m)):=ah (fun m r A t f=>by
      by_cases e:m=4
      ·subst e;rw [y.out] at f;exact j f.1
      ·exact B.out m r (by omega) t f)
     refine rX' ?_
     repeat (go_big_quiet_step ((go_at_call 76;exact kJ (tK _ _))))
     refine wpQuiet_nil ?_;rintro _ ⟨o,rfl⟩;have a:=(x.out.mJ _).trans' o.h;clear i;go_wp2_with fail;go_roundg 0
     case measure=>omega
     case rel=>exact ⟨4+1,by omega,by omega,by go_num,a,d⟩
  ·subst g
   have z:Hid (V=(0,0)):=ah (by
    refine L.out ?_;by_cases h:V.2=0
    ·exact h
    ·have:=K.out h;have Z:=H.out
     exact absurd this.2 (B.out V.2 h (by omega) H.out))
   have D:=x.out;by_cases r:k≤4
   ·have A:¬ k≤l.length:=(by omega);go_wp2_with fail;go_ret2;exact ⟨by rw [z.out];rfl,D⟩
   ·go_wp2_with fail;go_ret2;exact ⟨by rw [z.out];rfl,D⟩
theorem XV (l:List Int) (E:IsB l) (V:l.length≤1099511600000) (w:World):
 Calls prog 44 #[.string (sB l)] w fun e w'=>∃ A n c,e= .returned (.tuple #[.slice A n c,.int .i64 (jm l).2])∧aC w' ⟨A,n,c⟩ (jm l).1∧Ext w w':=by
 have F:=ah E;clear E;go_enter func44,ntmps44;go_wp2_with fail;go_loopg [4,5] l.length (fun G H I J=>Ue w l G H I J)
 case atStart=>exact ⟨none,0,0,[],by omega,rfl,rfl,Own.nil_ _ _ _ _,Ext.refl _,Nat.le_refl _,ah (by simp)⟩
 case round=>
  obtain ⟨A,c,k,b,R,rfl,rfl,d,z,K,q⟩:=hrel;have B:=ah d;have C:=ah z;clear d z;by_cases S:k<l.length
  ·have s:=Bg (w:=wr) (l:=l) (k:=k) (by omega);go_wp2_with fail;refine (XR (l.drop k) (yR F.out k) (by rw [List.length_drop];omega) wr).mono ?_;rintro e T ⟨rfl,f⟩;have r:=ah (@Ol (l.drop k));have t:=ah (@Ox (l.drop k));have g:=F5 (l.drop k);rw [List.drop_drop] at r;rw [List.length_drop] at g;generalize dN (l.drop k)=p at*;obtain ⟨x,n⟩:=p;simp only at r t g;have h:=ah (C.out.trans' f);have i:=ah (Own.ext B.out f);clear f s;by_cases D:n=0
   ·have j:Hid (jm l=(b,k)):=ah (by rw [q.out,t.out D];simp);have L:((n:Int)==0)=true:=(by rw [beq_iff_eq];omega);go_wp2_with fail;go_ret2;exact ⟨A,_,c,by rw [j.out];rfl,by rw [j.out];exact aK.ints i.out,h.out⟩
   ·have L:((n:Int)==0)=false:=bF';have y:=aI q (show _=((b++[x])++(jm (l.drop (k+n))).1,(k+n:Nat)+(jm (l.drop (k+n))).2) from by rw [r.out D];simp [Nat.add_assoc]);obtain ⟨M,N,U,m,a,o,_⟩:=wU i.out h.out x (by omega);have O:=ah a;have P:=ah o;clear q r t a o;go_wp2_with (at_builtin;refine dL rfl _ _ _ rfl _ _ rfl rfl _ _ m ?_);go_roundg (l.length - (k+n))
    case measure=>omega
    case rel=>exact ⟨M,N,k+n,b++[x],by omega,by simp,by go_num,by simpa using O.out,P.out,by simp;omega,y⟩
  ·have Q:l.drop k=[]:=bW l k (by omega);have j:Hid (jm l=(b,k)):=ah (by rw [q.out,Q];simp [jm,vK]);go_wp2_with fail;go_ret2;exact ⟨A,_,c,by rw [j.out];rfl,by rw [j.out];exact aK.ints B.out,C.out⟩
theorem XZ (l:List Int) (k:IsB l) (w:World):Calls prog 20 #[.string (sB l)] w (Gh w (gW l)):=by
 have a:Hid (gW l=(if 4096<l.length then ([],0,7) else if (jm l).2<l.length then ([],((jm l).2:Int),9) else ((jm l).1,0,0):List Int × Int × Int)):=rfl;generalize gW l=D at*;have o:=ah k;clear k;by_cases b:4096<l.length
 ·rw [if_pos b] at a;go_enter func20,ntmps20;go_wp2_with fail;go_ret3;exact ⟨none,0,0,by rw [a.out];rfl,by rw [a.out];exact aC.nil_ w,Ext.refl _⟩
 rw [if_neg b] at a;go_enter func20,ntmps20;go_wp2_with fail;refine (XV l o.out (by omega) w).mono ?_;rintro e p ⟨A,n,c,rfl,f,g⟩;have h:=ah f;have i:=ah g;clear f g;generalize jm l=d at*;obtain ⟨q,m⟩:=d;simp only at a h;by_cases j:m<l.length
 ·rw [if_pos j] at a;go_wp2_with fail;go_ret3;exact ⟨none,0,0,by rw [a.out];rfl,by rw [a.out];exact aC.nil_ _,i.out⟩
 ·rw [if_neg j] at a;go_wp2_with fail;go_ret3;exact ⟨A,n,c,by rw [a.out];rfl,by rw [a.out];exact h.out,i.out⟩
def XY (w:World) (l:List Int) (g:Nat) (s4 s12:Value) (wx:World):Prop:=
 ∃ k:Nat,g+k=l.length∧s12= .int .i64 k∧s4= .string (sB (mX (l.take k)))∧(mX (l.take k)).length≤4*k∧Ext w wx∧Hid ((l.take k).any (fun c=> !aX c)=false)
theorem J5 (l:List Int) (A:Option Addr) (n c:Nat) (w:World) (z:aC w ⟨A,n,c⟩ l):Calls prog 22 #[.slice A n c] w (yV w (oQ l)):=by
 have g:Hid (oQ l=if 4096<l.length then ([],7) else if l.any (fun c=> !aX c) then ([],3) else (mX l,0)):=rfl;generalize oQ l=D at*;have H:=z.len.1;subst H;have I:=ah z;clear z;by_cases B:4096<l.length
 ·rw [if_pos B] at g;go_enter func22,ntmps22;go_wp2_with fail;go_ret2;exact ⟨by rw [g.out];rfl,Ext.refl _⟩
 rw [if_neg B] at g;go_enter func22,ntmps22;go_wp2_with fail;go_loopg [4,12] l.length (fun J K m L=>XY w l J K m L)
 case atStart=>exact ⟨0,by omega,rfl,rfl,by simp [mX],Ext.refl _,rfl⟩
 case round=>
  obtain ⟨k,Q,rfl,rfl,M,d,h⟩:=hrel;have i:=ah d;clear d;by_cases j:k<l.length
  ·obtain ⟨b,o,N,O⟩:=(I.out.ext i.out).at_ j;subst N;have p:=ah (wV (f:=fun c=> !aX c) j);have q:=ah (anyM (f:=fun c=> !aX c) j);have C:Hid (mX (l.take (k+1))=mX (l.take k)++enc1 l[k]):=ah (by rw [List.take_succ_eq_append_getElem j];unfold mX;rw [List.flatMap_append];simp);generalize l[k]=x at*;go_wp2_with fail;refine (yB _ _).mono ?_;rintro e R ⟨rfl,rfl⟩;cases r:aX x
   ·have s:Hid (D=([],3)):=ah (by rw [g.out,if_pos (q.out (by simp [r]))]);have d:=i.out;go_wp2_with fail;go_ret2;exact ⟨by rw [s.out];rfl,d⟩
   ·have t:Hid ((l.take (k+1)).any (fun c=> !aX c)=false):=ah (by rw [p.out,h.out];simp [r]);have S:=Dk x;have P:=ah (xU x r wr);have F:=Wy wr (a:=mX (l.take k)) (b:=enc1 x) (by omega);generalize mX (l.take k)=E at*;generalize enc1 x=E1 at*;go_wp2_with fail;refine P.out.mono ?_;rintro e T ⟨rfl,y⟩;have d:=i.out.trans' y;go_wp2_with fail;go_roundg (l.length - (k+1))
    case measure=>omega
    case rel=>exact ⟨k+1,by omega,by go_num,by rw [C.out],by rw [C.out,List.length_append];omega,d,t⟩
  ·have G:l.take k=l:=List.take_of_length_le (by omega);rw [G] at h;have s:Hid (D=(mX (l.take k),0)):=ah (by rw [g.out,if_neg (by rw [h.out];simp),G]);have d:=i.out;clear h;go_wp2_with fail;go_ret2;exact ⟨by rw [s.out];rfl,d⟩
theorem VX (l m:List Int) (A:Option Addr) (n c:Nat) (I:Option Addr) (J K:Nat) (w:World) (h:aC w ⟨A,n,c⟩ l) (L:aC w ⟨I,J,K⟩ m):
 Calls prog 222 #[.slice A n c,.slice I J K] w fun e w'=>e= .returned (.bool (jQ l m))∧Ext w w':=by
 obtain ⟨M,_,_⟩:=h.len;obtain ⟨t,_,_⟩:=L.len;subst M t;have N:=ah h;have O:=ah L;by_cases a:l.length=m.length
 ·have P:((l.length:Int) != (m.length:Int))=false:=by rw [a];simp
  have D:=ah a;have Q:Hid ((m.length:Int)=(l.length:Int)):=ah (by rw [a]);clear a;go_enter func222,ntmps222;go_wp2_with fail;go_loopw [13] (fun i wr=>∃ (k:Nat),k≤l.length∧i= .int .i64 k∧Hid (jQ l m=jQ (l.drop k) (m.drop k))∧Ext w wr) (fun i _=>l.length - (intOf i).toNat)
  case atStart=>exact ⟨0,Nat.zero_le _,rfl,rfl,Ext.refl _⟩
  case round=>
   obtain ⟨k,hk,rfl,r,f⟩:=hrel;by_cases j:k<l.length
   ·have g:k<m.length:=(by rw [← D.out];exact j);obtain ⟨b,o,R,E⟩:=(N.out.ext f).at_ j;obtain ⟨S,T,z,F⟩:=(O.out.ext f).at_ g;subst R z;have G:=ah (drop_at l k j);have H:=ah (drop_at m k g);generalize l[k]=x at*;generalize m[k]=y at*;have s:=aI r (show _=(x==y&&jQ (l.drop (k+1)) (m.drop (k+1))) from by rw [G.out,H.out];rfl);clear r G H;have U:∀ B:aj wr,B.w.cell? ⟨b,o+k,none⟩=some (.int .i64 x):=dJ E;have V:∀ B:aj wr,B.w.cell? ⟨S,T+k,none⟩=some (.int .i64 y):=dJ F;have W:=z0' k;have X:(k:Int)<(l.length:Int):=(by omega);have Y:(k:Int)<(m.length:Int):=(by omega);go_wp2_with fail;refine rX' ?_
    repeat (go_big_quiet_step (fail))
    refine wpQuiet_nil ?_;rintro _ ⟨Z,rfl⟩;have q:=f.trans' Z.h;clear U V E F;by_cases d:x=y
    ·have C:(x != y)=false:=(by rw [d];simp);have p:=aI s (show _=jQ (l.drop (k+1)) (m.drop (k+1)) from by rw [d];simp);clear s d;go_wp2_with fail;go_roundw
     case rel=>exact ⟨k+1,by omega,by go_num,p,q⟩
     case measure=>simp [intOf];omega
    ·have C:(x != y)=true:=bN' d;have p:=aI s (show _=false from by rw [beq_eq_false_iff_ne.2 d];rfl);clear s d;go_wp2_with fail;go_ret;exact ⟨aJ p.out.symm,q⟩
   ·have p:=aI r (show _=true from by rw [bW l k (by omega),bW m k (by rw [← D.out];omega)];rfl);clear r;go_wp2_with fail;go_ret;exact ⟨aJ p.out.symm,f⟩
 ·have P:((l.length:Int) != (m.length:Int))=true:=by rw [bne_iff_ne];omega
  have p:=ah (EL l m a);clear a;go_enter func222,ntmps222;go_wp2_with fail;go_ret;exact ⟨aJ p.out.symm,Ext.refl _⟩
def lI (T:ak) (l:List Int):List Int:=if gB T l=0 then LD T l else []
theorem zL {T:ak} {l:List Int} (a:gB T l=0):dI T=true∧(nG T l).length≤4096:=by
 unfold gB at a;by_cases b:bM T l=0
 ·rw [if_neg (by rw [b];simp)] at a;refine ⟨(rH b).1,?_⟩;by_cases c:4096<((nG T l).length:Int)
  ·rw [if_pos c] at a;omega
  ·omega
 ·rw [if_pos b] at a;exact absurd a b
theorem Yt (T:ak) (t:TV) (l:List Int) (A:Option Addr) (n c:Nat) (w:World) (ht:aS w t T) (I:aC w ⟨A,n,c⟩ l):
 Calls prog 98 #[t.v,.slice A n c] w fun e w'=>∃ B m d,e= .returned (.tuple #[.slice B m d,.int .i64 (gB T l)])∧Ext w w'∧aC w' ⟨B,m,d⟩ (lI T l)∧∀ b,aG B=some b→w.heap.size≤b:=by
 have a:=dS w t;have F:=ah (ht.aF a);have J:=ah (I.ext a);clear ht I;go_enter func98,ntmps98;go_wp2_with fail;refine (ZG T t l A n c _ F.out J.out).mono ?_;rintro e G ⟨B,m,d,rfl,i,j⟩;have f:=ah i;have o:=ah j;have M:∀ k:Nat,G.cell? ⟨w.heap.size,k,none⟩=t.v.cells[k]? :=aQ i;clear i j;by_cases g:gB T l=0
 ·have y:(gB T l==0)=true:=by rw [beq_iff_eq];exact g
  have z:Hid (aC G ⟨B,m,d⟩ (nG T l)):=ah (by have:=o.out;rw [vV,if_pos g] at this;exact this);have x:=ah g;have p:=ah (zL g);clear g o;go_wp2_with fail;refine (WS T p.out.1 t (nG T l) B m d _ (F.out.aF f.out) z.out (by have:=p.out.2;omega)).mono ?_;rintro e N ⟨H,K,L,rfl,q,r,s⟩;have C:=ah q;have D:=(a.trans' f.out).trans' r;have E:Hid (∀ b,aG H=some b→w.heap.size≤b):=ah (fun b h=>Nat.le_trans (a.trans' f.out).b.size (s b h));clear q r s;go_wp2_with fail;go_ret2;exact ⟨H,K,L,by rw [x.out];rfl,D,by rw [lI,x.out,if_pos rfl];exact C.out,E.out⟩
 ·have y:(gB T l==0)=false:=by rw [aP];exact g
  have x:=ah g;have D:=a.trans' f.out;clear g;go_wp2_with fail;go_ret2;exact ⟨none,0,0,rfl,D,by rw [lI,if_neg x.out];exact aC.nil_ _,fun b h=>by cases h⟩
theorem UQ (T:ak) (t:TV) (l:List Int) (A:Option Addr) (n c:Nat) (w:World) (ht:aS w t T) (a:aC w ⟨A,n,c⟩ l):
 Calls prog 98 #[t.v,.slice A n c] w fun e w'=>∃ B m d,e= .returned (.tuple #[.slice B m d,.int .i64 (gB T l)])∧Ext w w'∧aC w' ⟨B,m,d⟩ (lI T l):=
 (Yt T t l A n c w ht a).mono fun _ _ ⟨B,m,d,h1,h2,h3,_⟩=>⟨B,m,d,h1,h2,h3⟩
def qg (T:ak) (l:List Int):Bool:=(gB T l==0)&&jQ (lI T l) l
theorem zA' (T:ak) (t:TV) (l:List Int) (A:Option Addr) (n c:Nat) (w:World) (ht:aS w t T) (q:aC w ⟨A,n,c⟩ l):
 Calls prog 191 #[t.v,.slice A n c] w fun e w'=>e= .returned (.bool (qg T l))∧Ext w w':=by
 have a:=dS w t;have r:=ah (ht.aF a);have o:=ah (q.ext a);clear ht q;go_enter func191,ntmps191;go_wp2_with fail;refine (UQ T t l A n c _ r.out o.out).mono ?_;rintro e s ⟨B,m,d,rfl,f,g⟩;have b:=ah f;have h:=ah g;clear f g;cases p:(gB T l==0)
 ·have i:Hid (qg T l=false):=ah (by rw [qg,p];rfl);have j:=a.trans' b.out;go_wp2_with fail;go_ret;exact ⟨aJ i.out.symm,j⟩
 ·have i:Hid (qg T l=jQ (lI T l) l):=ah (by rw [qg,p];rfl);go_wp2_with (go_at_call 222;refine (VX (lI T l) l B m d A n c _ h.out (o.out.ext b.out)).mono ?_;rintro e x ⟨rfl,k⟩);have j:=(a.trans' b.out).trans' k;go_ret;exact ⟨aJ i.out.symm,j⟩
def pF (l:List Int):Bool:=iT l 0 != 45&&iT l ((l.length:Int) - 1) != 45&& !(iT l 2==45&&iT l 3==45)
theorem Ew {l:List Int} {i:Nat} (h:i<l.length):iT l (i:Int)=l[i]:=by rw [iT,if_neg (by omega),if_neg (by omega),Int.toNat_natCast,getD_lt l i 0 h]
theorem Ce {l:List Int} {i:Int} (h:i<0∨(l.length:Int)≤i):iT l i= -1:=by
 unfold iT;by_cases a:i<0
 ·rw [if_pos a]
 ·rw [if_neg a,if_pos (by omega)]
theorem Vf (l:List Int) (A:Option Addr) (n c:Nat) (w:World) (h:aC w ⟨A,n,c⟩ l):
 Calls prog 89 #[.slice A n c] w fun e w'=>e= .returned (.bool (pF l))∧Ext w w':=by
 have r:=ah h;obtain ⟨s,a,f⟩:=h.len;have t:(l.length:Int)≤9223372036854775807:=by omega
 have y:(0:Int)≤(l.length:Int):=bH _;subst s;clear h a f;have b:Hid (∀ (i:Int) (w':World),Ext w w'→Calls prog 124 #[.slice A l.length c,.int .i64 i] w' fun e g=>e= .returned (.int .i64 (iT l i))∧w'=g):=ah (fun i w' h=>II l A _ c i w' (r.out.ext h));have j:=ah (b.out 0);have k:=ah (b.out ((l.length:Int) - 1));have m:=ah (b.out 2);have o:=ah (b.out 3);have d:Hid (pF l=(iT l 0 != 45&&iT l ((l.length:Int) - 1) != 45&& !(iT l 2==45&&iT l 3==45))):=rfl;generalize iT l 0=y0 at j d;generalize iT l ((l.length:Int) - 1)=y1 at k d;generalize iT l 2=y2 at m d;generalize iT l 3=y3 at o d;clear b;cases z:(y0 != 45)<;>cases B:(y1 != 45)<;>cases C:(y2==45)<;>cases D:(y3==45)
 all_goals
  have p:=ah d.out;rw [z,B,C,D] at p;go_enter func89,ntmps89;go_wp2_with fail
  first
   |(refine rX' ?_
     repeat (go_big_quiet_step (first
      |(go_at_call 124;with_reducible exact kJ (j.out _ (aj.h _)))
      |(go_at_call 124;with_reducible exact kJ (k.out _ (aj.h _)))
      |(go_at_call 124;with_reducible exact kJ (m.out _ (aj.h _)))
      |(go_at_call 124;with_reducible exact kJ (o.out _ (aj.h _)))))
     refine wpQuiet_nil ?_;rintro _ ⟨x,rfl⟩;have q:=x.h;go_wp2_with fail;go_ret
     exact ⟨aJ p.out.symm,q⟩)
   |(have q:=Ext.refl w
     repeat (first
      |(with_reducible refine (j.out _ (Ext.refl _)).mono ?_;rintro e w' ⟨rfl,rfl⟩;go_wp2_with fail)
      |(with_reducible refine (k.out _ (Ext.refl _)).mono ?_;rintro e w' ⟨rfl,rfl⟩;go_wp2_with fail)
      |(with_reducible refine (m.out _ (Ext.refl _)).mono ?_;rintro e w' ⟨rfl,rfl⟩;go_wp2_with fail)
      |(with_reducible refine (o.out _ (Ext.refl _)).mono ?_;rintro e w' ⟨rfl,rfl⟩;go_wp2_with fail))
     go_ret
     exact ⟨aJ p.out.symm,q⟩)
theorem Va (l:List Int) (A:Option Addr) (n c:Nat) (w:World) (h:aC w ⟨A,n,c⟩ l):
 Calls prog 192 #[.slice A n c] w fun e w'=>e= .returned (.bool (pF l))∧Ext w w':=by
 have C:=ah h;obtain ⟨P,s,G⟩:=h.len;have Q:(l.length:Int)≤9223372036854775807:=by omega
 subst P;clear h s G;by_cases D:l.length=0
 ·have d:Hid (pF l=true):=ah (by rw [pF,Ce (.inr (by omega)),Ce (.inl (by omega)),Ce (.inr (by omega)),Ce (.inr (by omega))];rfl);have R:(l.length==0)=true:=by rw [beq_iff_eq];exact D
  have S:((l.length:Int)==0)=true:=by rw [beq_iff_eq];omega
  clear D;go_enter func192,ntmps192;go_wp2_with fail
  first
   |(refine rX' ?_
     repeat (go_big_quiet_step (fail))
     refine wpQuiet_nil ?_;rintro _ ⟨x,rfl⟩;have t:=x.h;go_wp2_with fail;go_ret
     exact ⟨aJ d.out.symm,t⟩)
   |(go_ret
     exact ⟨aJ d.out.symm,Ext.refl _⟩)
 obtain ⟨m,J⟩:∃ m,l.length=m+1:=⟨l.length - 1,by omega⟩;have R:(l.length==0)=false:=by rw [aP];exact D
 have S:((l.length:Int)==0)=false:=bF';have y:(l.length:Int) - 1=(m:Int):=by omega
 have f:m<l.length:=by omega
 obtain ⟨b,o,T,K⟩:=C.out.at_ (i:=0) (by omega);subst T;obtain ⟨L,M,a,U⟩:=C.out.at_ (i:=m) f;injection a with a;injection a with z B;subst z B;rw [Nat.add_zero] at K;have N:iT l 0=l[0]:=Ew (i:=0) (by omega);have O:iT l ((l.length:Int) - 1)=l[m]:=by rw [y];exact Ew f
 have E:Hid (pF l=(l[0] != 45&&l[m] != 45&& !(iT l 2==45&&iT l 3==45))):=ah (by rw [pF,N,O]);have V:=z0' m;have W:(m:Int)<(l.length:Int):=by omega
 have X:(0:Int)<(l.length:Int):=by omega
 clear N O D;generalize l[0]=y0 at*;generalize l[m]=y1 at*;have Y:∀ g:aj w,g.w.cell? ⟨b,o,none⟩=some (.int .i64 y0):=dJ K;have Z:∀ g:aj w,g.w.cell? ⟨b,o+m,none⟩=some (.int .i64 y1):=dJ U;by_cases F:l.length<4
 ·have j:Hid (pF l=(y0 != 45&&y1 != 45)):=ah (by rw [E.out,Ce (i:=3) (.inr (by omega)),show ((-1:Int)==45)=false from rfl,Bool.and_false,Bool.not_false,Bool.and_true]);have d1:decide (l.length<4)=true:=decide_eq_true F;have d2:decide ((l.length:Int)<4)=true:=decide_eq_true (by omega);clear E J F f;cases H:(y0 != 45)<;>cases I:(y1 != 45)
  all_goals
   have d:=ah j.out;rw [H,I] at d;go_enter func192,ntmps192;go_wp2_with fail
   first
    |(refine rX' ?_
      repeat (go_big_quiet_step (fail))
      refine wpQuiet_nil ?_;rintro _ ⟨x,rfl⟩;have t:=x.h;go_wp2_with fail;go_ret
      exact ⟨aJ d.out.symm,t⟩)
    |(go_ret
      exact ⟨aJ d.out.symm,Ext.refl _⟩)
 ·have d1:decide (l.length<4)=false:=decide_eq_false F;have d2:decide ((l.length:Int)<4)=false:=decide_eq_false (by omega);have k:2<l.length:=by omega
  have p:3<l.length:=by omega
  obtain ⟨L,M,a,c2⟩:=C.out.at_ (i:=2) k;injection a with a;injection a with z B;subst z B;obtain ⟨L,M,a,c3⟩:=C.out.at_ (i:=3) p;injection a with a;injection a with z B;subst z B;have j:Hid (pF l=(y0 != 45&&y1 != 45&& !(l[2]==45&&l[3]==45))):=ah (by rw [E.out,show iT l 2=l[2] from Ew (i:=2) k,show iT l 3=l[3] from Ew (i:=3) p]);generalize l[2]=y2 at*;generalize l[3]=y3 at*;have a4:∀ g:aj w,g.w.cell? ⟨b,o+2,none⟩=some (.int .i64 y2):=dJ c2;have a5:∀ g:aj w,g.w.cell? ⟨b,o+3,none⟩=some (.int .i64 y3):=dJ c3;have a6:(2:Int)<(l.length:Int):=by omega
  have a7:(3:Int)<(l.length:Int):=by omega
  clear E J F f k p;cases H:(y0 != 45)<;>cases I:(y1 != 45)<;>cases e5:(y2 != 45)<;>cases e6:(y3 != 45)
  all_goals
   have d:=ah j.out;have q:=e5;have r:=e6;simp only [bne,Bool.not_eq_false',Bool.not_eq_true'] at q r;rw [H,I,q,r] at d;clear q r;go_enter func192,ntmps192;go_wp2_with fail
   first
    |(refine rX' ?_
      repeat (go_big_quiet_step (fail))
      refine wpQuiet_nil ?_;rintro _ ⟨x,rfl⟩;have t:=x.h;go_wp2_with fail;go_ret
      exact ⟨aJ d.out.symm,t⟩)
    |(go_ret
      exact ⟨aJ d.out.symm,Ext.refl _⟩)
open Go.ChangeShapes Go.WideShapes Go.ChangeAt Go.RowKit Go.Deep
theorem Iu:prog.cellsOf 73=2:=by kernel_rfl
theorem O8:prog.cellsOf 22=1:=by kernel_rfl
theorem Az:prog.cellsOf 23=1:=by kernel_rfl
theorem EH:prog.cellsOf 24=1:=by kernel_rfl
theorem Xo:prog.cellsOf 26=12:=by kernel_rfl
theorem Ii {α:Type} {Q:Nat→α→Prop}:∀ n:Nat,(∀ i,i<n→∃ x,Q i x)→∃ l:List α,l.length=n∧∀ (i:Nat) x,l[i]? =some x→Q i x
 |0,_=>⟨[],rfl,fun i x h=>by simp at h⟩
 |n+1,h=>by
  obtain ⟨l,b,d⟩:=Ii n fun i c=>h i (by omega)
  obtain ⟨x,f⟩:=h n (by omega);refine ⟨l++[x],by simp [b],fun i y a=> ?_⟩;have c:i<(l++[x]).length:=(List.getElem?_eq_some_iff.1 a).1;rw [List.length_append,List.length_singleton,b] at c;by_cases g:i<n
  ·rw [List.getElem?_append_left (by omega)] at a;exact d i y a
  ·have e:i=l.length:=by omega
   subst e;rw [List.getElem?_append_right (Nat.le_refl _),Nat.sub_self,List.getElem?_cons_zero] at a;injection a with a;subst a;rw [b];exact f
section
variable {H:Type} {enc:TypeId × Value→H} {W:World} {base:Nat} {spare:Nat→Bool} {held:Bool}
theorem NV {n:Nat} {p:List Value} {x:DataW H × List MemPlace} (h:DataW.trod enc prog W base spare held n 66 p=some x):∃ y:Sp,p=[.int .i64 y.lo,.int .i64 y.hi,.int .i64 y.val]:=by
 obtain ⟨a,c,d,g,i,j⟩:∃ a,prog.underlying 66=some (.struct a)∧a[0]?.map (fun f=>(f.type,f.offset))=some (3,0)∧a[1]?.map (fun f=>(f.type,f.offset))=some (3,1)∧a[2]?.map (fun f=>(f.type,f.offset))=some (3,2)∧a.size=3:=⟨_,underlying66,rfl,rfl,rfl,rfl⟩;obtain ⟨r,S,_,T,q,b,k⟩:=DataW.trod_struct c h;rw [AO] at q;rw [j] at b;obtain ⟨s,t,d⟩:=Option.map_eq_some_iff.1 d;obtain ⟨w,z,g⟩:=Option.map_eq_some_iff.1 g;obtain ⟨A,B,i⟩:=Option.map_eq_some_iff.1 i;obtain ⟨C,D⟩:=Prod.mk.inj d;obtain ⟨E,F⟩:=Prod.mk.inj g;obtain ⟨G,I⟩:=Prod.mk.inj i
 match p,q with
 |[c0,c1,c2],_=>
  have l:=k 0 s t;have m:=k 1 w z;have o:=k 2 A B;rw [C,D,xk] at l;rw [E,F,xk] at m;rw [G,I,xk] at o;simp only [List.drop_zero,List.drop_succ_cons,List.take_succ_cons,List.take_zero] at l m o
  match r,b with
  |[y0,y1,y2],_=>
   obtain ⟨J,K,_,_⟩:=DataW.trod_int (x:=y0) underlying3 l;obtain ⟨L,M,_,_⟩:=DataW.trod_int (x:=y1) underlying3 m;obtain ⟨N,O,_,_⟩:=DataW.trod_int (x:=y2) underlying3 o;injection K with P;injection M with Q;injection O with R;exact ⟨⟨J,L,N⟩,by rw [P,Q,R]⟩
theorem Oh {fuel:Nat} {q:List Value} {x:DataW H × List MemPlace} (h:DataW.trod enc prog W base spare held fuel 22 q=some x):∃ A n c l,q=[.slice A n c]∧aC W ⟨A,n,c⟩ l:=by
 rcases open_ints underlying22 underlying3 xk h with ⟨f,r⟩|⟨a,len,s,o,f,_,C,t,w,r,d,y⟩
 ·exact ⟨none,0,0,[],f,aC.nil_ _⟩
 ·have z:len≤o.length:=by rw [w];split<;>omega
  refine ⟨_,_,_,o.take len,f,⟨by simp;omega,by simp;omega,t⟩,fun i x g=> ?_⟩;have B:i<len:=by have:=(List.getElem?_eq_some_iff.1 g).1;simp at this;omega
  have p:=d i (by omega);obtain ⟨b,m,k⟩:=a;have j:k=none:=by simpa [Addr.add] using World.cell?_spot (d 0 (by omega))
  subst j;refine ⟨b,m,rfl,?_⟩;rw [Addr.add_mid] at p;rw [p];rw [List.getElem?_take_of_lt B] at g;simp [List.getD,g]
theorem OZ {n:Nat} {m:List Value} {x:DataW H × List MemPlace} (h:DataW.trod enc prog W base spare held n 73 m=some x):
 ∃ y:Mp,∃ za zn zc,m=[.int .i64 y.lo,.slice za zn zc]∧aC W ⟨za,zn,zc⟩ y.to:=by
 obtain ⟨a,c,d,g,i⟩:∃ a,prog.underlying 73=some (.struct a)∧a[0]?.map (fun f=>(f.type,f.offset))=some (3,0)∧a[1]?.map (fun f=>(f.type,f.offset))=some (22,1)∧a.size=2:=⟨_,underlying73,rfl,rfl,rfl⟩;obtain ⟨q,K,_,L,o,b,p⟩:=DataW.trod_struct c h;rw [Iu] at o;rw [i] at b;obtain ⟨r,s,d⟩:=Option.map_eq_some_iff.1 d;obtain ⟨t,w,g⟩:=Option.map_eq_some_iff.1 g;obtain ⟨z,A⟩:=Prod.mk.inj d;obtain ⟨B,C⟩:=Prod.mk.inj g
 match m,o with
 |[c0,c1],_=>
  have j:=p 0 r s;have k:=p 1 t w;rw [z,A,xk] at j;rw [B,C,O8] at k;simp only [List.drop_zero,List.drop_succ_cons,List.take_succ_cons,List.take_zero] at j k
  match q,b with
  |[y0,y1],_=>
   obtain ⟨D,E,_,_⟩:=DataW.trod_int (x:=y0) underlying3 j;obtain ⟨za,zn,zc,l,F,G⟩:=Oh (x:=y1) k;injection E with I;injection F with J;exact ⟨⟨D,l⟩,za,zn,zc,by rw [I,J],G⟩
theorem AA {fuel:Nat} {K:List Value} {x:DataW H × List MemPlace} (h:DataW.trod enc prog W base spare held fuel 23 K=some x):∃ A n c l,K=[.slice A n c]∧bK W ⟨A,n,c⟩ l:=by
 rcases open_slice underlying23 h with ⟨g,L⟩|⟨a,len,M,m,n,D,T,g,U,N,G,p,L,I⟩
 ·exact ⟨none,0,0,[],g,bK.nil_ _⟩
 ·have O:len≤m:=by rw [p];split<;>omega
  obtain ⟨b,o,P⟩:=a;by_cases q:len=0
  ·subst q;exact ⟨_,_,_,[],g,⟨rfl,by simp,G⟩,fun i x h=>by simp at h⟩
  have r:P=none:=by
   obtain ⟨s,f,j⟩:=I 0 (by omega);obtain ⟨y,t⟩:=NV j;rw [AO] at f;obtain ⟨_,_,d⟩:=World.cells?_some f;rw [t] at d;have J:=d 0 (by omega);simp only [List.getElem?_cons_zero] at J;have Q:=World.cell?_spot J;simpa [Addr.add] using Q
  subst r;have w:∀ i,i<len→∃ y:Sp,W.cell? ⟨b,o+i*3,none⟩=some (.int .i64 y.lo)∧W.cell? ⟨b,o+i*3+1,none⟩=some (.int .i64 y.hi)∧W.cell? ⟨b,o+i*3+2,none⟩=some (.int .i64 y.val):=by
   intro i R;obtain ⟨s,f,j⟩:=I i (by omega);obtain ⟨y,t⟩:=NV j;rw [AO] at f;obtain ⟨_,_,d⟩:=World.cells?_some f;rw [t] at d;have z:=d 0 (by omega);have B:=d 1 (by omega);have C:=d 2 (by omega);simp only [List.getElem?_cons_zero,List.getElem?_cons_succ] at z B C;simp only [Addr.add_mid,Nat.add_zero] at z B C;exact ⟨y,z,B,C⟩
  obtain ⟨l,k,E⟩:=Ii len w;refine ⟨_,_,_,l,g,⟨by rw [k],by rw [k];exact N,G⟩,fun i x F=> ?_⟩;have S:=E i x F;exact ⟨b,o,rfl,S⟩
theorem EJ {fuel:Nat} {N:List Value} {x:DataW H × List MemPlace} (h:DataW.trod enc prog W base spare held fuel 24 N=some x):∃ A n c l,N=[.slice A n c]∧cZ W ⟨A,n,c⟩ l:=by
 rcases open_slice underlying24 h with ⟨g,O⟩|⟨a,len,P,m,n,D,Y,g,Z,Q,K,z,O,L⟩
 ·exact ⟨none,0,0,[],g,cZ.nil_ _⟩
 ·have R:len≤m:=by rw [z];split<;>omega
  obtain ⟨b,o,S⟩:=a;by_cases B:len=0
  ·subst B;exact ⟨_,_,_,[],g,⟨rfl,by simp,K⟩,fun i x h=>by simp at h⟩
  have C:S=none:=by
   obtain ⟨E,f,j⟩:=L 0 (by omega);obtain ⟨y,k,p,q,F,r⟩:=OZ j;rw [Iu] at f;obtain ⟨_,_,d⟩:=World.cells?_some f;rw [F] at d;have M:=d 0 (by omega);simp only [List.getElem?_cons_zero] at M;have T:=World.cell?_spot M;simpa [Addr.add] using T
  subst C;have G:∀ i,i<len→∃ y:Mp,∃ k p q,W.cell? ⟨b,o+i*2,none⟩=some (.int .i64 y.lo)∧W.cell? ⟨b,o+i*2+1,none⟩=some (.slice k p q)∧aC W ⟨k,p,q⟩ y.to:=by
   intro i U;obtain ⟨E,f,j⟩:=L i (by omega);obtain ⟨y,k,p,q,F,r⟩:=OZ j;rw [Iu] at f;obtain ⟨_,_,d⟩:=World.cells?_some f;rw [F] at d;have s:=d 0 (by omega);have t:=d 1 (by omega);simp only [List.getElem?_cons_zero,List.getElem?_cons_succ] at s t;simp only [Addr.add_mid,Nat.add_zero] at s t;exact ⟨y,k,p,q,s,t,r⟩
  obtain ⟨l,w,I⟩:=Ii len G;refine ⟨_,_,_,l,g,⟨by rw [w],by rw [w];exact Q,K⟩,fun i x J=> ?_⟩;have V:=I i x J;obtain ⟨k,p,q,s,t,X⟩:=V;exact ⟨b,o,k,p,q,rfl,s,t,X⟩
theorem V7 {v:Value} {d:DataW H} {p:List MemPlace} {r:Reach} {s:Nat}
 (hv:Value.okWide prog W r s 26 v) (hg:Glob W) (h:DataW.Trod enc prog W 0 spare held 26 v d p):∃ (t:TV) (T:ak),v=t.v∧aS W t T:=by
 obtain ⟨a,n,I,J,K,L,M,N,O,P,Q,R,j,k,S⟩:∃ a,prog.underlying 26=some (.struct a)∧a[0]?.map (fun f=>(f.type,f.offset))=some (23,0)∧a[1]?.map (fun f=>(f.type,f.offset))=some (23,1)∧a[2]?.map (fun f=>(f.type,f.offset))=some (23,2)∧a[3]?.map (fun f=>(f.type,f.offset))=some (23,3)∧a[4]?.map (fun f=>(f.type,f.offset))=some (23,4)∧a[5]?.map (fun f=>(f.type,f.offset))=some (23,5)∧a[6]?.map (fun f=>(f.type,f.offset))=some (23,6)∧a[7]?.map (fun f=>(f.type,f.offset))=some (24,7)∧a[8]?.map (fun f=>(f.type,f.offset))=some (24,8)∧a[9]?.map (fun f=>(f.type,f.offset))=some (24,9)∧a[10]?.map (fun f=>(f.type,f.offset))=some (22,10)∧a[11]?.map (fun f=>(f.type,f.offset))=some (24,11)∧a.size=12:=⟨_,underlying26,rfl,rfl,rfl,rfl,rfl,rfl,rfl,rfl,rfl,rfl,rfl,rfl,rfl⟩;unfold Value.okWide at hv;rw [n] at hv;obtain ⟨U,rfl,V,_⟩:=hv;obtain ⟨b1,X⟩:=h;obtain ⟨xs,c,_,hx,w,o,b⟩:=DataW.trod_struct n X;rw [Xo] at w;rw [S] at o;obtain ⟨f0,q0,I⟩:=Option.map_eq_some_iff.1 I;obtain ⟨t0,o0⟩:=Prod.mk.inj I;have x:=b 0 f0 q0;rw [t0,o0,Az] at x;obtain ⟨f1,q1,J⟩:=Option.map_eq_some_iff.1 J;obtain ⟨t1,o1⟩:=Prod.mk.inj J;have y:=b 1 f1 q1;rw [t1,o1,Az] at y;obtain ⟨f2,q2,K⟩:=Option.map_eq_some_iff.1 K;obtain ⟨t2,o2⟩:=Prod.mk.inj K;have z:=b 2 f2 q2;rw [t2,o2,Az] at z;obtain ⟨f3,q3,L⟩:=Option.map_eq_some_iff.1 L;obtain ⟨t3,o3⟩:=Prod.mk.inj L;have A:=b 3 f3 q3;rw [t3,o3,Az] at A;obtain ⟨f4,q4,M⟩:=Option.map_eq_some_iff.1 M;obtain ⟨t4,o4⟩:=Prod.mk.inj M;have B:=b 4 f4 q4;rw [t4,o4,Az] at B;obtain ⟨f5,q5,N⟩:=Option.map_eq_some_iff.1 N;obtain ⟨t5,o5⟩:=Prod.mk.inj N;have C:=b 5 f5 q5;rw [t5,o5,Az] at C;obtain ⟨f6,q6,O⟩:=Option.map_eq_some_iff.1 O;obtain ⟨t6,o6⟩:=Prod.mk.inj O;have D:=b 6 f6 q6;rw [t6,o6,Az] at D;obtain ⟨f7,q7,P⟩:=Option.map_eq_some_iff.1 P;obtain ⟨t7,o7⟩:=Prod.mk.inj P;have E:=b 7 f7 q7;rw [t7,o7,EH] at E;obtain ⟨f8,q8,Q⟩:=Option.map_eq_some_iff.1 Q;obtain ⟨t8,o8⟩:=Prod.mk.inj Q;have F:=b 8 f8 q8;rw [t8,o8,EH] at F;obtain ⟨f9,q9,R⟩:=Option.map_eq_some_iff.1 R;obtain ⟨t9,o9⟩:=Prod.mk.inj R;have G:=b 9 f9 q9;rw [t9,o9,EH] at G;obtain ⟨Y,Z,j⟩:=Option.map_eq_some_iff.1 j;obtain ⟨aa,ab⟩:=Prod.mk.inj j;have g:=b 10 Y Z;rw [aa,ab,O8] at g;obtain ⟨ac,ad,k⟩:=Option.map_eq_some_iff.1 k;obtain ⟨ae,af⟩:=Prod.mk.inj k;have i:=b 11 ac ad;rw [ae,af,EH] at i;clear b;obtain ⟨q⟩:=U;replace w:q.length=12:=w
 match q,w with
 |[c0,c1,c2,c3,c4,c5,c6,c7,c8,c9,c10,c11],_=>
  match xs,o with
  |[y0,y1,y2,y3,y4,y5,y6,y7,y8,y9,y10,y11],_=>
   replace x:DataW.trod enc prog W 0 spare held c 23 [c0]=some y0:=x;obtain ⟨a0,n0,z0,l0,e0,g0⟩:=AA x;injection e0 with e0 _;subst e0;replace y:DataW.trod enc prog W 0 spare held c 23 [c1]=some y1:=y;obtain ⟨a1,n1,z1,l1,e1,g1⟩:=AA y;injection e1 with e1 _;subst e1;replace z:DataW.trod enc prog W 0 spare held c 23 [c2]=some y2:=z;obtain ⟨a2,n2,z2,l2,e2,g2⟩:=AA z;injection e2 with e2 _;subst e2;replace A:DataW.trod enc prog W 0 spare held c 23 [c3]=some y3:=A;obtain ⟨a3,n3,z3,l3,e3,g3⟩:=AA A;injection e3 with e3 _;subst e3;replace B:DataW.trod enc prog W 0 spare held c 23 [c4]=some y4:=B;obtain ⟨a4,n4,z4,l4,e4,g4⟩:=AA B;injection e4 with e4 _;subst e4;replace C:DataW.trod enc prog W 0 spare held c 23 [c5]=some y5:=C;obtain ⟨a5,n5,z5,l5,e5,g5⟩:=AA C;injection e5 with e5 _;subst e5;replace D:DataW.trod enc prog W 0 spare held c 23 [c6]=some y6:=D;obtain ⟨a6,n6,z6,l6,e6,g6⟩:=AA D;injection e6 with e6 _;subst e6;replace E:DataW.trod enc prog W 0 spare held c 24 [c7]=some y7:=E;obtain ⟨a7,n7,z7,l7,e7,g7⟩:=EJ E;injection e7 with e7 _;subst e7;replace F:DataW.trod enc prog W 0 spare held c 24 [c8]=some y8:=F;obtain ⟨a8,n8,z8,l8,e8,g8⟩:=EJ F;injection e8 with e8 _;subst e8;replace G:DataW.trod enc prog W 0 spare held c 24 [c9]=some y9:=G;obtain ⟨a9,n9,z9,l9,e9,g9⟩:=EJ G;injection e9 with e9 _;subst e9;replace g:DataW.trod enc prog W 0 spare held c 22 [c10]=some y10:=g;obtain ⟨aw,ax,ay,az,l,aD⟩:=Oh g;injection l with l _;subst l;replace i:DataW.trod enc prog W 0 spare held c 24 [c11]=some y11:=i;obtain ⟨aE,aL,aM,aR,m,aU⟩:=EJ i;injection m with m _;subst m;exact ⟨⟨⟨a0,n0,z0⟩,⟨a1,n1,z1⟩,⟨a2,n2,z2⟩,⟨a3,n3,z3⟩,⟨a4,n4,z4⟩,⟨a5,n5,z5⟩,⟨a6,n6,z6⟩,⟨a7,n7,z7⟩,⟨a8,n8,z8⟩,⟨a9,n9,z9⟩,⟨aw,ax,ay⟩,⟨aE,aL,aM⟩⟩,⟨l0,l1,l2,l3,l4,l5,l6,l7,l8,l9,az,aR⟩,rfl,⟨g0,g1,g2,g3,g4,g5,g6,g7,g8,g9,aD,aU,hg⟩⟩
end
end Go.Proofs.YtjccgagakfndpaaGreatDoor
