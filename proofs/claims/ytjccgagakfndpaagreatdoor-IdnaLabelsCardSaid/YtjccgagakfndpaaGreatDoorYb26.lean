/- Part Yb26. -/
import Derived.Test.YtjccgagakfndpaaGreatDoorYb25
open Go.Proofs.Tryz
namespace Go.Proofs.YtjccgagakfndpaaGreatDoor
set_option maxHeartbeats 25600000
set_option maxRecDepth 100000
open Go.RowKit
theorem a9P (c:Int) (w:World):Calls prog 76 #[.int .i64 c] w fun e w'=>e= .returned (.int .i64 (utfLen c))∧w=w':=by
 cases a:bD c
 ·have H:=aW0 a;clear a;go_enter func76,ntmps76;go_wp2_with (go_at_call 48;refine (jE _ _).mono ?_;rintro e w' ⟨rfl,rfl⟩;rw [H.out])
  all_goals (go_ret;refine ⟨aY ?_,rfl⟩;simp [utfLen,H.out])
 ·have H:=aW0 a;clear a;go_enter func76,ntmps76;go_wp2_with (go_at_call 48;refine (jE _ _).mono ?_;rintro e w' ⟨rfl,rfl⟩;rw [H.out])
  all_goals (go_ret;refine ⟨aY ?_,rfl⟩;simp [utfLen,H.out];try omega)
theorem a9S (w:World) (cs:Array Value) (l:List Int) (m:Nat) (a:l.length=m) (b:cs=(l.map (Value.int .u8)).toArray) (c:m≤4096):
 (convert 38 9 (.slice (some ⟨w.heap.size,0,none⟩) m m)).run prog (w.alloc (.cells cs 5))= .ok (.string (sB l)) (w.alloc (.cells cs 5)):=by
 subst a;exact a0k (a0l w cs l b c)
theorem a9Q (x:Int) (f:bD x=true) (w:World):Calls prog 49 #[.int .i64 x] w fun e w'=>e= .returned (.string (sB (enc1 x)))∧Ext w w':=by
 have j:=a4r f;have a:utfLen x=if x≤127 then 1 else if x≤2047 then 2 else if x≤65535 then 3 else 4:=by unfold utfLen;rw [f];simp
 have b:Hid (enc1 x=if x≤127 then [x] else if x≤2047 then [192+x / 64,128+x % 64] else if x≤65535 then [224+x / 4096,128+x / 64 % 64,128+x % 64] else [240+x / 262144,128+x / 4096 % 64,128+x / 64 % 64,128+x % 64]):=rfl;clear f;generalize enc1 x=E at*;have d:=fun cs=>(Ext.refl w).aB (.cells cs 5)
 go_enter func49,ntmps49;go_wp2_with fail;refine (a9P _ _).mono ?_;rintro e w' ⟨rfl,rfl⟩;by_cases g:x≤127
 ·rw [if_pos g] at a b;rw [a];have c:=a9S w #[.int .u8 x] [x] 1 rfl rfl (by omega);go_wp2_with fail;go_ret;exact ⟨by rw [b.out];rfl,d _⟩
 rw [if_neg g] at a b;by_cases h:x≤2047
 ·rw [if_pos h] at a b;rw [a];have c:=a9S w #[.int .u8 (192+x / 64),.int .u8 (128+x % 64)] [192+x / 64,128+x % 64] 2 rfl rfl (by omega);go_wp2_with fail;go_ret;exact ⟨by rw [b.out];rfl,d _⟩
 rw [if_neg h] at a b;by_cases i:x≤65535
 ·rw [if_pos i] at a b;rw [a];have c:=a9S w #[.int .u8 (224+x / 4096),.int .u8 (128+x / 64 % 64),.int .u8 (128+x % 64)] [224+x / 4096,128+x / 64 % 64,128+x % 64] 3 rfl rfl (by omega);go_wp2_with fail;go_ret;exact ⟨by rw [b.out];rfl,d _⟩
 ·rw [if_neg i] at a b;rw [a];have c:=a9S w #[.int .u8 (240+x / 262144),.int .u8 (128+x / 4096 % 64),.int .u8 (128+x / 64 % 64),.int .u8 (128+x % 64)] [240+x / 262144,128+x / 4096 % 64,128+x / 64 % 64,128+x % 64] 4 rfl rfl (by omega);go_wp2_with fail;go_ret;exact ⟨by rw [b.out];rfl,d _⟩
def rcU (l:List Int) (n:Nat):Int:=
 if n=1 then l.getD 0 0 else if n=2 then (l.getD 0 0 - 192)*64+l.getD 1 0 - 128 else if n=3 then (l.getD 0 0 - 224)*4096+(l.getD 1 0 - 128)*64+l.getD 2 0 - 128
 else (l.getD 0 0 - 240)*262144+(l.getD 1 0 - 128)*4096+(l.getD 2 0 - 128)*64+l.getD 3 0 - 128
theorem utf_scal {c n:Int} (h:utfLen c=n) (b:n≠0):bD c=true:=by
 cases a:bD c
 ·exact absurd ((utfLen_eq_zero c).2 a) (by rw [h];exact b)
 ·rfl
theorem a9R {l:List Int} {n:Nat} {c:Int} (g:n≠0) (d:utfLen c=n) (b:enc1 c=l.take n):a3b l=(c,n):=by
 have a:=utf_scal d (by omega);have h:=a4m a (l.drop n);have f:=a5Q a;rw [b,List.take_append_drop] at h;rw [h,← b];congr 1;omega
theorem a9T {l:List Int} (o:IsB l) (h:(a3b l).2≠0):(a3b l).2≤4∧utfLen (rcU l (a3b l).2)=(a3b l).2∧enc1 (rcU l (a3b l).2)=l.take (a3b l).2:=by
 have key:∀ (n:Nat) (c:Int),n≠0→n≤4→a3b l=(c,n)→c=rcU l n→utfLen c=n→enc1 c=l.take n→(a3b l).2≤4∧utfLen (rcU l (a3b l).2)=(a3b l).2∧enc1 (rcU l (a3b l).2)=l.take (a3b l).2:=by
  intro n c B p z f g A;rw [z];subst f;exact ⟨p,g,A⟩
 match l,o,h,key with
 |[],_,h,_=>simp [a3b] at h
 |a::r,o,h,key=>
  have C:=o a (by simp);have D:(a::r).getD 0 0=a:=rfl;by_cases i:a≤127
  ·have g:utfLen a=1:=by
    unfold utfLen;have:bD a=true:=by simp [bD];omega
    rw [this];simp [i]
   exact key 1 a (by omega) (by omega) (by simp [a3b,i]) rfl g (by simp [enc1,i])
  by_cases j:192≤a∧a≤223
  ·match r,o,h,key with
   |[],_,h,_=>simp [a3b,i,j] at h
   |b::r,o,h,key=>
    by_cases f:a3a b=true∧utfLen ((a - 192)*64+(b - 128))=2
    ·have s:=f.1;simp only [a3a,aYr,aYu] at s;have w:=a4r (utf_scal f.2 (by omega));have g:=f.2;have t:¬ (a - 192)*64+(b - 128)≤127:=by
      intro k;unfold utfLen at g;rw [utf_scal f.2 (by omega)] at g;simp [k] at g
     refine key 2 ((a - 192)*64+(b - 128)) (by omega) (by omega) (by simp only [a3b];rw [if_neg i,if_pos j,if_pos f]) ?_ f.2 ?_
     ·show _=(a - 192)*64+b - 128
      omega
     ·unfold enc1;rw [if_neg t,if_pos (by omega)];show _=[a,b]
      congr 1
      ·omega
      ·congr 1;omega
    ·simp only [a3b] at h;rw [if_neg i,if_pos j,if_neg f] at h;exact absurd rfl h
  by_cases m:224≤a∧a≤239
  ·match r,o,h,key with
   |[],_,h,_=>simp [a3b,i,j,m] at h
   |[b],_,h,_=>simp [a3b,i,j,m] at h
   |b::c::r,o,h,key=>
    by_cases f:a3a b=true∧a3a c=true∧utfLen (((a - 224)*64+(b - 128))*64+(c - 128))=3
    ·have s:=f.1;have q:=f.2.1;simp only [a3a,aYr,aYu] at s q;have g:=f.2.2;have w:=utf_scal g (by omega);have t:¬ ((a - 224)*64+(b - 128))*64+(c - 128)≤2047:=by
      intro k;unfold utfLen at g;rw [w] at g;by_cases x:((a - 224)*64+(b - 128))*64+(c - 128)≤127<;>simp [x,k] at g
     refine key 3 (((a - 224)*64+(b - 128))*64+(c - 128)) (by omega) (by omega) (by simp only [a3b];rw [if_neg i,if_neg j,if_pos m,if_pos f]) ?_ g ?_
     ·show _=(a - 224)*4096+(b - 128)*64+c - 128
      omega
     ·unfold enc1;rw [if_neg (by omega),if_neg t,if_pos (by omega)];show _=[a,b,c]
      congr 1
      ·omega
      ·congr 1
       ·omega
       ·congr 1;omega
    ·simp only [a3b] at h;rw [if_neg i,if_neg j,if_pos m,if_neg f] at h;exact absurd rfl h
  by_cases p:240≤a∧a≤247
  ·match r,o,h,key with
   |[],_,h,_=>simp [a3b,i,j,m,p] at h
   |[b],_,h,_=>simp [a3b,i,j,m,p] at h
   |[b,c],_,h,_=>simp [a3b,i,j,m,p] at h
   |b::c::d::r,o,h,key=>
    by_cases f:a3a b=true∧a3a c=true∧a3a d=true∧utfLen ((((a - 240)*64+(b - 128))*64+(c - 128))*64+(d - 128))=4
    ·have s:=f.1;have q:=f.2.1;have y:=f.2.2.1;simp only [a3a,aYr,aYu] at s q y;have g:=f.2.2.2;have w:=utf_scal g (by omega);have t:¬ (((a - 240)*64+(b - 128))*64+(c - 128))*64+(d - 128)≤65535:=by
      intro k;unfold utfLen at g;rw [w] at g;by_cases x:(((a - 240)*64+(b - 128))*64+(c - 128))*64+(d - 128)≤127
      ·simp [x] at g
      ·by_cases h6:(((a - 240)*64+(b - 128))*64+(c - 128))*64+(d - 128)≤2047<;>simp [x,h6,k] at g
     refine key 4 ((((a - 240)*64+(b - 128))*64+(c - 128))*64+(d - 128)) (by omega) (by omega) (by simp only [a3b];rw [if_neg i,if_neg j,if_neg m,if_pos p,if_pos f]) ?_ g ?_
     ·show _=(a - 240)*262144+(b - 128)*4096+(c - 128)*64+d - 128
      omega
     ·unfold enc1;rw [if_neg (by omega),if_neg (by omega),if_neg t];show _=[a,b,c,d]
      congr 1
      ·omega
      ·congr 1
       ·omega
       ·congr 1
        ·omega
        ·congr 1;omega
    ·simp only [a3b] at h;rw [if_neg i,if_neg j,if_neg m,if_pos p,if_neg f] at h;exact absurd rfl h
  ·have:a3b (a::r)=(0,0):=by simp [a3b,i,j,m,p]
   rw [this] at h;exact absurd rfl h
theorem a9m (l:List Int):(a3b l).2=0→a3b l=(0,0):=by
 unfold a3b
 repeat' split
 all_goals (intro h;first|rfl|(simp at h))
theorem a9k {c:Int} (h:bD c=true):IsB (enc1 c):=by
 have b:=a4r h;intro x a;unfold enc1 at a
 repeat' split at a
 all_goals (simp only [List.mem_cons,List.not_mem_nil,or_false] at a;omega)
def a9d (w:World) (l:List Int) (g:Nat) (s4:Value) (wx:World):Prop:=
 ∃ k:Nat,g+k=5∧1≤k∧s4= .int .i64 k∧Ext w wx∧Hid (∀ m,m≠0→m<k→m≤l.length→¬ (utfLen (rcU l m)=m∧enc1 (rcU l m)=l.take m))
theorem a9c (l:List Int) (E:IsB l) (R:l.length≤1099511627776) (w:World):
 Calls prog 70 #[.string (sB l)] w fun e w'=>e= .returned (.tuple #[.int .i64 (a3b l).1,.int .i64 (a3b l).2])∧Ext w w':=by
 have p:=aW0 E;have I:=aW0 (a9T E);have C:=aW0 (fun n c=> @a9R l n c);have F:=aW0 (a4q l);generalize G:a3b l=V at*;have J:Hid (V.2=0→V=(0,0)):=aW0 (by subst G;exact a9m l);clear E G;go_enter func70,ntmps70;go_wp2_with fail;go_loopg [4] 4 (fun gh s4 wx=>a9d w l gh s4 wx)
 case atStart=>exact ⟨1,by omega,by omega,rfl,Ext.refl _,aW0 (fun m q y=>by omega)⟩
 case round=>
  obtain ⟨k,hg,K,f,B,z⟩:=hrel;have s:=aW0 B;clear B;by_cases M:k≤4∧k≤l.length
  ·have b0:=a9U p.out 0;have b1:=a9U p.out 1;have N:=a9U p.out 2;have O:=a9U p.out 3;rcases (show k=1∨k=2∨k=3∨k=4 by omega) with h|h|h|h
   ·subst h;have f:=f.trans (show _=Value.int .i64 1 from rfl);subst f;have D:∀ w,(Instr.index 9 (.string (sB l)) (.int .i64 0)).run prog w= .ok (.int .u8 (l.getD 0 0)) w:=ixc p.out (k:=0) (by omega);have t:Hid (rcU l 1=l.getD 0 0):=rfl;have g:∀ w,(Instr.slice 9 (.string (sB l)) none (some (.int .i64 1)) none).run prog w= .ok (.string (sB (l.take 1))) w:=fun w=>a2j w (k:=1) (by omega)
    generalize l.getD 0 0=y0 at*;go_wp2_with fail;generalize y0=c at*;by_cases i:utfLen c=1
    ·have r:=utf_scal i (by omega);have A:(utfLen c==1)=true:=by rw [beq_iff_eq];exact i
     have b:=a3Z (a9k r) (a0o p.out 1);cases o:decide (enc1 c=l.take 1)
     ·rw [o] at b
      have d:Hid (∀ m,m≠0→m<1+1→m≤l.length→¬ (utfLen (rcU l m)=m∧enc1 (rcU l m)=l.take m)):=aW0 (fun m q y h3 h4=>by
       by_cases e:m=1
       ·subst e;rw [t.out] at h4;exact (decide_eq_false_iff_not.1 o) h4.2
       ·exact z.out m q (by omega) h3 h4)
      refine rX' ?_
      repeat (go_big_quiet_step (first
       |(go_at_call 76;exact gK (a9P _ _))
       |(go_at_call 49;exact aC (a9Q c r _))))
      refine wpQuiet_nil ?_;rintro _ ⟨j,rfl⟩;have a:=s.out.trans' j.h;clear g b;go_wp2_with fail;go_roundg 3
      case measure=>omega
      case rel=>exact ⟨1+1,by omega,by omega,by go_num,a,d⟩
     ·rw [o] at b;have x:Hid (V=(c,1)):=aW0 (C.out 1 c (by omega) i (of_decide_eq_true o));refine rX' ?_
      repeat (go_big_quiet_step (first
       |(go_at_call 76;exact gK (a9P _ _))
       |(go_at_call 49;exact aC (a9Q c r _))))
      refine wpQuiet_nil ?_;rintro _ ⟨j,rfl⟩;have a:=s.out.trans' j.h;go_wp2_with fail;go_ret2;exact ⟨by rw [x.out];rfl,a⟩
    ·have A:(utfLen c==1)=false:=by rw [aYs];exact i
     have d:Hid (∀ m,m≠0→m<1+1→m≤l.length→¬ (utfLen (rcU l m)=m∧enc1 (rcU l m)=l.take m)):=aW0 (fun m q y h3 h4=>by
      by_cases e:m=1
      ·subst e;rw [t.out] at h4;exact i h4.1
      ·exact z.out m q (by omega) h3 h4)
     refine rX' ?_
     repeat (go_big_quiet_step ((go_at_call 76;exact gK (a9P _ _))))
     refine wpQuiet_nil ?_;rintro _ ⟨j,rfl⟩;have a:=s.out.trans' j.h;clear g;go_wp2_with fail;go_roundg 3
     case measure=>omega
     case rel=>exact ⟨1+1,by omega,by omega,by go_num,a,d⟩
   ·subst h;have f:=f.trans (show _=Value.int .i64 2 from rfl);subst f;have D:∀ w,(Instr.index 9 (.string (sB l)) (.int .i64 0)).run prog w= .ok (.int .u8 (l.getD 0 0)) w:=ixc p.out (k:=0) (by omega);have H:∀ w,(Instr.index 9 (.string (sB l)) (.int .i64 1)).run prog w= .ok (.int .u8 (l.getD 1 0)) w:=ixc p.out (k:=1) (by omega);have t:Hid (rcU l 2=(l.getD 0 0 - 192)*64+l.getD 1 0 - 128):=rfl;have g:∀ w,(Instr.slice 9 (.string (sB l)) none (some (.int .i64 2)) none).run prog w= .ok (.string (sB (l.take 2))) w:=fun w=>a2j w (k:=2) (by omega)
    generalize l.getD 0 0=y0 at*;generalize l.getD 1 0=y1 at*;go_wp2_with fail;go_quiet (fail);go_wp2_with fail;generalize (y0 - 192)*64+y1 - 128=c at*;by_cases i:utfLen c=2
    ·have r:=utf_scal i (by omega);have A:(utfLen c==2)=true:=by rw [beq_iff_eq];exact i
     have b:=a3Z (a9k r) (a0o p.out 2);cases o:decide (enc1 c=l.take 2)
     ·rw [o] at b
      have d:Hid (∀ m,m≠0→m<2+1→m≤l.length→¬ (utfLen (rcU l m)=m∧enc1 (rcU l m)=l.take m)):=aW0 (fun m q y h3 h4=>by
       by_cases e:m=2
       ·subst e;rw [t.out] at h4;exact (decide_eq_false_iff_not.1 o) h4.2
       ·exact z.out m q (by omega) h3 h4)
      refine rX' ?_
      repeat (go_big_quiet_step (first
       |(go_at_call 76;exact gK (a9P _ _))
       |(go_at_call 49;exact aC (a9Q c r _))))
      refine wpQuiet_nil ?_;rintro _ ⟨j,rfl⟩;have a:=(s.out.MS _).trans' j.h;clear g b;go_wp2_with fail;go_roundg 2
      case measure=>omega
      case rel=>exact ⟨2+1,by omega,by omega,by go_num,a,d⟩
     ·rw [o] at b;have x:Hid (V=(c,2)):=aW0 (C.out 2 c (by omega) i (of_decide_eq_true o));refine rX' ?_
      repeat (go_big_quiet_step (first
       |(go_at_call 76;exact gK (a9P _ _))
       |(go_at_call 49;exact aC (a9Q c r _))))
      refine wpQuiet_nil ?_;rintro _ ⟨j,rfl⟩;have a:=(s.out.MS _).trans' j.h;go_wp2_with fail;go_ret2;exact ⟨by rw [x.out];rfl,a⟩
    ·have A:(utfLen c==2)=false:=by rw [aYs];exact i
     have d:Hid (∀ m,m≠0→m<2+1→m≤l.length→¬ (utfLen (rcU l m)=m∧enc1 (rcU l m)=l.take m)):=aW0 (fun m q y h3 h4=>by
      by_cases e:m=2
      ·subst e;rw [t.out] at h4;exact i h4.1
      ·exact z.out m q (by omega) h3 h4)
     refine rX' ?_
     repeat (go_big_quiet_step ((go_at_call 76;exact gK (a9P _ _))))
     refine wpQuiet_nil ?_;rintro _ ⟨j,rfl⟩;have a:=(s.out.MS _).trans' j.h;clear g;go_wp2_with fail;go_roundg 2
     case measure=>omega
     case rel=>exact ⟨2+1,by omega,by omega,by go_num,a,d⟩
   ·subst h;have f:=f.trans (show _=Value.int .i64 3 from rfl);subst f;have D:∀ w,(Instr.index 9 (.string (sB l)) (.int .i64 0)).run prog w= .ok (.int .u8 (l.getD 0 0)) w:=ixc p.out (k:=0) (by omega);have H:∀ w,(Instr.index 9 (.string (sB l)) (.int .i64 1)).run prog w= .ok (.int .u8 (l.getD 1 0)) w:=ixc p.out (k:=1) (by omega);have L:∀ w,(Instr.index 9 (.string (sB l)) (.int .i64 2)).run prog w= .ok (.int .u8 (l.getD 2 0)) w:=ixc p.out (k:=2) (by omega);have t:Hid (rcU l 3=(l.getD 0 0 - 224)*4096+(l.getD 1 0 - 128)*64+l.getD 2 0 - 128):=rfl;have g:∀ w,(Instr.slice 9 (.string (sB l)) none (some (.int .i64 3)) none).run prog w= .ok (.string (sB (l.take 3))) w:=fun w=>a2j w (k:=3) (by omega)
    generalize l.getD 0 0=y0 at*;generalize l.getD 1 0=y1 at*;generalize l.getD 2 0=y2 at*;go_wp2_with fail;go_quiet (fail);go_wp2_with fail;generalize (y0 - 224)*4096+(y1 - 128)*64+y2 - 128=c at*;by_cases i:utfLen c=3
    ·have r:=utf_scal i (by omega);have A:(utfLen c==3)=true:=by rw [beq_iff_eq];exact i
     have b:=a3Z (a9k r) (a0o p.out 3);cases o:decide (enc1 c=l.take 3)
     ·rw [o] at b
      have d:Hid (∀ m,m≠0→m<3+1→m≤l.length→¬ (utfLen (rcU l m)=m∧enc1 (rcU l m)=l.take m)):=aW0 (fun m q y h3 h4=>by
       by_cases e:m=3
       ·subst e;rw [t.out] at h4;exact (decide_eq_false_iff_not.1 o) h4.2
       ·exact z.out m q (by omega) h3 h4)
      refine rX' ?_
      repeat (go_big_quiet_step (first
       |(go_at_call 76;exact gK (a9P _ _))
       |(go_at_call 49;exact aC (a9Q c r _))))
      refine wpQuiet_nil ?_;rintro _ ⟨j,rfl⟩;have a:=(s.out.MS _).trans' j.h;clear g b;go_wp2_with fail;go_roundg 1
      case measure=>omega
      case rel=>exact ⟨3+1,by omega,by omega,by go_num,a,d⟩
     ·rw [o] at b;have x:Hid (V=(c,3)):=aW0 (C.out 3 c (by omega) i (of_decide_eq_true o));refine rX' ?_
      repeat (go_big_quiet_step (first
       |(go_at_call 76;exact gK (a9P _ _))
       |(go_at_call 49;exact aC (a9Q c r _))))
      refine wpQuiet_nil ?_;rintro _ ⟨j,rfl⟩;have a:=(s.out.MS _).trans' j.h;go_wp2_with fail;go_ret2;exact ⟨by rw [x.out];rfl,a⟩
    ·have A:(utfLen c==3)=false:=by rw [aYs];exact i
     have d:Hid (∀ m,m≠0→m<3+1→m≤l.length→¬ (utfLen (rcU l m)=m∧enc1 (rcU l m)=l.take m)):=aW0 (fun m q y h3 h4=>by
      by_cases e:m=3
      ·subst e;rw [t.out] at h4;exact i h4.1
      ·exact z.out m q (by omega) h3 h4)
     refine rX' ?_
     repeat (go_big_quiet_step ((go_at_call 76;exact gK (a9P _ _))))
     refine wpQuiet_nil ?_;rintro _ ⟨j,rfl⟩;have a:=(s.out.MS _).trans' j.h;clear g;go_wp2_with fail;go_roundg 1
     case measure=>omega
     case rel=>exact ⟨3+1,by omega,by omega,by go_num,a,d⟩
   ·subst h;have f:=f.trans (show _=Value.int .i64 4 from rfl);subst f;have D:∀ w,(Instr.index 9 (.string (sB l)) (.int .i64 0)).run prog w= .ok (.int .u8 (l.getD 0 0)) w:=ixc p.out (k:=0) (by omega);have H:∀ w,(Instr.index 9 (.string (sB l)) (.int .i64 1)).run prog w= .ok (.int .u8 (l.getD 1 0)) w:=ixc p.out (k:=1) (by omega);have L:∀ w,(Instr.index 9 (.string (sB l)) (.int .i64 2)).run prog w= .ok (.int .u8 (l.getD 2 0)) w:=ixc p.out (k:=2) (by omega);have P:∀ w,(Instr.index 9 (.string (sB l)) (.int .i64 3)).run prog w= .ok (.int .u8 (l.getD 3 0)) w:=ixc p.out (k:=3) (by omega);have t:Hid (rcU l 4=(l.getD 0 0 - 240)*262144+(l.getD 1 0 - 128)*4096+(l.getD 2 0 - 128)*64+l.getD 3 0 - 128):=rfl;have g:∀ w,(Instr.slice 9 (.string (sB l)) none (some (.int .i64 4)) none).run prog w= .ok (.string (sB (l.take 4))) w:=fun w=>a2j w (k:=4) (by omega)
    generalize l.getD 0 0=y0 at*;generalize l.getD 1 0=y1 at*;generalize l.getD 2 0=y2 at*;generalize l.getD 3 0=y3 at*;go_wp2_with fail;go_quiet (fail);go_wp2_with fail;generalize (y0 - 240)*262144+(y1 - 128)*4096+(y2 - 128)*64+y3 - 128=c at*;by_cases i:utfLen c=4
    ·have r:=utf_scal i (by omega);have A:(utfLen c==4)=true:=by rw [beq_iff_eq];exact i
     have b:=a3Z (a9k r) (a0o p.out 4);cases o:decide (enc1 c=l.take 4)
     ·rw [o] at b
      have d:Hid (∀ m,m≠0→m<4+1→m≤l.length→¬ (utfLen (rcU l m)=m∧enc1 (rcU l m)=l.take m)):=aW0 (fun m q y h3 h4=>by
       by_cases e:m=4
       ·subst e;rw [t.out] at h4;exact (decide_eq_false_iff_not.1 o) h4.2
       ·exact z.out m q (by omega) h3 h4)
      refine rX' ?_
      repeat (go_big_quiet_step (first
       |(go_at_call 76;exact gK (a9P _ _))
       |(go_at_call 49;exact aC (a9Q c r _))))
      refine wpQuiet_nil ?_;rintro _ ⟨j,rfl⟩;have a:=(s.out.MS _).trans' j.h;clear g b;go_wp2_with fail;go_roundg 0
      case measure=>omega
      case rel=>exact ⟨4+1,by omega,by omega,by go_num,a,d⟩
     ·rw [o] at b;have x:Hid (V=(c,4)):=aW0 (C.out 4 c (by omega) i (of_decide_eq_true o));refine rX' ?_
      repeat (go_big_quiet_step (first
       |(go_at_call 76;exact gK (a9P _ _))
       |(go_at_call 49;exact aC (a9Q c r _))))
      refine wpQuiet_nil ?_;rintro _ ⟨j,rfl⟩;have a:=(s.out.MS _).trans' j.h;go_wp2_with fail;go_ret2;exact ⟨by rw [x.out];rfl,a⟩
    ·have A:(utfLen c==4)=false:=by rw [aYs];exact i
     have d:Hid (∀ m,m≠0→m<4+1→m≤l.length→¬ (utfLen (rcU l m)=m∧enc1 (rcU l m)=l.take m)):=aW0 (fun m q y h3 h4=>by
      by_cases e:m=4
      ·subst e;rw [t.out] at h4;exact i h4.1
      ·exact z.out m q (by omega) h3 h4)
     refine rX' ?_
     repeat (go_big_quiet_step ((go_at_call 76;exact gK (a9P _ _))))
     refine wpQuiet_nil ?_;rintro _ ⟨j,rfl⟩;have a:=(s.out.MS _).trans' j.h;clear g;go_wp2_with fail;go_roundg 0
     case measure=>omega
     case rel=>exact ⟨4+1,by omega,by omega,by go_num,a,d⟩
  ·subst f
   have x:Hid (V=(0,0)):=aW0 (by
    refine J.out ?_;by_cases h:V.2=0
    ·exact h
    ·have:=I.out h;have Q:=F.out
     exact absurd this.2 (z.out V.2 h (by omega) F.out))
   have B:=s.out;by_cases q:k≤4
   ·have y:¬ k≤l.length:=by omega
    go_wp2_with fail;go_ret2;exact ⟨by rw [x.out];rfl,B⟩
   ·go_wp2_with fail;go_ret2;exact ⟨by rw [x.out];rfl,B⟩
theorem a9o (l:List Int) (E:IsB l) (P:l.length≤1099511600000) (w:World):
 Calls prog 44 #[.string (sB l)] w fun e w'=>∃ A n c,e= .returned (.tuple #[.slice A n c,.int .i64 (a4A l).2])∧aX w' ⟨A,n,c⟩ (a4A l).1∧Ext w w':=by
 have F:=aW0 E;clear E;go_enter func44,ntmps44;go_wp2_with fail;go_loopg [4,5] l.length (fun gh s4 s5 wx=>aRU w l gh s4 s5 wx)
 case atStart=>exact ⟨none,0,0,[],by omega,rfl,rfl,Own.nil_ _ _ _ _,Ext.refl _,Nat.le_refl _,aW0 (by simp)⟩
 case round=>
  obtain ⟨A,c,k,b,hg,rfl,rfl,d,z,G,q⟩:=hrel;have B:=aW0 d;have C:=aW0 z;clear d z;by_cases M:k<l.length
  ·have s:=a2l (w:=wr) (l:=l) (k:=k) (by omega);go_wp2_with fail;refine (a9c (l.drop k) (a0m F.out k) (by rw [List.length_drop];omega) wr).mono ?_;rintro e N ⟨rfl,f⟩;have r:=aW0 (@a4O (l.drop k));have t:=aW0 (@a4v (l.drop k));have g:=a4q (l.drop k);rw [List.drop_drop] at r;rw [List.length_drop] at g;generalize a3b (l.drop k)=p at*;obtain ⟨x,n⟩:=p;simp only at r t g;have h:=aW0 (C.out.trans' f);have i:=aW0 (Own.ext B.out f);clear f s;by_cases D:n=0
   ·have j:Hid (a4A l=(b,k)):=aW0 (by rw [q.out,t.out D];simp);have H:((n:Int)==0)=true:=by rw [beq_iff_eq];omega
    go_wp2_with fail;go_ret2;exact ⟨A,_,c,by rw [j.out];rfl,by rw [j.out];exact bJ.ints i.out,h.out⟩
   ·have H:((n:Int)==0)=false:=bF';have y:=aJ q (show _=((b++[x])++(a4A (l.drop (k+n))).1,(k+n:Nat)+(a4A (l.drop (k+n))).2) from by rw [r.out D];simp [Nat.add_assoc]);obtain ⟨I,c5,O,m,a,o,_⟩:=a6e i.out h.out x (by omega);have J:=aW0 a;have K:=aW0 o;clear q r t a o;go_wp2_with (at_builtin;refine aF rfl _ _ _ rfl _ _ rfl rfl _ _ m ?_);go_roundg (l.length - (k+n))
    case measure=>omega
    case rel=>exact ⟨I,c5,k+n,b++[x],by omega,by simp,by go_num,by simpa using J.out,K.out,by simp;omega,y⟩
  ·have L:l.drop k=[]:=bH l k (by omega);have j:Hid (a4A l=(b,k)):=aW0 (by rw [q.out,L];simp [a4A,a3e]);go_wp2_with fail;go_ret2;exact ⟨A,_,c,by rw [j.out];rfl,by rw [j.out];exact bJ.ints B.out,C.out⟩
theorem a9s (l:List Int) (j:IsB l) (w:World):Calls prog 20 #[.string (sB l)] w (aQx w (a6d l)):=by
 have a:Hid (a6d l=(if 4096<l.length then ([],0,7) else if (a4A l).2<l.length then ([],((a4A l).2:Int),9) else ((a4A l).1,0,0):List Int × Int × Int)):=rfl;generalize a6d l=D at*;have k:=aW0 j;clear j;by_cases b:4096<l.length
 ·rw [if_pos b] at a;go_enter func20,ntmps20;go_wp2_with fail;go_ret3;exact ⟨none,0,0,by rw [a.out];rfl,by rw [a.out];exact aX.nil_ w,Ext.refl _⟩
 rw [if_neg b] at a;go_enter func20,ntmps20;go_wp2_with fail;refine (a9o l k.out (by omega) w).mono ?_;rintro e o ⟨A,n,c,rfl,hi,f⟩;have g:=aW0 hi;have h:=aW0 f;clear hi f;generalize a4A l=d at*;obtain ⟨p,m⟩:=d;simp only at a g;by_cases i:m<l.length
 ·rw [if_pos i] at a;go_wp2_with fail;go_ret3;exact ⟨none,0,0,by rw [a.out];rfl,by rw [a.out];exact aX.nil_ _,h.out⟩
 ·rw [if_neg i] at a;go_wp2_with fail;go_ret3;exact ⟨A,n,c,by rw [a.out];rfl,by rw [a.out];exact g.out,h.out⟩
def a9r (w:World) (l:List Int) (g:Nat) (s4 s12:Value) (wx:World):Prop:=
 ∃ k:Nat,g+k=l.length∧s12= .int .i64 k∧s4= .string (sB (a4l (l.take k)))∧(a4l (l.take k)).length≤4*k∧Ext w wx∧Hid ((l.take k).any (fun c=> !bD c)=false)
theorem aA1 (l:List Int) (A:Option Addr) (n c:Nat) (w:World) (hi:aX w ⟨A,n,c⟩ l):Calls prog 22 #[.slice A n c] w (a6f w (a7q l)):=by
 have g:Hid (a7q l=if 4096<l.length then ([],7) else if l.any (fun c=> !bD c) then ([],3) else (a4l l,0)):=rfl;generalize a7q l=D at*;have F:=hi.len.1;subst F;have G:=aW0 hi;clear hi;by_cases y:4096<l.length
 ·rw [if_pos y] at g;go_enter func22,ntmps22;go_wp2_with fail;go_ret2;exact ⟨by rw [g.out];rfl,Ext.refl _⟩
 rw [if_neg y] at g;go_enter func22,ntmps22;go_wp2_with fail;go_loopg [4,12] l.length (fun gh s4 s12 wx=>a9r w l gh s4 s12 wx)
 case atStart=>exact ⟨0,by omega,rfl,rfl,by simp [a4l],Ext.refl _,rfl⟩
 case round=>
  obtain ⟨k,hg,rfl,rfl,H,d,h⟩:=hrel;have i:=aW0 d;clear d;by_cases j:k<l.length
  ·obtain ⟨b,o,hA,I⟩:=(G.out.ext i.out).at_ j;subst hA;have m:=aW0 (a9W (f:=fun c=> !bD c) j);have p:=aW0 (anyM (f:=fun c=> !bD c) j);have z:Hid (a4l (l.take (k+1))=a4l (l.take k)++enc1 l[k]):=aW0 (by rw [List.take_succ_eq_append_getElem j];unfold a4l;rw [List.flatMap_append];simp);generalize l[k]=x at*;go_wp2_with fail;refine (jE _ _).mono ?_;rintro e K ⟨rfl,rfl⟩;cases q:bD x
   ·have r:Hid (D=([],3)):=aW0 (by rw [g.out,if_pos (p.out (by simp [q]))]);have d:=i.out;go_wp2_with fail;go_ret2;exact ⟨by rw [r.out];rfl,d⟩
   ·have s:Hid ((l.take (k+1)).any (fun c=> !bD c)=false):=aW0 (by rw [m.out,h.out];simp [q]);have L:=a6i x;have J:=aW0 (a9Q x q wr);have B:=a2i wr (a:=a4l (l.take k)) (b:=enc1 x) (by omega);generalize a4l (l.take k)=E at*;generalize enc1 x=E1 at*;go_wp2_with fail;refine J.out.mono ?_;rintro e M ⟨rfl,t⟩;have d:=i.out.trans' t;go_wp2_with fail;go_roundg (l.length - (k+1))
    case measure=>omega
    case rel=>exact ⟨k+1,by omega,by go_num,by rw [z.out],by rw [z.out,List.length_append];omega,d,s⟩
  ·have C:l.take k=l:=List.take_of_length_le (by omega);rw [C] at h;have r:Hid (D=(a4l (l.take k),0)):=aW0 (by rw [g.out,if_neg (by rw [h.out];simp),C]);have d:=i.out;clear h;go_wp2_with fail;go_ret2;exact ⟨by rw [r.out];rfl,d⟩
end Go.Proofs.YtjccgagakfndpaaGreatDoor
