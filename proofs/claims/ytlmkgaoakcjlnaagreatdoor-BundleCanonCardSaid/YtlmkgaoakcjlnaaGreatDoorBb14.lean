/- Part Bb14. -/
import Derived.Test.YtlmkgaoakcjlnaaGreatDoorBb13
open Go.Proofs.Tryz
namespace Go.Proofs.YtlmkgaoakcjlnaaGreatDoor
set_option maxHeartbeats 25600000
set_option maxRecDepth 100000
open Go.RowKit
theorem uq(c:Int)(w:World):Calls prog 137 #[.int .i64 c] w λe w'=>e= .returned (.int .i64 (utfLen c))/\w=w':=by
 cases a:aY c
 .have H:=ah a;clear a;go_enter func137,ntmps137;go_wp2_with(go_at_call 74;refine(yO _ _).mono ?_;rintro e w'⟨rfl,rfl⟩;rw[H.out])
  all_goals(go_ret;refine⟨aU ?_,rfl⟩;simp[utfLen,H.out])
 .have H:=ah a;clear a;go_enter func137,ntmps137;go_wp2_with(go_at_call 74;refine(yO _ _).mono ?_;rintro e w'⟨rfl,rfl⟩;rw[H.out])
  all_goals(go_ret;refine⟨aU ?_,rfl⟩;simp[utfLen,H.out];try omega)
theorem yF(w:World)(a:Array Value)(l:List Int)(m:Nat)(b:l.length=m)(c:a=(l.map (Value.int .u8)).toArray)(d:m<=4096):
 (convert 95 9 (.slice (some ⟨w.heap.size,0,none⟩) m m)).run prog (w.alloc (.cells a 5))= .ok (.string (sB l)) (w.alloc (.cells a 5)):=by
 subst b;exact BK (Ol w a l c d)
theorem yE(x:Int)(f:aY x=true)(w:World):Calls prog 75 #[.int .i64 x] w λe w'=>e= .returned (.string (sB (enc1 x)))/\Ext w w':=by
 have j:=uY f;have a:utfLen x=if x<=127 then 1 else if x<=2047 then 2 else if x<=65535 then 3 else 4:=by unfold utfLen;rw[f];simp
 have b:Hid (enc1 x=if x<=127 then[x]else if x<=2047 then[192+x / 64,128+x % 64]else if x<=65535 then[224+x / 4096,128+x / 64 % 64,128+x % 64]else[240+x / 262144,128+x / 4096 % 64,128+x / 64 % 64,128+x % 64]):=rfl;clear f;generalize enc1 x=E at*;have d:=λk=>(Ext.refl w).aC (.cells k 5)
 go_enter func75,ntmps75;go_wp2_with fail;refine(uq _ _).mono ?_;rintro e w'⟨rfl,rfl⟩;by_cases g:x<=127
 .rw[if_pos g]at a b;rw[a];have c:=yF w #[.int .u8 x] [x] 1 rfl rfl (by omega);go_wp2;go_ret;exact⟨by rw[b.out];rfl,d _⟩
 rw[if_neg g]at a b;by_cases h:x<=2047
 .rw[if_pos h]at a b;rw[a];have c:=yF w #[.int .u8 (192+x / 64),.int .u8 (128+x % 64)] [192+x / 64,128+x % 64] 2 rfl rfl (by omega);go_wp2;go_ret;exact⟨by rw[b.out];rfl,d _⟩
 rw[if_neg h]at a b;by_cases i:x<=65535
 .rw[if_pos i]at a b;rw[a];have c:=yF w #[.int .u8 (224+x / 4096),.int .u8 (128+x / 64 % 64),.int .u8 (128+x % 64)] [224+x / 4096,128+x / 64 % 64,128+x % 64] 3 rfl rfl (by omega);go_wp2;go_ret;exact⟨by rw[b.out];rfl,d _⟩
 .rw[if_neg i]at a b;rw[a];have c:=yF w #[.int .u8 (240+x / 262144),.int .u8 (128+x / 4096 % 64),.int .u8 (128+x / 64 % 64),.int .u8 (128+x % 64)] [240+x / 262144,128+x / 4096 % 64,128+x / 64 % 64,128+x % 64] 4 rfl rfl (by omega);go_wp2;go_ret;exact⟨by rw[b.out];rfl,d _⟩
def rcU(l:List Int)(n:Nat):Int:=
 if n=1 then l.getD 0 0 else if n=2 then(l.getD 0 0 - 192)*64+l.getD 1 0 - 128 else if n=3 then(l.getD 0 0 - 224)*4096+(l.getD 1 0 - 128)*64+l.getD 2 0 - 128
 else(l.getD 0 0 - 240)*262144+(l.getD 1 0 - 128)*4096+(l.getD 2 0 - 128)*64+l.getD 3 0 - 128
theorem utf_scal{c n:Int}(h:utfLen c=n)(b:n≠0):aY c=true:=by
 cases a:aY c
 .exact absurd ((utfLen_eq_zero c).2 a) (by rw[h];exact b)
 .rfl
theorem YZ{l:List Int}{n:Nat}{c:Int}(g:n≠0)(d:utfLen c=n)(b:enc1 c=l.take n):dM l=(c,n):=by
 have a:=utf_scal d (by omega);have h:=Y3 a (l.drop n);have f:=Y7 a;rw[b,List.take_append_drop]at h;rw[h,<- b];congr 1;omega
theorem Z4{l:List Int}(p:IsB l)(h:(dM l).2≠0):(dM l).2<=4/\utfLen (rcU l (dM l).2)=(dM l).2/\enc1 (rcU l (dM l).2)=l.take (dM l).2:=by
 have f:∀(n:Nat)(c:Int),n≠0->n<=4->dM l=(c,n)->c=rcU l n->utfLen c=n->enc1 c=l.take n->(dM l).2<=4/\utfLen (rcU l (dM l).2)=(dM l).2/\enc1 (rcU l (dM l).2)=l.take (dM l).2:=by
  intro n c D q A g i B;rw[A];subst g;exact⟨q,i,B⟩
 match l,p,h,f with
 |[],_,h,_=>simp[dM]at h
 |a::r,p,h,f=>
  have E:=p a (by simp);have F:(a::r).getD 0 0=a:=rfl;by_cases j:a<=127
  .have i:utfLen a=1:=by
    unfold utfLen;have:aY a=true:=by simp[aY];omega
    rw[this];simp[j]
   exact f 1 a (by omega) (by omega) (by simp[dM,j]) rfl i (by simp[enc1,j])
  by_cases k:192<=a/\a<=223
  .match r,p,h,f with
   |[],_,h,_=>simp[dM,j,k]at h
   |b::r,p,h,f=>
    by_cases g:iF b=true/\utfLen ((a - 192)*64+(b - 128))=2
    .have t:=g.1;simp only[iF,aW,au]at t;have x:=uY (utf_scal g.2 (by omega));have i:=g.2;have w:¬(a - 192)*64+(b - 128)<=127:=by
      intro m;unfold utfLen at i;rw[utf_scal g.2 (by omega)]at i;simp[m]at i
     refine f 2 ((a - 192)*64+(b - 128)) (by omega) (by omega) (by simp only[dM];rw[if_neg j,if_pos k,if_pos g]) ?_ g.2 ?_
     .show _=(a - 192)*64+b - 128
      omega
     .unfold enc1;rw[if_neg w,if_pos (by omega)];show _=[a,b]
      congr 1
      .omega
      .congr 1;omega
    .simp only[dM]at h;rw[if_neg j,if_pos k,if_neg g]at h;exact absurd rfl h
  by_cases o:224<=a/\a<=239
  .match r,p,h,f with
   |[],_,h,_=>simp[dM,j,k,o]at h
   |[b],_,h,_=>simp[dM,j,k,o]at h
   |b::c::r,p,h,f=>
    by_cases g:iF b=true/\iF c=true/\utfLen (((a - 224)*64+(b - 128))*64+(c - 128))=3
    .have t:=g.1;have s:=g.2.1;simp only[iF,aW,au]at t s;have i:=g.2.2;have x:=utf_scal i (by omega);have w:¬((a - 224)*64+(b - 128))*64+(c - 128)<=2047:=by
      intro m;unfold utfLen at i;rw[x]at i;by_cases y:((a - 224)*64+(b - 128))*64+(c - 128)<=127<;>simp[y,m]at i
     refine f 3 (((a - 224)*64+(b - 128))*64+(c - 128)) (by omega) (by omega) (by simp only[dM];rw[if_neg j,if_neg k,if_pos o,if_pos g]) ?_ i ?_
     .show _=(a - 224)*4096+(b - 128)*64+c - 128
      omega
     .unfold enc1;rw[if_neg (by omega),if_neg w,if_pos (by omega)];show _=[a,b,c]
      congr 1
      .omega
      .congr 1
       .omega
       .congr 1;omega
    .simp only[dM]at h;rw[if_neg j,if_neg k,if_pos o,if_neg g]at h;exact absurd rfl h
  by_cases q:240<=a/\a<=247
  .match r,p,h,f with
   |[],_,h,_=>simp[dM,j,k,o,q]at h
   |[b],_,h,_=>simp[dM,j,k,o,q]at h
   |[b,c],_,h,_=>simp[dM,j,k,o,q]at h
   |b::c::d::r,p,h,f=>
    by_cases g:iF b=true/\iF c=true/\iF d=true/\utfLen ((((a - 240)*64+(b - 128))*64+(c - 128))*64+(d - 128))=4
    .have t:=g.1;have s:=g.2.1;have z:=g.2.2.1;simp only[iF,aW,au]at t s z;have i:=g.2.2.2;have x:=utf_scal i (by omega);have w:¬(((a - 240)*64+(b - 128))*64+(c - 128))*64+(d - 128)<=65535:=by
      intro m;unfold utfLen at i;rw[x]at i;by_cases y:(((a - 240)*64+(b - 128))*64+(c - 128))*64+(d - 128)<=127
      .simp[y]at i
      .by_cases C:(((a - 240)*64+(b - 128))*64+(c - 128))*64+(d - 128)<=2047<;>simp[y,C,m]at i
     refine f 4 ((((a - 240)*64+(b - 128))*64+(c - 128))*64+(d - 128)) (by omega) (by omega) (by simp only[dM];rw[if_neg j,if_neg k,if_neg o,if_pos q,if_pos g]) ?_ i ?_
     .show _=(a - 240)*262144+(b - 128)*4096+(c - 128)*64+d - 128
      omega
     .unfold enc1;rw[if_neg (by omega),if_neg (by omega),if_neg w];show _=[a,b,c,d]
      congr 1
      .omega
      .congr 1
       .omega
       .congr 1
        .omega
        .congr 1;omega
    .simp only[dM]at h;rw[if_neg j,if_neg k,if_neg o,if_pos q,if_neg g]at h;exact absurd rfl h
  .have:dM (a::r)=(0,0):=by simp[dM,j,k,o,q]
   rw[this]at h;exact absurd rfl h
theorem Z8(l:List Int):(dM l).2=0->dM l=(0,0):=by
 unfold dM
 repeat' split
 all_goals(intro h;first|rfl|(simp at h))
theorem BN{c:Int}(h:aY c=true):IsB (enc1 c):=by
 have b:=uY h;intro x a;unfold enc1 at a
 repeat' split at a
 all_goals(simp only[List.mem_cons,List.not_mem_nil,or_false]at a;omega)
def Z7(w:World)(l:List Int)(g:Nat)(s4:Value)(wx:World):Prop:=
 ∃k:Nat,g+k=5/\1<=k/\s4= .int .i64 k/\Ext w wx/\Hid (∀m,m≠0->m<k->m<=l.length->¬(utfLen (rcU l m)=m/\enc1 (rcU l m)=l.take m))
theorem Z5(l:List Int)(G:IsB l)(hm:l.length<=1099511627776)(w:World):
 Calls prog 186 #[.string (sB l)] w λe w'=>e= .returned (.tuple #[.int .i64 (dM l).1,.int .i64 (dM l).2])/\Ext w w':=by
 have q:=ah G;have K:=ah (Z4 G);have E:=ah (λn c=> @YZ l n c);have H:=ah (FT l);generalize I:dM l=V at*;have L:Hid (V.2=0->V=(0,0)):=ah (by subst I;exact Z8 l);clear G I;go_enter func186,ntmps186;go_wp2;go_loopg[4] 4 (λM N O=>Z7 w l M N O);exact⟨1,by omega,by omega,rfl,Ext.refl _,ah (λm r A=>by omega)⟩;obtain⟨k,R,P,g,D,B⟩:=hrel;have x:=ah D;clear D;by_cases S:k<=4/\k<=l.length
 .have T:=wG q.out 0;have U:=wG q.out 1;have W:=wG q.out 2;have X:=wG q.out 3;rcases(show k=1\/k=2\/k=3\/k=4 by omega)with h|h|h|h
  .subst h;have g:=g.trans (show _=Value.int .i64 1 from rfl);subst g;have F:∀w,(Instr.index 9 (.string (sB l)) (.int .i64 0)).run prog w= .ok (.int .u8 (l.getD 0 0)) w:=ixc q.out (k:=0) (by omega);have y:Hid (rcU l 1=l.getD 0 0):=rfl;have i:∀w,(Instr.slice 9 (.string (sB l)) none (some (.int .i64 1)) none).run prog w= .ok (.string (sB (l.take 1))) w:=λw=>Aq w (k:=1) (by omega)
   generalize l.getD 0 0=y0 at*;go_wp2_with fail;generalize y0=c at*;by_cases j:utfLen c=1
   .have s:=utf_scal j (by omega);have C:(utfLen c==1)=true:=(by rw[beq_iff_eq];exact j);have b:=xq (BN s) (wX q.out 1);cases p:decide (enc1 c=l.take 1)
    .rw[p]at b
     have d:Hid (∀m,m≠0->m<1+1->m<=l.length->¬(utfLen (rcU l m)=m/\enc1 (rcU l m)=l.take m)):=ah (λm r A t f=>by
      by_cases e:m=1
      .subst e;rw[y.out]at f;exact(decide_eq_false_iff_not.1 p) f.2
      .exact B.out m r (by omega) t f)
     refine rX' ?_
     repeat(go_big_quiet_step(first
      |(go_at_call 137;exact iI (uq _ _))
      |(go_at_call 75;exact aS (yE c s _))))
     refine wpQuiet_nil ?_;rintro _⟨o,rfl⟩;have a:=x.out.trans' o.h;clear i b;go_wp2;go_roundg 3;exact⟨1+1,by omega,by omega,by go_num,a,d⟩;omega
    .rw[p]at b;have z:Hid (V=(c,1)):=ah (E.out 1 c (by omega) j (of_decide_eq_true p));refine rX' ?_
     repeat(go_big_quiet_step(first
      |(go_at_call 137;exact iI (uq _ _))
      |(go_at_call 75;exact aS (yE c s _))))
     refine wpQuiet_nil ?_;rintro _⟨o,rfl⟩;have a:=x.out.trans' o.h;go_wp2;go_ret2;exact⟨by rw[z.out];rfl,a⟩
   .have C:(utfLen c==1)=false:=by rw[aP];exact j
    have d:Hid (∀m,m≠0->m<1+1->m<=l.length->¬(utfLen (rcU l m)=m/\enc1 (rcU l m)=l.take m)):=ah (λm r A t f=>by
     by_cases e:m=1
     .subst e;rw[y.out]at f;exact j f.1
     .exact B.out m r (by omega) t f)
    refine rX' ?_
    repeat(go_big_quiet_step((go_at_call 137;exact iI (uq _ _))))
    refine wpQuiet_nil ?_;rintro _⟨o,rfl⟩;have a:=x.out.trans' o.h;clear i;go_wp2;go_roundg 3;exact⟨1+1,by omega,by omega,by go_num,a,d⟩;omega
  .subst h;have g:=g.trans (show _=Value.int .i64 2 from rfl);subst g;have F:∀w,(Instr.index 9 (.string (sB l)) (.int .i64 0)).run prog w= .ok (.int .u8 (l.getD 0 0)) w:=ixc q.out (k:=0) (by omega);have J:∀w,(Instr.index 9 (.string (sB l)) (.int .i64 1)).run prog w= .ok (.int .u8 (l.getD 1 0)) w:=ixc q.out (k:=1) (by omega);have y:Hid (rcU l 2=(l.getD 0 0 - 192)*64+l.getD 1 0 - 128):=rfl;have i:∀w,(Instr.slice 9 (.string (sB l)) none (some (.int .i64 2)) none).run prog w= .ok (.string (sB (l.take 2))) w:=λw=>Aq w (k:=2) (by omega)
   generalize l.getD 0 0=y0 at*;generalize l.getD 1 0=y1 at*;go_wp2_with fail;go_quiet (fail);go_wp2_with fail;generalize(y0 - 192)*64+y1 - 128=c at*;by_cases j:utfLen c=2
   .have s:=utf_scal j (by omega);have C:(utfLen c==2)=true:=(by rw[beq_iff_eq];exact j);have b:=xq (BN s) (wX q.out 2);cases p:decide (enc1 c=l.take 2)
    .rw[p]at b
     have d:Hid (∀m,m≠0->m<2+1->m<=l.length->¬(utfLen (rcU l m)=m/\enc1 (rcU l m)=l.take m)):=ah (λm r A t f=>by
      by_cases e:m=2
      .subst e;rw[y.out]at f;exact(decide_eq_false_iff_not.1 p) f.2
      .exact B.out m r (by omega) t f)
     refine rX' ?_
     repeat(go_big_quiet_step(first
      |(go_at_call 137;exact iI (uq _ _))
      |(go_at_call 75;exact aS (yE c s _))))
     refine wpQuiet_nil ?_;rintro _⟨o,rfl⟩;have a:=(x.out.lG _).trans' o.h;clear i b;go_wp2;go_roundg 2;exact⟨2+1,by omega,by omega,by go_num,a,d⟩;omega
    .rw[p]at b;have z:Hid (V=(c,2)):=ah (E.out 2 c (by omega) j (of_decide_eq_true p));refine rX' ?_
     repeat(go_big_quiet_step(first
      |(go_at_call 137;exact iI (uq _ _))
      |(go_at_call 75;exact aS (yE c s _))))
     refine wpQuiet_nil ?_;rintro _⟨o,rfl⟩;have a:=(x.out.lG _).trans' o.h;go_wp2;go_ret2;exact⟨by rw[z.out];rfl,a⟩
   .have C:(utfLen c==2)=false:=by rw[aP];exact j
    have d:Hid (∀m,m≠0->m<2+1->m<=l.length->¬(utfLen (rcU l m)=m/\enc1 (rcU l m)=l.take m)):=ah (λm r A t f=>by
     by_cases e:m=2
     .subst e;rw[y.out]at f;exact j f.1
     .exact B.out m r (by omega) t f)
    refine rX' ?_
    repeat(go_big_quiet_step((go_at_call 137;exact iI (uq _ _))))
    refine wpQuiet_nil ?_;rintro _⟨o,rfl⟩;have a:=(x.out.lG _).trans' o.h;clear i;go_wp2;go_roundg 2;exact⟨2+1,by omega,by omega,by go_num,a,d⟩;omega
  .subst h;have g:=g.trans (show _=Value.int .i64 3 from rfl);subst g;have F:∀w,(Instr.index 9 (.string (sB l)) (.int .i64 0)).run prog w= .ok (.int .u8 (l.getD 0 0)) w:=ixc q.out (k:=0) (by omega);have J:∀w,(Instr.index 9 (.string (sB l)) (.int .i64 1)).run prog w= .ok (.int .u8 (l.getD 1 0)) w:=ixc q.out (k:=1) (by omega);have Q:∀w,(Instr.index 9 (.string (sB l)) (.int .i64 2)).run prog w= .ok (.int .u8 (l.getD 2 0)) w:=ixc q.out (k:=2) (by omega);have y:Hid (rcU l 3=(l.getD 0 0 - 224)*4096+(l.getD 1 0 - 128)*64+l.getD 2 0 - 128):=rfl;have i:∀w,(Instr.slice 9 (.string (sB l)) none (some (.int .i64 3)) none).run prog w= .ok (.string (sB (l.take 3))) w:=λw=>Aq w (k:=3) (by omega)
   generalize l.getD 0 0=y0 at*;generalize l.getD 1 0=y1 at*;generalize l.getD 2 0=y2 at*;go_wp2_with fail;go_quiet (fail);go_wp2_with fail;generalize(y0 - 224)*4096+(y1 - 128)*64+y2 - 128=c at*;by_cases j:utfLen c=3
   .have s:=utf_scal j (by omega);have C:(utfLen c==3)=true:=(by rw[beq_iff_eq];exact j);have b:=xq (BN s) (wX q.out 3);cases p:decide (enc1 c=l.take 3)
    .rw[p]at b
     have d:Hid (∀m,m≠0->m<3+1->m<=l.length->¬(utfLen (rcU l m)=m/\enc1 (rcU l m)=l.take m)):=ah (λm r A t f=>by
      by_cases e:m=3
      .subst e;rw[y.out]at f;exact(decide_eq_false_iff_not.1 p) f.2
      .exact B.out m r (by omega) t f)
     refine rX' ?_
     repeat(go_big_quiet_step(first
      |(go_at_call 137;exact iI (uq _ _))
      |(go_at_call 75;exact aS (yE c s _))))
     refine wpQuiet_nil ?_;rintro _⟨o,rfl⟩;have a:=(x.out.lG _).trans' o.h;clear i b;go_wp2;go_roundg 1;exact⟨3+1,by omega,by omega,by go_num,a,d⟩;omega
    .rw[p]at b;have z:Hid (V=(c,3)):=ah (E.out 3 c (by omega) j (of_decide_eq_true p));refine rX' ?_
     repeat(go_big_quiet_step(first
      |(go_at_call 137;exact iI (uq _ _))
      |(go_at_call 75;exact aS (yE c s _))))
     refine wpQuiet_nil ?_;rintro _⟨o,rfl⟩;have a:=(x.out.lG _).trans' o.h;go_wp2;go_ret2;exact⟨by rw[z.out];rfl,a⟩
   .have C:(utfLen c==3)=false:=by rw[aP];exact j
    have d:Hid (∀m,m≠0->m<3+1->m<=l.length->¬(utfLen (rcU l m)=m/\enc1 (rcU l m)=l.take m)):=ah (λm r A t f=>by
     by_cases e:m=3
     .subst e;rw[y.out]at f;exact j f.1
     .exact B.out m r (by omega) t f)
    refine rX' ?_
    repeat(go_big_quiet_step((go_at_call 137;exact iI (uq _ _))))
    refine wpQuiet_nil ?_;rintro _⟨o,rfl⟩;have a:=(x.out.lG _).trans' o.h;clear i;go_wp2;go_roundg 1;exact⟨3+1,by omega,by omega,by go_num,a,d⟩;omega
  .subst h;have g:=g.trans (show _=Value.int .i64 4 from rfl);subst g;have F:∀w,(Instr.index 9 (.string (sB l)) (.int .i64 0)).run prog w= .ok (.int .u8 (l.getD 0 0)) w:=ixc q.out (k:=0) (by omega);have J:∀w,(Instr.index 9 (.string (sB l)) (.int .i64 1)).run prog w= .ok (.int .u8 (l.getD 1 0)) w:=ixc q.out (k:=1) (by omega);have Q:∀w,(Instr.index 9 (.string (sB l)) (.int .i64 2)).run prog w= .ok (.int .u8 (l.getD 2 0)) w:=ixc q.out (k:=2) (by omega);have Y:∀w,(Instr.index 9 (.string (sB l)) (.int .i64 3)).run prog w= .ok (.int .u8 (l.getD 3 0)) w:=ixc q.out (k:=3) (by omega);have y:Hid (rcU l 4=(l.getD 0 0 - 240)*262144+(l.getD 1 0 - 128)*4096+(l.getD 2 0 - 128)*64+l.getD 3 0 - 128):=rfl;have i:∀w,(Instr.slice 9 (.string (sB l)) none (some (.int .i64 4)) none).run prog w= .ok (.string (sB (l.take 4))) w:=λw=>Aq w (k:=4) (by omega)
   generalize l.getD 0 0=y0 at*;generalize l.getD 1 0=y1 at*;generalize l.getD 2 0=y2 at*;generalize l.getD 3 0=y3 at*;go_wp2_with fail;go_quiet (fail);go_wp2_with fail;generalize(y0 - 240)*262144+(y1 - 128)*4096+(y2 - 128)*64+y3 - 128=c at*;by_cases j:utfLen c=4
   .have s:=utf_scal j (by omega);have C:(utfLen c==4)=true:=(by rw[beq_iff_eq];exact j);have b:=xq (BN s) (wX q.out 4);cases p:decide (enc1 c=l.take 4)
    .rw[p]at b
     have d:Hid (∀m,m≠0->m<4+1->m<=l.length->¬(utfLen (rcU l m)=m/\enc1 (rcU l m)=l.take m)):=ah (λm r A t f=>by
      by_cases e:m=4
      .subst e;rw[y.out]at f;exact(decide_eq_false_iff_not.1 p) f.2
      .exact B.out m r (by omega) t f)
     refine rX' ?_
     repeat(go_big_quiet_step(first
      |(go_at_call 137;exact iI (uq _ _))
      |(go_at_call 75;exact aS (yE c s _))))
     refine wpQuiet_nil ?_;rintro _⟨o,rfl⟩;have a:=(x.out.lG _).trans' o.h;clear i b;go_wp2;go_roundg 0;exact⟨4+1,by omega,by omega,by go_num,a,d⟩;omega
    .rw[p]at b;have z:Hid (V=(c,4)):=ah (E.out 4 c (by omega) j (of_decide_eq_true p));refine rX' ?_
     repeat(go_big_quiet_step(first
      |(go_at_call 137;exact iI (uq _ _))
      |(go_at_call 75;exact aS (yE c s _))))
     refine wpQuiet_nil ?_;rintro _⟨o,rfl⟩;have a:=(x.out.lG _).trans' o.h;go_wp2;go_ret2;exact⟨by rw[z.out];rfl,a⟩
   .have C:(utfLen c==4)=false:=by rw[aP];exact j
    have d:Hid (∀m,m≠0->m<4+1->m<=l.length->¬(utfLen (rcU l m)=m/\enc1 (rcU l m)=l.take m)):=ah (λm r A t f=>by
     by_cases e:m=4
     .subst e;rw[y.out]at f;exact j f.1
     .exact B.out m r (by omega) t f)
    refine rX' ?_
    repeat(go_big_quiet_step((go_at_call 137;exact iI (uq _ _))))
    refine wpQuiet_nil ?_;rintro _⟨o,rfl⟩;have a:=(x.out.lG _).trans' o.h;clear i;go_wp2;go_roundg 0;exact⟨4+1,by omega,by omega,by go_num,a,d⟩;omega
 .subst g
  have z:Hid (V=(0,0)):=ah (by
   refine L.out ?_;by_cases h:V.2=0
   .exact h
   .have:=K.out h;have Z:=H.out
    exact absurd this.2 (B.out V.2 h (by omega) H.out))
  have D:=x.out;by_cases r:k<=4
  .have A:¬k<=l.length:=by omega
   go_wp2;go_ret2;exact⟨by rw[z.out];rfl,D⟩
  .go_wp2;go_ret2;exact⟨by rw[z.out];rfl,D⟩
theorem Z9(l:List Int)(E:IsB l)(V:l.length<=1099511600000)(w:World):
 Calls prog 114 #[.string (sB l)] w λe w'=>∃A n c,e= .returned (.tuple #[.slice A n c,.int .i64 (jd l).2])/\aF w' ⟨A,n,c⟩ (jd l).1/\Ext w w':=by
 have F:=ah E;clear E;go_enter func114,ntmps114;go_wp2;go_loopg[4,5] l.length (λG H I J=>UL w l G H I J);exact⟨none,0,0,[],by omega,rfl,rfl,Own.nil_ _ _ _ _,Ext.refl _,Nat.le_refl _,ah (by simp)⟩;obtain⟨A,c,k,b,R,rfl,rfl,d,z,K,q⟩:=hrel;have B:=ah d;have C:=ah z;clear d z;by_cases S:k<l.length
 .have s:=BL (w:=wr) (l:=l) (k:=k) (by omega);go_wp2_with fail;refine(Z5 (l.drop k) (zu F.out k) (by rw[List.length_drop];omega) wr).mono ?_;rintro e T⟨rfl,f⟩;have r:=ah (@P6 (l.drop k));have t:=ah (@Pm (l.drop k));have g:=FT (l.drop k);rw[List.drop_drop]at r;rw[List.length_drop]at g;generalize dM (l.drop k)=p at*;obtain⟨x,n⟩:=p;simp only at r t g;have h:=ah (C.out.trans' f);have i:=ah (Own.ext B.out f);clear f s;by_cases D:n=0
  .have j:Hid (jd l=(b,k)):=ah (by rw[q.out,t.out D];simp);have L:((n:Int)==0)=true:=(by rw[beq_iff_eq];omega);go_wp2;go_ret2;exact⟨A,_,c,by rw[j.out];rfl,by rw[j.out];exact aN.ints i.out,h.out⟩
  .have L:((n:Int)==0)=false:=bF';have y:=aI q (show _=((b++[x])++(jd (l.drop (k+n))).1,(k+n:Nat)+(jd (l.drop (k+n))).2)from by rw[r.out D];simp[Nat.add_assoc]);obtain⟨M,N,U,m,a,o,_⟩:=xu i.out h.out x (by omega);have O:=ah a;have P:=ah o;clear q r t a o;go_wp2_with(at_builtin;refine dH rfl _ _ _ rfl _ _ rfl rfl _ _ m ?_);go_roundg (l.length - (k+n));exact⟨M,N,k+n,b++[x],by omega,by simp,by go_num,by simpa using O.out,P.out,by simp;omega,y⟩;omega
 .have Q:l.drop k=[]:=bQ l k (by omega);have j:Hid (jd l=(b,k)):=ah (by rw[q.out,Q];simp[jd,wF]);go_wp2;go_ret2;exact⟨A,_,c,by rw[j.out];rfl,by rw[j.out];exact aN.ints B.out,C.out⟩
theorem Zc(l:List Int)(k:IsB l)(w:World):Calls prog 56 #[.string (sB l)] w (GV w (gG l)):=by
 have a:Hid (gG l=(if 4096<l.length then([],0,7)else if(jd l).2<l.length then([],((jd l).2:Int),9)else((jd l).1,0,0):List Int × Int × Int)):=rfl;generalize gG l=D at*;have o:=ah k;clear k;by_cases b:4096<l.length
 .rw[if_pos b]at a;go_enter func56,ntmps56;go_wp2;go_ret3;exact⟨none,0,0,by rw[a.out];rfl,by rw[a.out];exact aF.nil_ w,Ext.refl _⟩
 rw[if_neg b]at a;go_enter func56,ntmps56;go_wp2_with fail;refine(Z9 l o.out (by omega) w).mono ?_;rintro e p⟨A,n,c,rfl,f,g⟩;have h:=ah f;have i:=ah g;clear f g;generalize jd l=d at*;obtain⟨q,m⟩:=d;simp only at a h;by_cases j:m<l.length
 .rw[if_pos j]at a;go_wp2;go_ret3;exact⟨none,0,0,by rw[a.out];rfl,by rw[a.out];exact aF.nil_ _,i.out⟩
 .rw[if_neg j]at a;go_wp2;go_ret3;exact⟨A,n,c,by rw[a.out];rfl,by rw[a.out];exact h.out,i.out⟩
def Zb(w:World)(l:List Int)(g:Nat)(s4 s12:Value)(wx:World):Prop:=
 ∃k:Nat,g+k=l.length/\s12= .int .i64 k/\s4= .string (sB (lK (l.take k)))/\(lK (l.take k)).length<=4*k/\Ext w wx/\Hid ((l.take k).any (λc=> !aY c)=false)
theorem DN(l:List Int)(A:Option Addr)(n c:Nat)(w:World)(z:aF w ⟨A,n,c⟩ l):Calls prog 40 #[.slice A n c] w (xA w (lM l)):=by
 have g:Hid (lM l=if 4096<l.length then([],7)else if l.any (λc=> !aY c)then([],3)else(lK l,0)):=rfl;generalize lM l=D at*;have H:=z.len.1;subst H;have I:=ah z;clear z;by_cases B:4096<l.length
 .rw[if_pos B]at g;go_enter func40,ntmps40;go_wp2;go_ret2;exact⟨by rw[g.out];rfl,Ext.refl _⟩
 rw[if_neg B]at g;go_enter func40,ntmps40;go_wp2;go_loopg[4,12] l.length (λJ K m L=>Zb w l J K m L);exact⟨0,by omega,rfl,rfl,by simp[lK],Ext.refl _,rfl⟩;obtain⟨k,Q,rfl,rfl,M,d,h⟩:=hrel;have i:=ah d;clear d;by_cases j:k<l.length
 .obtain⟨b,o,N,O⟩:=(I.out.ext i.out).at_ j;subst N;have p:=ah (xC (f:=λc=> !aY c) j);have q:=ah (anyM (f:=λc=> !aY c) j);have C:Hid (lK (l.take (k+1))=lK (l.take k)++enc1 l[k]):=ah (by rw[List.take_succ_eq_append_getElem j];unfold lK;rw[List.flatMap_append];simp);generalize l[k]=x at*;go_wp2_with fail;refine(yO _ _).mono ?_;rintro e R⟨rfl,rfl⟩;cases r:aY x
  .have s:Hid (D=([],3)):=ah (by rw[g.out,if_pos (q.out (by simp[r]))]);have d:=i.out;go_wp2;go_ret2;exact⟨by rw[s.out];rfl,d⟩
  .have t:Hid ((l.take (k+1)).any (λc=> !aY c)=false):=ah (by rw[p.out,h.out];simp[r]);have S:=BM x;have P:=ah (yE x r wr);have F:=XK wr (a:=lK (l.take k)) (b:=enc1 x) (by omega);generalize lK (l.take k)=E at*;generalize enc1 x=E1 at*;go_wp2_with fail;refine P.out.mono ?_;rintro e T⟨rfl,y⟩;have d:=i.out.trans' y;go_wp2;go_roundg (l.length - (k+1));exact⟨k+1,by omega,by go_num,by rw[C.out],by rw[C.out,List.length_append];omega,d,t⟩;omega
 .have G:l.take k=l:=List.take_of_length_le (by omega);rw[G]at h;have s:Hid (D=(lK (l.take k),0)):=ah (by rw[g.out,if_neg (by rw[h.out];simp),G]);have d:=i.out;clear h;go_wp2;go_ret2;exact⟨by rw[s.out];rfl,d⟩
theorem Ri(j b:Int)(a:0<=j/\j<=4096)(c: -100000<=b/\b<=100000)(w:World):Calls prog 251 #[.int .i64 j,.int .i64 b] w λe w'=>e= .returned (.int .i64 (gy j b))/\w=w':=by
 go_enter func251,ntmps251;go_wp2
 all_goals(go_ret;refine⟨aU ?_,rfl⟩;unfold gy;omega)
theorem aGe{d:Int}(h:0<=d/\d<36)(w:World):(Instr.slice 9 (.string ⟨#[97,98,99,100,101,102,103,104,105,106,107,108,109,110,111,112,113,114,115,116,117,118,119,120,121,122,48,49,50,51,52,53,54,55,56,57]⟩) (some (.int .i64 d)) (some (.int .i64 (d+1))) none).run prog w= .ok (.string (sB [eF d])) w:=by
 obtain⟨n,rfl⟩:=Int.eq_ofNat_of_zero_le h.1;have a:n<36:=by omega
 have b:=OJ (l:=[97,98,99,100,101,102,103,104,105,106,107,108,109,110,111,112,113,114,115,116,117,118,119,120,121,122,48,49,50,51,52,53,54,55,56,57]) w (k:=n) (m:=n+1) (by omega) (by simp;omega);refine Eq.trans b (congrArg (λx=>Result.ok (Value.string (sB x)) w) ?_);have:∀m:Fin 36,(([97,98,99,100,101,102,103,104,105,106,107,108,109,110,111,112,113,114,115,116,117,118,119,120,121,122,48,49,50,51,52,53,54,55,56,57]:List Int).drop m.val).take (m.val+1 - m.val)=[eF m.val]:=by decide
 exact this ⟨n,a⟩
theorem Rh(d:Int)(h:0<=d/\d<36)(w:World):Calls prog 282 #[.int .i64 d] w λe w'=>e= .returned (.string (sB [eF d]))/\w=w':=by
 have a:=aGe h w;generalize[eF d]=v at*;go_enter func282,ntmps282;go_wp2;go_ret;exact⟨rfl,rfl⟩
def aRP(w:World)(b v0:Int)(g:Nat)(s0 s5 s6:Value)(wx:World):Prop:=
 ∃(j:Nat)(v:Int)(acc:List Int),g+j=63/\s6= .int .i64 j/\s0= .int .i64 v/\0<=v/\v<2 ^ g/\v<2147483648/\s5= .string (sB (acc.map eF))/\w=wx/\acc.length<=j/\Hid (iP b 64 0 v0=acc++iP b (g+1) j v)
theorem aGt(v b:Int)(r:0<=v/\v<2147483648)(S: -100000<=b/\b<=100000)(w:World):
 Calls prog 245 #[.int .i64 v,.int .i64 b] w λe w'=>e= .returned (.string (sB ((iP b 64 0 v).map eF)))/\w=w':=by
 generalize s:v=v0 at*;clear s;go_enter func245,ntmps245;go_wp2;go_loopg[0,5,6] 63 (λx y z A B=>aRP w b v0 x y z A B);exact⟨0,v0,[],by omega,rfl,rfl,r.1,by omega,r.2,rfl,rfl,by simp,rfl⟩;obtain⟨j,v,a,T,rfl,rfl,C,g,D,rfl,rfl,G,l⟩:=hrel;have m:(0:Int)<=(j:Int)/\(j:Int)<=4096:=by omega
 have ht:=AA j b;have c:Hid (iP b (gk+1) j v=if v<gy j b then[v]else(gy j b+(v - gy j b) % (36 - gy j b))::iP b gk (j+1) ((v - gy j b) / (36 - gy j b))):=rfl;have q:=ah (Ri j b m S w);generalize gy j b=t at*;have i:Hid ((a.map eF).length=a.length):=ah (List.length_map _);go_wp2_with fail;refine q.out.mono ?_;rintro e w'⟨rfl,rfl⟩;by_cases d:v<t
 .rw[if_pos d]at c;have H:decide (v<t)=true:=by rw[au];exact d
  have n:=ah (Rh v (by omega) w);have I:Hid ((iP b 64 0 v0).map eF=a.map eF++[eF v]):=ah (by rw[l.out,c.out];simp);have J:(a.map eF).length<=64:=by rw[i.out];omega
  have K:[eF v].length<=1:=Nat.le_refl _;generalize[eF v]=E at*;generalize a.map eF=F at*;go_wp2_with fail;refine n.out.mono ?_;rintro e w'⟨rfl,rfl⟩;go_wp2;go_ret;exact⟨by rw[I.out];rfl,rfl⟩
 .rw[if_neg d]at c;have H:decide (v<t)=false:=by rw[aA];exact d
  have L:=Int.emod_nonneg (v - t) (b:=36 - t) (by omega);have M:=Int.emod_lt_of_pos (v - t) (b:=36 - t) (by omega);have k:0<=(v - t) / (36 - t):=Int.ediv_nonneg (by omega) (by omega);have N:(v - t) / (36 - t)*2<=v:=by
   have O:=Int.mul_ediv_add_emod (v - t) (36 - t);have U:(v - t) / (36 - t)*2<=(v - t) / (36 - t)*(36 - t):=Int.mul_le_mul_of_nonneg_left (by omega) k;rw[Int.mul_comm (36 - t)]at O;omega
  obtain⟨f,rfl⟩:∃P,gk=P+1:=by
   rcases Nat.eq_zero_or_pos gk with h|h
   .subst h;exact absurd g (by omega)
   .exact⟨gk - 1,by omega⟩
  have o:(v - t) / (36 - t)<2 ^ f:=by rw[Int.pow_succ]at g;omega
  have n:=ah (Rh (t+(v - t) % (36 - t)) (by omega) w);have p:=aI l (show _=(a++[t+(v - t) % (36 - t)])++iP b (f+1) ((j+1:Nat):Int) ((v - t) / (36 - t))from by rw[c.out];simp);have Q:t+(v - t) % (36 - t)<62:=by omega
  have J:(a.map eF).length<=64:=by rw[i.out];omega
  have K:[eF (t+(v - t) % (36 - t))].length<=1:=Nat.le_refl _;have R:Hid (a.map eF++[eF (t+(v - t) % (36 - t))]=(a++[t+(v - t) % (36 - t)]).map eF):=ah (by simp);generalize[eF (t+(v - t) % (36 - t))]=E at*;generalize a.map eF=F at*;clear l c q;go_wp2_with fail;refine n.out.mono ?_;rintro e w'⟨rfl,rfl⟩;go_wp2;go_roundg f;exact⟨j+1,_,a++[t+(v - t) % (36 - t)],by omega,by go_num,rfl,k,o,by omega,by rw[R.out],rfl,by simp;omega,p⟩;omega
theorem Rj(d p:Int)(f:Bool)(O:0<=d/\d<2147483648)(P:1<=p/\p<=4096)(w:World):Calls prog 191 #[.int .i64 d,.int .i64 p,.bool f] w λe w'=>e= .returned (.int .i64 (nJ d p f))/\w=w':=by
 have n:Hid (nJ d p f=adG 64 0 ((if f then d / 700 else d / 2)+(if f then d / 700 else d / 2) / p)):=ah (by unfold nJ;rw[if_neg (by omega)]);generalize nJ d p f=V at*;obtain⟨a,b⟩:=eY' (if f=true then d / 700 else d / 2);rw[b]at n;have i:0<=a/\a<=1073741824:=by rw[<- b];cases f<;>simp<;>omega
 have r:0<=a / p:=Int.ediv_nonneg (by omega) (by omega);have s:a / p<=a:=Int.ediv_le_self p i.1;have o:Hid (a+a / p<64339296875):=ah (by omega);have I:decide (d<0)=false:=dF';have J:decide (1099511627776<d)=false:=dF';have K:decide (p<1)=false:=dF';have L:decide (4096<p)=false:=dF';go_enter func191,ntmps191;cases f<;>simp only[Bool.false_eq_true,if_false,if_true]at b
 all_goals
  go_wp2_with fail;rw[b];clear b;go_loopg[0,7] 7 (λt y z A=>QH w (a+a / p) t y z A);exact⟨0,a+a / p,rfl,rfl,by omega,o.out,o.out,by omega,by omega,rfl,rfl⟩;obtain⟨k,x,rfl,rfl,B,g,C,D,M,rfl,j⟩:=hrel;have l:Hid (adG (57+gk) k x=if x<=455 then k+36*x / (x+38)else adG (56+gk) (k+36) (x / 35)):=ah (by rw[show 57+gk=(56+gk)+1 by omega];rfl);by_cases q:x<=455
  .have E:Hid (V=k+36*x / (x+38)):=ah (by rw[n.out,j.out,l.out,if_pos q]);have N:0<=36*x / (x+38):=Int.ediv_nonneg (by omega) (by omega);have F:36*x / (x+38)<=36*x:=Int.ediv_le_self _ (by omega);go_wp2;go_ret;exact⟨aU E.out.symm,rfl⟩
  .obtain⟨c,rfl⟩:∃G,gk=G+1:=by
    rcases Nat.eq_zero_or_pos gk with h|h
    .subst h;exact absurd g (by omega)
    .exact⟨gk - 1,by omega⟩
   have H:x / 35<35 ^ c:=(by rw[Int.pow_succ]at g;omega);have m:=aI j (show _=adG (57+c) (k+36) (x / 35)from by rw[l.out,if_neg q];congr 1;omega);clear j l;go_wp2;go_roundg c;exact⟨k+36,x / 35,rfl,rfl,by omega,H,by omega,by omega,by omega,rfl,m⟩;omega
def PlS(w:World)(base:Nat)(g n:Nat)(pl:Nat->Bool):Prop:=base<=g/\g<w.heap.size/\∀k,k<n->w.cell? ⟨g,k,none⟩=some (.bool (pl k))/\w.frozen? ⟨g,k,none⟩=false
def aGq(l:List Int)(pl:Nat->Bool)(w:World)(g:Nat)(s5 s10:Value)(wx:World):Prop:=
 ∃(q:Nat)(a:Int),g+q=l.length/\s10= .int .i64 q/\s5= .int .i64 a/\wx=w/\Hid (sO l pl q a)
theorem aGr(l:List Int)(j:Nat->Bool)(A:Option Addr)(n c s g P:Nat)(w:World)(t:aF w ⟨A,n,c⟩ l)(D:PlS w s g l.length j):
 Calls prog 244 #[.slice A n c,.slice (some ⟨g,0,none⟩) l.length P] w λe w'=>∃a,e= .returned (.int .i64 a)/\w=w'/\sO l j l.length a:=by
 have E:=t.len.1;have Q:=t.len;subst E;have C:=ah t;have F:=ah D;clear t D;go_enter func244,ntmps244;go_wp2;go_loopg[5,10] l.length (λG H z I=>aGq l j w G H z I);exact⟨0,-1,by omega,rfl,rfl,rfl,ah (Qz l j)⟩;obtain⟨q,a,R,rfl,rfl,rfl,i⟩:=hrel;by_cases k:q<l.length
 .obtain⟨b,o,p,J⟩:=C.out.at_ k;subst p;have r:=(F.out.2.2 q k).1;cases f:j q
  case true=>
   have h:=ah (QD i.out f);rw[f]at r;generalize l[q]=x at*;go_wp2;go_roundg (l.length - (q+1));exact⟨q+1,a,by omega,by go_num,rfl,rfl,h⟩;omega
  rw[f]at r;rcases i.out with⟨rfl,_⟩|⟨m,B,rfl,K,_⟩
  .have h:=ah (Qy i.out k f);generalize l[q]=x at*;go_wp2;go_roundg (l.length - (q+1));exact⟨q+1,q,by omega,by go_num,rfl,rfl,h⟩;omega
  .obtain⟨S,T,p,L⟩:=C.out.at_ B;injection p with p;injection p with M N;subst M N;by_cases d:l[q]<l[m]
   .have h:=ah (QC i.out k B f d);have O:decide (l[q]<l[m])=true:=(by rw[au];exact d);generalize l[q]=x at*;generalize l[m]=y at*;clear d;go_wp2;go_roundg (l.length - (q+1));exact⟨q+1,q,by omega,by go_num,rfl,rfl,h⟩;omega
   .have h:=ah (QB i.out k B d);have O:decide (l[q]<l[m])=false:=(by rw[aA];exact d);generalize l[q]=x at*;generalize l[m]=y at*;clear d;go_wp2;go_roundg (l.length - (q+1));exact⟨q+1,m,by omega,by go_num,rfl,rfl,h⟩;omega
 .have h:Hid (sO l j l.length a):=ah (by rw[show l.length=q by omega];exact i.out);clear i;go_wp2;go_ret;exact⟨a,rfl,rfl,h.out⟩
theorem infoBool:(prog.info? 4).map (λi=>(i.zero,i.size,i.bytes))=some (some (.bool false),1,1):=by kernel_rfl
theorem PlS.ext{w w':World}{a g n:Nat}{f:Nat->Bool}(h:PlS w a g n f)(c:Ext w w'):PlS w' a g n f:=
 ⟨h.1,Nat.lt_of_lt_of_le h.2.1 c.b.size,λk d=>⟨bD (bH c) (h.2.2 k d).1,by rw[<- (h.2.2 k d).2];exact c.b.frozen (p:=⟨g,k,none⟩) h.2.1⟩⟩
theorem PlS.congr{w:World}{a g n:Nat}{p q:Nat->Bool}(h:PlS w a g n p)(e:∀k,k<n->p k=q k):PlS w a g n q:=
 ⟨h.1,h.2.1,λk b=>by rw[<- e k b];exact h.2.2 k b⟩
theorem PlS.set{w:World}{b g n a:Nat}{d:Nat->Bool}(h:PlS w b g n d)(f:a<n):PlS (w.setCell ⟨g,a,none⟩ (.bool true)) b g n (λk=>d k||k==a):=
 ⟨h.1,by simpa using h.2.1,λk c=>⟨by
  by_cases e:k=a
  .subst e;rw[World.cell?_setCell_same w _ (.bool true) (h.2.2 k c).1];simp
  .rw[World.cell?_setCell_other w _ _ (.bool true) (by simp;try omega),(h.2.2 k c).1]
   simp[e],by simpa using(h.2.2 k c).2⟩⟩
def FwR(l:List Int)(pl:Nat->Bool)(n i b:Int)(f:Bool)(acc:List Int):Prop:=∀ds,nX l pl n i b f ds->nX l (plc l 128 0) 128 0 72 true (acc++ds)
def Ei(l:List Int)(pl:Nat->Bool)(n i:Int):Prop:=∀k(hk:k<l.length),pl k=false->n<=l[k]/\(l[k]=n->i<=bU pl k)
theorem inv_start(l:List Int):Ei l (plc l 128 0) 128 0:=λk a h=>by
 rw[ql a]at h;simp only[Bool.or_eq_false_iff,aA]at h;exact⟨by omega,λ_=>by omega⟩
theorem Rl{l:List Int}{b:Nat->Bool}{n i:Int}{a:Nat}(h:Ei l b n i)(w:AB l b a)(g:a<l.length)(A:0<=n)(B:0<=i/\i<=bU b l.length)(C:l[a]<=1114111)(o:l.length<=256):
 (0<=(l[a] - n)*((bU b l.length:Int)+1)+bU b a - i/\(l[a] - n)*((bU b l.length:Int)+1)+bU b a - i<2147483648)/\n<=l[a]/\Ei l (λk=>b k||k==a) l[a] (bU b a+1)/\bU (λk=>b k||k==a) l.length=bU b l.length+1:=by
 obtain⟨_,c,f⟩:=w;have j:=h a g c;have p:=uZ b l.length;have q:=AO b (Nat.le_of_lt g);have x:=Eh (a:=l[a] - n) (h:=bU b l.length) (by omega) (by omega) (by omega) (by omega);refine⟨⟨?_,by omega⟩,j.1,?_,by rw[AL c,if_pos g]⟩
 .by_cases r:l[a] - n=0
  .have:=j.2 (by omega);rw[r];omega
  .have:1*((bU b l.length:Int)+1)<=(l[a] - n)*((bU b l.length:Int)+1):=Int.mul_le_mul_of_nonneg_right (by omega) (by omega);omega
 .intro k s d;simp only[Bool.or_eq_false_iff,aP]at d;have m:=f k s d.1;refine⟨m.1,λe=> ?_⟩;have y:=m.2 e;have t:a<k:=by have:=d.2;omega
  rw[AL c,if_pos t];have z:=AO b (show a<=k by omega);omega
def aH6(w:World)(l:List Int)(G:Nat)(g:Nat)(s4 s26:Value)(wx:World):Prop:=
 ∃k:Nat,g+k=l.length/\s26= .int .i64 k/\s4= .string (sB (iQ (l.take k)))/\Hid (PlS wx G G l.length (λj=>decide (j<k)&&plc l 128 0 j))/\Ext w wx/\Hid ((l.take k).any (λc=> !aY c)=false)
def JX(w:World)(l:List Int)(G:Nat)(g:Nat)(s4 s8 s9 s10 s11:Value)(wx:World):Prop:=
 ∃(pl:Nat->Bool)(n i b:Int)(f:Bool)(S acc:List Int),Hid (g+bU pl l.length=l.length)/\s4= .string (sB S)/\s8= .int .i64 n/\s9= .int .i64 i/\s10= .int .i64 b/\s11= .bool f/\Hid (S=lN l++acc.map eF)/\
  Hid (PlS wx G G l.length pl)/\Ext w wx/\Hid (FwR l pl n i b f acc)/\Hid (Ei l pl n i)/\0<=n/\n<=1114111/\0<=i/\Hid (i<=bU pl l.length)/\0<=b/\b<=2400/\Hid (S.length<=257+64*bU pl l.length)
def aRO(l:List Int)(pl:Nat->Bool)(a:Nat)(w1:World)(g:Nat)(s13 s14 s58:Value)(wx:World):Prop:=
 ∃q:Nat,g+q=l.length/\s58= .int .i64 q/\s13= .int .i64 (bU pl q)/\s14= .int .i64 (bU pl (min q a))/\wx=w1
theorem aGu(l:List Int)(A:Option Addr)(n c:Nat)(w:World)(hi:aF w ⟨A,n,c⟩ l):Calls prog 169 #[.slice A n c] w (xA w (jE l)):=by
 have HD:Hid (jE l=if 256<l.length then([],7)else if l.any (λc=> !aY c)then([],3)else(jZ l,0)):=rfl;generalize jE l=D at*;have hn:=hi.len.1;subst hn;have HI:=ah hi;clear hi;by_cases h1:256<l.length
 .rw[if_pos h1]at HD;go_enter func169,ntmps169;go_wp2;go_ret2;exact⟨by rw[HD.out];rfl,Ext.refl _⟩
 rw[if_neg h1]at HD;obtain⟨i0,O,ax,ay,az⟩:=info_parts infoBool;go_enter func169,ntmps169;go_wp2_with(at_make;refine wpList_make_full _ rfl _ _ 194 rfl w.heap.size 4 i0 (.bool false) 1 underlying194 O ax ay .i64 .i64 _ _ l.length rfl rfl rfl rfl (by rw[az];omega) (by unfold maxLen;omega) (Nat.le_refl _) ?_);intro w1 g aD
 have a0:Hid (PlS w1 w.heap.size w.heap.size l.length (λj=>decide (j<0)&&plc l 128 0 j)):=ah (by
  rw[toList_madeCells_one]at g;refine⟨Nat.le_refl _,(World.ownsRow.lt g w.heap.size rfl).2,λk C=>⟨?_,World.ownsRow.frozenAt g k⟩⟩;rw[World.ownsRow.cellAt g k (by omega),List.getElem?_replicate,if_pos (by omega)]
  rfl)
 have aE:Hid (Ext w w1):=ah (dU (Ext.refl _) aD (λk C=>by cases C));clear g aD O ax ay az;obtain⟨G,hG⟩:=eY' w.heap.size;rw[hG]at a0 |-;have HG:Hid (w.heap.size<=G):=ah (by omega);clear hG;go_wp2;go_loopg[4,26] l.length (λgh s4 bi wx=>aH6 w l G gh s4 bi wx);exact⟨0,by omega,rfl,rfl,a0,aE.out,rfl⟩;clear a0 aE;obtain⟨k,hg,rfl,rfl,t,P,HN⟩:=hrel;have B:=ah P;have a3:=Gf (l.take k);rw[List.length_take]at a3;clear P;by_cases C:k<l.length
 .obtain⟨b,o,hA,aM⟩:=(HI.out.ext B.out).at_ C;subst hA;have aR:=ah (xC (f:=λc=> !aY c) C);have aZ:=ah (anyM (f:=λc=> !aY c) C);have HT:=ah (JK C);have Q:=ah (ql C 128 0);generalize l[k]=x at*;go_wp2_with fail;refine(yO _ _).mono ?_;rintro e w'⟨rfl,rfl⟩;cases hs:aY x
  .have HF:Hid (D=([],3)):=ah (by rw[HD.out,if_pos (aZ.out (by simp[hs]))]);have P:=B.out;go_wp2;go_ret2;exact⟨by rw[HF.out];rfl,P⟩
  .have b3:Hid ((l.take (k+1)).any (λc=> !aY c)=false):=ah (by rw[aR.out,HN.out];simp[hs]);have hx:=uY hs;clear HN aR aZ;by_cases b4:x<128
   .rw[if_pos b4]at HT;have F:plc l 128 0 k=true:=(by rw[Q.out];simp;omega);have bE:=yF wr #[.int .u8 x] [x] 1 rfl rfl (by omega);have b5:Ext wr (wr.alloc (.cells #[.int .u8 x] 5)):=(Ext.refl _).aC _;have R:=ah (t.out.ext b5);have bG:=(R.out.2.2 k C).1;have bJ:=(R.out.2.2 k C).2
    have a4:Hid (PlS ((wr.alloc (.cells #[.int .u8 x] 5)).setCell ⟨G,k,none⟩ (.bool true)) G G l.length (λj=>decide (j<k+1)&&plc l 128 0 j)):=ah ((R.out.set C).congr (λj _=>by
     by_cases e:j=k
     .subst e;simp[F]
     .have e1:decide (j<k+1)=decide (j<k):=(by rw[decide_eq_decide];omega);have e2:(j==k)=false:=by rw[aP];exact e
      simp only[e1,e2,Bool.or_false]))
    have bj:Hid (Ext w ((wr.alloc (.cells #[.int .u8 x] 5)).setCell ⟨G,k,none⟩ (.bool true))):=ah ((B.out.trans' b5).kD HG.out _);have bL:[x].length<=1:=Nat.le_refl _;have bk:Hid (iQ (l.take k)++[x]=iQ (l.take (k+1))):=ah HT.out.symm;generalize[x]=E at*;generalize iQ (l.take k)=S at*;clear t R HT Q F;go_wp2;go_roundg (l.length - (k+1));exact⟨k+1,by omega,by go_num,by rw[bk.out],a4,bj.out,b3⟩;omega
   .rw[if_neg b4,List.append_nil]at HT;have F:plc l 128 0 k=false:=by rw[Q.out];simp;omega
    have a4:Hid (PlS wr G G l.length (λj=>decide (j<k+1)&&plc l 128 0 j)):=ah (t.out.congr (λj _=>by
     by_cases e:j=k
     .subst e;simp[F]
     .have e1:decide (j<k+1)=decide (j<k):=by rw[decide_eq_decide];omega
      simp only[e1]))
    clear t Q F;go_wp2;go_roundg (l.length - (k+1));exact⟨k+1,by omega,by go_num,by rw[HT.out],a4,B.out,b3⟩;omega
 .have he:l.take k=l:=List.take_of_length_le (by omega);rw[he]at HN a3;have HF:Hid (D=(jZ l,0)):=ah (by rw[HD.out,if_neg (by rw[HN.out];simp)])
  have mg:Hid (∀x∈l,0<=x/\x<=1114111):=ah (λx hx=>uY (by
   cases hs:aY x
   .have h:l.any (λc=> !aY c)=true:=List.any_eq_true.2 ⟨x,hx,by simp[hs]⟩;rw[HN.out]at h;cases h
   .rfl))
  have a5:Hid (PlS wr G G l.length (plc l 128 0)):=ah (t.out.congr (λj hj=>by
   have:decide (j<k)=true:=dT'
   simp only[this,Bool.true_and]))
  have hl:l.length<=256:=by omega
  rw[he];have gZ:Hid (lN l=iQ l++if(iQ l).length=0 then[]else[45]):=rfl;have a6:=ah (uZ (plc l 128 0) l.length);have z:=ah (JR (l:=l) l.length (Nat.le_refl _));rw[List.take_of_length_le (Nat.le_refl _)]at z;clear a3 h1 hg HD HN t he;generalize wr=w2 at*;generalize iQ l=S at*;have bl:=a6.out;rw[z.out]at bl
  have T:Hid (∀M,M=lN l->JX w l G (l.length - S.length) (.string (sB M)) (.int .i64 128) (.int .i64 0) (.int .i64 72) (.bool true) w2):=ah (λM e=>by
   refine⟨plc l 128 0,128,0,72,true,M,[],ah (by rw[z.out];omega),rfl,rfl,rfl,rfl,rfl,ah (by simpa using e),a5,B.out,ah (λN h=>h),ah (inv_start l),by omega,by omega,by omega,ah (by omega),by omega,by omega,ah ?_⟩;rw[e,gZ.out,List.length_append,z.out]
   split<;>simp<;>omega)
  have a7:=xG S;cases hS:S.isEmpty
  case' true=>
   rw[hS]at a7;have U:=ah (T.out S (by rw[gZ.out,List.isEmpty_iff.1 hS];rfl));clear T gZ a6 z a5 B hS;go_wp2;go_loopg[4,8,9,10,11] (l.length - S.length) (λgh s4 s8 s9 a9 aa wx=>JX w l G gh s4 s8 s9 a9 aa wx)
   case atStart=>exact U.out
  case' false=>
   rw[hS]at a7;have U:=ah (T.out (S++[45]) (by rw[gZ.out,if_neg (by intro h;rw[List.eq_nil_of_length_eq_zero h]at hS;cases hS)]));have bm:(⟨#[45]⟩:ByteArray)=sB [45]:=rfl;clear T gZ a6 z a5 B hS;go_wp2_with fail;clear bm;go_loopg[4,8,9,10,11] (l.length - S.length) (λgh s4 s8 s9 a9 aa wx=>JX w l G gh s4 s8 s9 a9 aa wx)
   case atStart=>exact U.out
  all_goals
   clear a7 U;obtain⟨d,n,i,b,f,M,ab,ac,rfl,rfl,rfl,rfl,rfl,HS,t,P,ad,b8,bn,bN,O,ae,bO,bR,b9⟩:=hrel;have B:=ah P;have fU:=ah (uZ d l.length);obtain⟨g2,bo⟩:=eX' gk;rw[<- bo]at ac;clear P;go_wp2_with fail;refine(aGr l d A l.length c G G l.length wr (HI.out.ext B.out) t.out).mono ?_;rintro e w'⟨a,rfl,rfl,hq⟩;rcases QE hq with⟨rfl,Z⟩|⟨m,rfl,ba⟩
   .have hR:=ad.out [] (.done Z);rw[List.append_nil]at hR;have bp:Hid (D=(M,0)):=ah (by rw[HF.out];unfold jZ;rw[JW hR,HS.out]);have P:=B.out;clear Z hq hR;go_wp2;go_ret2;exact⟨by rw[bp.out];rfl,P⟩
   .have af:=ah ba;obtain⟨W,_,_⟩:=ba;have bS:decide ((m:Int)<0)=false:=dF';clear hq;generalize wr=w3 at*;go_wp2;go_loopg[13,14,58] l.length (λgh bq br bs wx=>aRO l d m w3 gh bq br bs wx);exact⟨0,by omega,rfl,rfl,by simp[bU],rfl⟩;obtain⟨q,bt,rfl,rfl,rfl,rfl⟩:=hrel;have bu:=uZ d q;have bv:=uZ d (min q m);by_cases hq:q<l.length
    .have bb:=(t.out.2.2 q hq).1;have p:=ah (yG d q);have r:Hid (q<m->min (q+1) m=q+1/\min q m=q):=ah (by omega);have s:Hid (¬q<m->min (q+1) m=m/\min q m=m):=ah (by omega);cases bc:d q
     .rw[bc]at bb p
      have I:Hid (bU d (min (q+1) m)=bU d (min q m)):=ah (by
       by_cases h:q<m
       .rw[(r.out h).1,(r.out h).2,p.out];rfl
       .rw[(s.out h).1,(s.out h).2])
      have K:Hid (bU d (q+1)=bU d q):=p;clear p r s;go_wp2;go_roundg (l.length - (q+1));exact⟨q+1,by omega,by go_num,by rw[K.out],by rw[I.out],rfl⟩;omega
     .rw[bc]at bb p;have K:Hid (bU d (q+1)=bU d q+1):=p;by_cases h:q<m
      .have I:Hid (bU d (min (q+1) m)=bU d (min q m)+1):=ah (by rw[(r.out h).1,(r.out h).2,K.out]);clear p r s;go_wp2;go_roundg (l.length - (q+1));exact⟨q+1,by omega,by go_num,by rw[K.out];go_num,by rw[I.out];go_num,rfl⟩;omega
      .have I:Hid (bU d (min (q+1) m)=bU d (min q m)):=ah (by rw[(s.out h).1,(s.out h).2]);clear p r s;go_wp2;go_roundg (l.length - (q+1));exact⟨q+1,by omega,by go_num,by rw[K.out];go_num,by rw[I.out],rfl⟩;omega
    .have X:=mg.out _ (List.getElem_mem W);obtain⟨hv,bw,Rx,L⟩:=Rl b8.out af.out W bn ⟨O,ae.out⟩ X.2 hl
     have Cb:Hid (FwR l (λk=>d k||k==m) l[m] (bU d m+1) (nJ ((l[m] - n)*((bU d l.length:Int)+1)+bU d m - i) ((bU d l.length:Int)+1) f) false (ab++iP b 64 0 ((l[m] - n)*((bU d l.length:Int)+1)+bU d m - i))):=ah (λN hr=>by
      rw[List.append_assoc]
      exact ad.out _ (.step W af.out rfl hr))
     have Kr:=ah Rx;have Gu:=ah L;have Y:=ah (AO d (Nat.le_of_lt W));have bx:=fU.out;have Rw:=uZ (λk=>d k||k==m) l.length;rw[L]at Rw;have Gt:=ah b9.out;have RD:=ah ac.out;have RF:=ah ae.out;have bz:Hid (PlS (wr.setCell ⟨G,m,none⟩ (.bool true)) G G l.length (λk=>d k||k==m)):=ah (t.out.set W);have bd:Hid (Ext w (wr.setCell ⟨G,m,none⟩ (.bool true))):=ah (B.out.kD HG.out _);have bT:=(t.out.2.2 m W).1;have bV:=(t.out.2.2 m W).2;obtain⟨b',o',hA,aM⟩:=(HI.out.ext B.out).at_ W;subst hA;obtain⟨bW,bX,ai,bA⟩:=(HI.out.ext bd.out).at_ W;injection ai with ai;injection ai with e1 e2;subst e1 e2;rw[show q=l.length by omega,show min l.length m=m by omega];clear ad b8 t af fU Rx L bu bv hq bt b9 ac ae;have al:=Eh (a:=l[m] - n) (h:=bU d l.length) (by omega) (by omega) (by omega) (by omega);obtain⟨H,hH⟩:=eY' (bU d l.length);obtain⟨J,hJ⟩:=eY' (bU d m);rw[hH]at hv Cb Gu Gt RD RF bx al Y Rw |-;rw[hJ]at hv Cb Kr Y |-;have bZ:=Y.out;clear hH hJ Y;obtain⟨y,hy⟩:=eY' (l[m]);rw[hy]at hv Cb Kr al aM bA bw X;clear hy;have be:(1:Int)<=(H:Int)+1/\(H:Int)+1<=4096:=(by omega);have am:=ah (aGt ((y - n)*((H:Int)+1)+J - i) b hv (by omega) wr);have an:=ah (Rj ((y - n)*((H:Int)+1)+J - i) ((H:Int)+1) f hv be wr);have ao:=Gg (f:=f) hv.1 be.1;have ap:=G9 b 64 0 ((y - n)*((H:Int)+1)+J - i);obtain⟨N,bf⟩:=eY' (iP b 64 0 ((y - n)*((H:Int)+1)+J - i));rw[bf]at am Cb ap;obtain⟨b2,bh⟩:=eY' (nJ ((y - n)*((H:Int)+1)+J - i) ((H:Int)+1) f);rw[bh]at an ao Cb;have c0:M.length<=17000:=(by have:=Gt.out;omega);have c1:(N.map eF).length<=64:=(by rw[List.length_map];exact ap);have bB:Hid (M++N.map eF=lN l++(ab++N).map eF):=ah (by rw[HS.out];simp);have bC:Hid ((M++N.map eF).length<=257+64*(H+1)):=ah (by rw[List.length_append];have:=Gt.out;omega);generalize N.map eF=E at*;clear bf bh ap;obtain⟨V,hV⟩:=eY' ((y - n)*((H:Int)+1));rw[hV]at hv am an al;have c2:i<=H:=RF.out;go_wp2_with fail;refine am.out.mono ?_;rintro e w'⟨rfl,rfl⟩;go_wp2_with fail;refine an.out.mono ?_;rintro e w'⟨rfl,rfl⟩;go_wp2_with fail;have c3:=RD.out;go_roundg (g2 - 1);exact⟨_,y,(J:Int)+1,b2,false,M++E,ab++N,ah (by rw[Gu.out];omega),rfl,rfl,rfl,rfl,rfl,bB,bz,bd.out,Cb,Kr,X.1,X.2,by omega,ah (by rw[Gu.out];omega),ao.1,ao.2,ah (by rw[Gu.out];exact bC.out)⟩;omega
theorem aJv(b:Int)(h:0<=b/\b<256)(w:World):Calls prog 250 #[.int .u8 b] w λe w'=>e= .returned (.int .i64 ((fE b).getD (-1)))/\w=w':=by
 have a:Hid (fE b=if 97<=b/\b<=122 then some (b - 97)else if 65<=b/\b<=90 then some (b - 65)else if 48<=b/\b<=57 then some (b - 22)else none):=rfl;generalize fE b=V at*;by_cases c:97<=b/\b<=122
 .rw[if_pos c]at a;rw[a.out];go_enter func250,ntmps250;go_wp2
  all_goals(go_ret;exact⟨rfl,rfl⟩)
 rw[if_neg c]at a;by_cases d:65<=b/\b<=90
 .rw[if_pos d]at a;rw[a.out];go_enter func250,ntmps250;go_wp2
  all_goals(go_ret;exact⟨rfl,rfl⟩)
 rw[if_neg d]at a;by_cases f:48<=b/\b<=57
 .rw[if_pos f,show b - 22=b - 48+26 by omega]at a;rw[a.out];go_enter func250,ntmps250;go_wp2
  all_goals(go_ret;exact⟨rfl,rfl⟩)
 .rw[if_neg f]at a;rw[a.out];go_enter func250,ntmps250;go_wp2
  all_goals(first|omega|(go_ret;exact⟨rfl,rfl⟩))
def aKQ(s:List Int)(k:Nat)(b:Int)(e:Ending):Prop:=
 (jl b ((s.drop k).map fE) 0 0 1=none/\e= .returned (.tuple #[.int .i64 0,.int .i64 0,.bool false]))\/
 ∃(v:Int)(m:Nat),jl b ((s.drop k).map fE) 0 0 1=some (v,(s.drop m).map fE)/\k<m/\m<=s.length/\0<=v/\v<=2147483648/\e= .returned (.tuple #[.int .i64 v,.int .i64 m,.bool true])
def aKp(s:List Int)(k0:Nat)(b:Int)(w:World)(g:Nat)(s1 s9 s10 s11:Value)(wx:World):Prop:=
 ∃(j:Nat)(v x:Int),g+j+k0=s.length/\s1= .int .i64 ((j+k0:Nat):Int)/\s11= .int .i64 j/\s9= .int .i64 v/\s10= .int .i64 x/\0<=v/\v<=2147483648/\1<=x/\x<=2147483648/\wx=w/\Hid (jl b ((s.drop k0).map fE) 0 0 1=jl b ((s.drop (j+k0)).map fE) j v x)
theorem aKC(s:List Int)(N:IsB s)(hm:s.length<=4096)(f:Nat)(a1:f<=s.length)(b:Int)(hb: -100000<=b/\b<=100000)(w:World):Calls prog 190 #[.string (sB s),.int .i64 f,.int .i64 b] w λe w'=>aKQ s f b e/\w=w':=by
 have J:=ah N;clear N;go_enter func190,ntmps190;go_wp2;go_loopg[1,9,10,11] (s.length - f) (λO P Q A B R=>aKp s f b w O P Q A B R);exact⟨0,0,1,by omega,by simp,rfl,rfl,rfl,by omega,by omega,by omega,by omega,rfl,by rw[Nat.zero_add];rfl⟩;obtain⟨j,v,x,hg,rfl,rfl,rfl,rfl,S,T,U,l,rfl,c⟩:=hrel;obtain⟨a,V⟩:=eY' (j+f);rw[V]at c |-;by_cases C:a<s.length
 .have hx:=ixc J.out C wr;have W:=wG J.out a;have m:Hid ((s.drop a).map fE=fE (s.getD a 0)::(s.drop (a+1)).map fE):=ah (by rw[drop_at s a C,List.map_cons,getD_lt s a 0 C]);have z:=ah (aJv (s.getD a 0) W wr);have D:(0:Int)<=(j:Int)/\(j:Int)<=4096:=by omega
  have ht:=AA j b;have K:=ah (λw=>Ri j b D hb w);cases g:fE (s.getD a 0)with
  |none=>
   rw[g]at m z;have E:Hid (jl b ((s.drop f).map fE) 0 0 1=none):=ah (by rw[c.out,m.out];rfl);generalize s.getD a 0=y at*;clear K ht;go_wp2_with fail;refine z.out.mono ?_;rintro e w'⟨rfl,rfl⟩;simp only[Option.getD];go_wp2;go_ret3;exact⟨.inl ⟨E.out,rfl⟩,rfl⟩
  |some d=>
   rw[g]at m z;have F:=RN g;have G:=Gw F.1 (by omega) (by omega) l;have L:Hid (jl b (some d::(s.drop (a+1)).map fE) j v x=if d<gy j b then some (min (v+d*x) qJ,(s.drop (a+1)).map fE)else jl b ((s.drop (a+1)).map fE) (j+1) (min (v+d*x) qJ) (min (x*(36 - gy j b)) qJ)):=rfl;rw[m.out,L.out]at c;generalize s.getD a 0=y at*;generalize gy j b=t at*;clear L m;have n:=Gw (d:=36 - t) (by omega) (by omega) (by omega) l;rw[Int.mul_comm]at n;obtain⟨p,X⟩:=eY' (d*x);obtain⟨q,Y⟩:=eY' (x*(36 - t));rw[X]at G c;rw[Y]at n c;have h:0<=min 2147483648 (v+p)/\min 2147483648 (v+p)<=2147483648:=(by omega);obtain⟨u,M⟩:=eY' (min 2147483648 (v+p));have Z:Hid (min (v+p) qJ=u):=ah (by rw[<- M,Int.min_comm];rfl);rw[M]at h;rw[Z.out]at c;have k:1<=min 2147483648 q/\min 2147483648 q<=2147483648:=by
    have:x*1<=x*(36 - t):=Int.mul_le_mul_of_nonneg_left (by omega) (by omega);omega
   obtain⟨o,r⟩:=eY' (min 2147483648 q);have HQ:Hid (min q qJ=o):=ah (by rw[<- r,Int.min_comm];rfl);rw[r]at k;rw[HQ.out]at c;go_wp2_with fail;refine z.out.mono ?_;rintro e w'⟨rfl,rfl⟩;simp only[Option.getD];go_wp2_with fail;refine(K.out _).mono ?_;rintro e w'⟨rfl,rfl⟩;by_cases i:d<t
   .rw[if_pos i]at c;have H:decide (d<t)=true:=(by rw[au];exact i);go_wp2;go_ret3;exact⟨.inr ⟨u,a+1,c.out,by omega,by omega,h.1,h.2,rfl⟩,rfl⟩
   .rw[if_neg i]at c;have H:decide (d<t)=false:=(by rw[aA];exact i);have I:Hid (jl b ((s.drop f).map fE) 0 0 1=jl b ((s.drop (a+1)).map fE) ((j+1:Nat):Int) u o):=c;go_wp2;go_roundg (s.length - f - (j+1));exact⟨j+1,u,o,by omega,by rw[show j+1+f=a+1 by omega];go_num,by go_num,rfl,rfl,h.1,h.2,k.1,k.2,rfl,by rw[show j+1+f=a+1 by omega];exact I⟩;omega
 .have F:s.drop a=[]:=bQ s a (by omega);have E:Hid (jl b ((s.drop f).map fE) 0 0 1=none):=ah (by rw[c.out,F];rfl);go_wp2;go_ret3;exact⟨.inl ⟨E.out,rfl⟩,rfl⟩
theorem aLJ{w:World}{A:Option Addr}{n c M:Nat}{l:List Int}(h:aF w ⟨A,n,c⟩ l)(o:M<=l.length):
 (∀W,(Instr.slice 22 (.slice A n c) none (some (.int .i64 (M:Int))) none).run prog W= .ok (.slice A M c) W)/\aF w ⟨A,M,c⟩ (l.take M):=by
 obtain⟨j,k,d⟩:=h.len;have ht:prog.underlying 22=some (.slice (prog.elem 22)):=by kernel_rfl
 obtain⟨m,b,_,f,_⟩:=info_parts infoInt;have g:∀W,(Go.sizeOf (prog.elem 22)).run prog W= .ok 1 W:=λW=>by
  show(Go.sizeOf 3).run prog W=_
  simp[Go.sizeOf,typeInfo,b,f]
 refine⟨λW=> ?_,⟨⟨by simp;omega,by simp only[List.length_take];omega,d⟩,λi x a=> ?_⟩⟩
 .rw[run_slice_h W 22 A n c ht .i64 (M:Int) (bI _) (by omega),g];simp only[Result.andThen_ok,sliced,Nat.zero_mul,Nat.sub_zero,Int.toNat_natCast];cases A<;>simp[Addr.add]
 .rw[List.getElem?_take]at a;split at a
  .exact h.2 i x a
  .cases a
theorem aLK{w:World}{A:Option Addr}{n c M:Nat}{l:List Int}(h:aF w ⟨A,n,c⟩ l)(y:M<=l.length):
 ∃A',(∀W,(Instr.slice 22 (.slice A n c) (some (.int .i64 (M:Int))) none none).run prog W= .ok (.slice A' (n - M) (c - M)) W)/\aF w ⟨A',n - M,c - M⟩ (l.drop M):=by
 obtain⟨q,r,s⟩:=h.len;have ht:prog.underlying 22=some (.slice (prog.elem 22)):=by kernel_rfl
 obtain⟨t,a,_,j,_⟩:=info_parts infoInt;have k:∀W,(Go.sizeOf (prog.elem 22)).run prog W= .ok 1 W:=λW=>by
  show(Go.sizeOf 3).run prog W=_
  simp[Go.sizeOf,typeInfo,a,j]
 refine⟨if c=M then A else A.map (·.add (M*1)),λW=> ?_,⟨⟨by simp;omega,by simp only[List.length_drop];omega,by simp only[maxLen];omega⟩,λi x d=> ?_⟩⟩
 .rw[run_slice_l W 22 A n c ht .i64 (M:Int) (bI _) (by omega),k];simp only[Result.andThen_ok,sliced,Int.toNat_natCast]
 .rw[List.getElem?_drop]at d;have m:=(List.getElem?_eq_some_iff.1 d).1;obtain⟨b,o,f,p⟩:=h.2 _ _ d;simp only at f;subst f;rw[if_neg (by omega)];refine⟨b,o+M,?_,by rw[Nat.add_assoc];exact p⟩;simp only[Option.map_some,Nat.mul_one,Addr.add];by_cases g:M=0
  .subst g;simp
  .simp[g]
def aKf(s:List Int)(w:World)(g:Nat)(s4 s5:Value)(wx:World):Prop:=
 ∃k:Nat,1<=k/\s.length<=g+k/\(k<=s.length\/k=1)/\s5= .int .i64 k/\s4= .int .i64 ((je 45 s k).toNat:Int)/\wx=w
def aKx(w:World)(s:List Int)(H:Nat)(g:Nat)(s6 s7:Value)(wx:World):Prop:=
 ∃(A:Option Addr)(c k:Nat),g+k=H/\s7= .int .i64 k/\s6= .slice A k c/\aN wx w.heap.size A k c (s.take k)/\Ext w wx/\Hid ((s.take k).any (λb=>decide (128<=b))=false)
def KO(w:World)(s:List Int)(D:List Int × Int)(g:Nat)(s6 s8 s9 s10 s11 s12:Value)(wx:World):Prop:=
 ∃(A:Option Addr)(N c a:Nat)(o:List Int)(n i b:Int)(f:Bool),s6= .slice A N c/\s8= .int .i64 a/\s12= .bool f/\s9= .int .i64 n/\s10= .int .i64 i/\s11= .int .i64 b/\Hid (N=o.length)/\a<=s.length/\s.length<=g+a/\N+(s.length - a)<=2048/\
  Hid (aF wx ⟨A,N,c⟩ o)/\Hid (Ext w wx)/\0<=n/\n<=1114111/\0<=i/\i<=N/\0<=b/\b<=2400/\Hid (D=resD (decP g ((s.drop a).map fE) o n i b f))
theorem aKV(s:List Int)(hs:IsB s)(w:World):Calls prog 121 #[.string (sB s)] w (Cc w (pdU s)):=by
 have d:Hid (pdU s=if 2048<s.length then([],7)else if(s.take (hyB s)).any (λb=>decide (128<=b))then([],12)else resD (decP (pF s).length ((pF s).map fE) (s.take (hyB s)) 128 0 72 true)):=rfl;have HL:=ah hs;generalize pdU s=D at*;clear hs;by_cases h1:2048<s.length
 .rw[if_pos h1]at d;go_enter func121,ntmps121;go_wp2;go_ret2;exact⟨none,0,0,by rw[d.out];rfl,by rw[d.out];exact aF.nil_ w,Ext.refl _⟩
 rw[if_neg h1]at d;have t:Hid (pF s=if hyB s=0 then s else s.drop (hyB s+1)):=rfl;have O:Hid (hyB s=(je 45 s s.length).toNat):=rfl;go_enter func121,ntmps121;go_wp2;go_loopg[4,5] s.length (λP s4 s5 R=>aKf s w P s4 s5 R);exact⟨1,by omega,by omega,.inr rfl,rfl,by simp only[je];split<;>rfl,rfl⟩;obtain⟨k,bx,hg,ap,rfl,rfl,rfl⟩:=hrel;have aq:=Gv 45 s k;by_cases hk:k<s.length
 .have hx:=ixc HL.out hk wr;have q:Hid (je 45 s (k+1)=if s.getD k 0=45 then(k:Int)else je 45 s k):=rfl;generalize s.getD k 0=y at*;by_cases hy:y=45
  .have S:Hid ((je 45 s (k+1)).toNat=k):=ah (by rw[q.out,if_pos hy];omega);go_wp2;go_roundg (s.length - (k+1));exact⟨k+1,by omega,by omega,.inl (by omega),by go_num,by rw[S.out],rfl⟩;omega
  .have S:Hid (je 45 s (k+1)=je 45 s k):=ah (by rw[q.out,if_neg hy]);have e1:(y==45)=false:=(by rw[aP];exact hy);go_wp2;go_roundg (s.length - (k+1));exact⟨k+1,by omega,by omega,.inl (by omega),by go_num,by rw[S.out],rfl⟩;omega
 .have hH:(je 45 s k).toNat=hyB s:=by
   rw[O.out];rcases ap with h|h
   .rw[show k=s.length by omega]
   .rcases Nat.eq_zero_or_pos s.length with J|J
    .have e:s=[]:=List.eq_nil_of_length_eq_zero J;subst e;subst h;rfl
    .rw[show k=s.length by omega]
  have bz:hyB s+1<=s.length\/hyB s=0:=by
   have:=Gv 45 s s.length;rw[O.out];omega
  rw[hH];clear hH O aq;generalize hyB s=H at*;go_wp2_with fail;generalize wr=w at*;go_loopg[6,7] H (λP s6 s7 R=>aKx w s H P s6 s7 R);exact⟨none,0,0,by omega,rfl,rfl,Own.nil_ _ _ _ _,Ext.refl _,rfl⟩;obtain⟨A,c,j,bA,rfl,rfl,K,r,HN⟩:=hrel;have T:=ah K;have q:=ah r;clear K r;by_cases hj:j<H
  .have x:j<s.length:=by omega
   have hx:∀W,(Instr.index 9 (.string (sB s)) (.int .i64 (j:Int))).run prog W= .ok (.int .u8 (s.getD j 0)) W:=ixc HL.out x;have hr:=wG HL.out j;have U:=ah (xC (f:=λb=>decide (128<=b)) x);have hT:s.take (j+1)=s.take j++[s.getD j 0]:=(by rw[List.take_succ_eq_append_getElem x,getD_lt s j 0 x]);have HT:=ah hT;have HM:Hid (s.getD j 0∈s.take H):=ah (by rw[getD_lt s j 0 x,List.mem_take_iff_getElem];exact⟨j,by omega,rfl⟩);rw[<- getD_lt s j 0 x]at U;clear hT;generalize s.getD j 0=y at*;by_cases bh:127<y
   .have L:Hid (D=([],12)):=ah (by rw[d.out,if_pos (List.any_eq_true.2 ⟨y,HM.out,by simp;omega⟩)]);have r:=q.out;go_wp2;go_ret2;exact⟨none,0,0,by rw[L.out];rfl,by rw[L.out];exact aF.nil_ _,r⟩
   .have aw:Hid ((s.take (j+1)).any (λb=>decide (128<=b))=false):=ah (by rw[U.out,HN.out];simp;omega);obtain⟨A5,c5,w5,a5,z,a6,_⟩:=xu T.out q.out y (by omega);have bJ:Hid (aN w5 w.heap.size A5 (j+1) c5 (s.take (j+1))):=ah (by rw[HT.out];exact z);have gB:=ah a6;clear z a6 HN U HM;go_wp2_with(at_builtin;refine dH rfl _ _ _ rfl _ _ rfl rfl _ _ a5 ?_);go_roundg (H - (j+1));exact⟨A5,c5,j+1,by omega,by go_num,rfl,bJ.out,gB.out,aw⟩;omega
  .have ax:j=H:=by omega
   subst ax;rw[if_neg (by rw[HN.out];simp)]at d;have a7:Hid (j=(s.take j).length):=ah (by rw[List.length_take];omega);have HI:=ah (aN.ints T.out)
   have G:Hid (∀a:Nat,pF s=s.drop a->a<=s.length->j<=a->KO w s D (pF s).length (.slice A j c) (.int .i64 a) (.int .i64 128) (.int .i64 0) (.int .i64 72) (.bool true) wr):=ah (λa e ha bB=>
    ⟨A,j,c,a,s.take j,128,0,72,true,rfl,rfl,rfl,rfl,rfl,rfl,a7,ha,by rw[e,List.length_drop];omega,by omega,HI,q,by omega,by omega,by omega,by omega,by omega,by omega,by rw[<- e];exact d⟩)
   clear HN T HI q a7 d;generalize wr=w3 at*;by_cases J:j=0
   case' pos=>
    rw[if_pos J]at t;have ay:decide ((0:Int)<(j:Int))=false:=dF';have az:decide (0<j)=false:=dF';have B:=ah (G.out j (by rw[t.out,J];rfl) (by omega) (Nat.le_refl _));clear G J t;go_wp2;go_loopg[6,8,9,10,11,12] (pF s).length (λP s6 s8 s9 V X Y R=>KO w s D P s6 s8 s9 V X Y R)
    case atStart=>exact B.out
   case' neg=>
    rw[if_neg J]at t;have ay:decide ((0:Int)<(j:Int))=true:=dT';have az:decide (0<j)=true:=dT';have B:=ah (G.out (j+1) t.out (by omega) (by omega));clear G J t
    push_cast at B
    go_wp2;go_loopg[6,8,9,10,11,12] (pF s).length (λP s6 s8 s9 V X Y R=>KO w s D P s6 s8 s9 V X Y R)
    case atStart=>exact B.out
   all_goals
    clear B;obtain⟨A,N,c,a,o,n,i,b,f,rfl,rfl,rfl,rfl,rfl,rfl,a8,aL,bC,bE,T,q,bG,bL,bN,bO,bR,bS,d⟩:=hrel;by_cases ha:a<s.length
    .obtain⟨g',rfl⟩:=gS' gk;rw[KE (by intro h;have:=congrArg List.length h;simp at this;omega)]at d;have aR: -100000<=b/\b<=100000:=(by omega);have a9:=ah (aKC s HL.out (by omega) a aL b aR wr);have C:=a8.out;subst C;clear a8;go_wp2_with fail;refine a9.out.mono ?_;rintro e w4⟨aZ,rfl⟩;clear a9;rcases aZ with⟨hn,rfl⟩|⟨v,m,hn,bT,bV,bW,bX,rfl⟩
     .rw[hn]at d;have L:Hid (D=([],12)):=d;have r:=q.out;clear hn d;go_wp2;go_ret2;exact⟨none,0,0,by rw[L.out];rfl,by rw[L.out];exact aF.nil_ _,r⟩
     .rw[hn]at d;simp only at d;clear hn;by_cases Z:2147483647<v
      .rw[if_pos (.inl Z)]at d;have b0:decide (2147483647<v)=true:=(by rw[au];exact Z);have r:=q.out;go_wp2;go_ret2;exact⟨none,0,0,by rw[d.out];rfl,by rw[d.out];exact aF.nil_ _,r⟩
      have b0:decide (2147483647<v)=false:=(by rw[aA];exact Z);have b1:0<=(v+i) / ((o.length:Int)+1):=Int.ediv_nonneg (by omega) (by omega);have b3:(v+i) / ((o.length:Int)+1)<=v+i:=Int.ediv_le_self _ (by omega);have b4:=Int.emod_nonneg (v+i) (b:=(o.length:Int)+1) (by omega);have b5:=Int.emod_lt_of_pos (v+i) (b:=(o.length:Int)+1) (by omega);obtain⟨Q,hQ⟩:=eY' ((v+i) / ((o.length:Int)+1));obtain⟨M,hM⟩:∃M:Nat,(v+i) % ((o.length:Int)+1)=M:=⟨((v+i) % ((o.length:Int)+1)).toNat,by omega⟩;rw[hQ,hM]at d;rw[hQ]at b1 b3;rw[hM]at b4 b5;by_cases C:1114111<n+Q
      .rw[if_pos (.inr C)]at d;have b7:decide (1114111<n+Q)=true:=(by rw[au];exact C);have r:=q.out;go_wp2;go_ret2;exact⟨none,0,0,by rw[d.out];rfl,by rw[d.out];exact aF.nil_ _,r⟩
      have b7:decide (1114111<n+Q)=false:=(by rw[aA];exact C);rw[if_neg (by omega)]at d;go_wp2_with fail;go_quiet (fail);go_wp2_with fail;rw[hM];rw[Int.toNat_natCast]at d;have gB:Hid (Ext w (wr.drewN nq)):=ah (q.out.lG nq);have bJ:Hid (aF (wr.drewN nq) ⟨A,o.length,c⟩ o):=ah (T.out.ext ((Ext.refl _).lG nq));clear hM hQ q T;generalize wr.drewN nq=w5 at*;refine(yO _ _).mono ?_;rintro e w'⟨rfl,rfl⟩;cases a0:aY (n+Q)
      .rw[if_pos ((utfLen_eq_zero _).2 a0)]at d;have r:=gB.out;go_wp2;go_ret2;exact⟨none,0,0,by rw[d.out];rfl,by rw[d.out];exact aF.nil_ _,r⟩
      rw[if_neg (Rt a0)]at d;have ab:(1:Int)<=(o.length:Int)+1/\(o.length:Int)+1<=4096:=(by omega);have ac:0<=v/\v<2147483648:=(by omega);have ad:=ah (λw=>Rj v ((o.length:Int)+1) f ac ab w);have a1:=Gg (f:=f) ac.1 ab.1;obtain⟨b2,ae⟩:=eY' (nJ v ((o.length:Int)+1) f);rw[ae]at ad a1 d;have a2:M<=o.length:=(by omega);have b9:=ah (zH o M (n+Q) a2);obtain⟨bZ,RY⟩:=aLJ bJ.out a2;obtain⟨A2,c0,RZ⟩:=aLK bJ.out a2;obtain⟨A6,c6,w6,g,p,EG,_⟩:=fO (n:=0) (c:=0) (l:=[]) (Own.nil_ w5 w5.heap.size 3 1) RY (by omega) (Nat.le_refl _);simp only[Nat.zero_add,List.nil_append]at g p;have af:Ext w5 w6:=dU (Ext.refl _) EG (by simp[aG]);obtain⟨A7,c7,w7,E,y7,I,_⟩:=xu p af (n+Q) (by omega);obtain⟨A8,c8,w8,F,rQ,vG,_⟩:=fO y7 (RZ.ext I) (by omega) I.b.size;have ag:Ext w5 w8:=dU I vG (λk hk=>(Own.lt y7 k hk).1)
      have bb:Hid (aF w8 ⟨A8,M+1+(o.length - M),c8⟩ (nY o M (n+Q))):=ah (by
       have h:=aN.ints rQ
       simpa[nY]using h)
      have rZ:=ah (gB.out.trans' ag);clear ae a0 p y7 rQ EG vG af I ag RY RZ;go_wp2_with fail;refine(ad.out _).mono ?_;rintro e w'⟨rfl,rfl⟩
      go_wp2_with(at_builtin;first
       |(refine dH rfl _ _ _ rfl _ _ rfl rfl _ _ g ?_;clear g)
       |(refine dH rfl _ _ _ rfl _ _ rfl rfl _ _ E ?_;clear E)
       |(refine dH rfl _ _ _ rfl _ _ rfl rfl _ _ F ?_;clear F))
      go_roundg g';exact⟨A8,M+1+(o.length - M),c8,m,nY o M (n+Q),n+Q,(M:Int)+1,b2,false,rfl,rfl,rfl,rfl,rfl,rfl,ah (by rw[b9.out];omega),by omega,by omega,by omega,bb,rZ,by omega,by omega,by omega,by omega,a1.1,a1.2,d⟩;omega
    .have L:Hid (D=(o,0)):=ah (by rw[d.out,bQ s a (by omega)];cases gk<;>rfl);have r:=q.out;have hi:=T.out;clear d;go_wp2;go_ret2;exact⟨A,N,c,by rw[L.out];rfl,by rw[L.out];exact hi,r⟩
theorem Xv(a b c d:Int)(w:World):Calls prog 277 #[.agg #[.int .i64 a,.int .i64 b,.int .i64 c,.int .i64 d]] w λe w'=>e= .returned (.int .i64 a)/\Ext w w':=by
 go_enter func277,ntmps277;go_wp2;go_ret;exact⟨rfl,(Ext.refl w).aC _⟩
theorem XM(t:TV)(T:aj)(c:Int)(w:World)(ht:aV w t T)(a:fM T):
 Calls prog 232 #[t.v,.int .i64 c] w λe w'=>e= .returned (.int .i64 (iR T c))/\Ext w w':=by
 have b:=ht.cat.ext ((Ext.refl w).aC (.cells t.v.cells 26));go_enter func232,ntmps232;go_wp2_with(go_at_call 221;refine(Fv 277 qB T.cat _ _ _ _ _ b a.cat.1 a.cat.2 Tryz.call277 (λ_=>Xv _ _ _ _ _)).mono ?_;rintro e f⟨rfl,d⟩);go_ret;exact⟨rfl,((Ext.refl w).aC _).trans' d⟩
theorem YS{T:aj}(h:dO T=true):nG T.cat:=by
 simp only[dO,cols,pX,aW]at h;exact⟨h.1.1.1.1,h.1.1.1.2⟩
theorem wP{T:aj}{c:Int}(d:0<=c)(f:c<=127):iR T c=qB c:=by
 have a:aY c=true:=by simp only[aY,aW,Bool.or_eq_true,au];omega
 have b:fD c=true:=by simp only[fD,Bool.or_eq_true,aW,au];exact .inl (.inl (.inl ⟨d,f⟩))
 rw[iR,mM,if_neg (by rw[a];simp),if_pos b]
theorem aEh{T:aj}{c:Int}(h:bg c=true):iR T c=1:=by
 have a:=h;simp only[bg,aW,au]at a;have b:aY c=true:=by simp only[aY,aW,Bool.or_eq_true,au];omega
 have d:fD c=true:=by rw[fD,h];simp
 rw[iR,mM,if_neg (by rw[b];simp),if_pos d,qB,if_neg (by omega),if_neg (by omega),if_neg (by omega),if_neg (by omega),if_neg (by omega),if_neg (by omega),if_neg (by omega),if_neg (by omega),if_pos h]
theorem aEg{T:aj}{c:Int}(f:bg c=false)(h:dJ c=true):iR T c=1:=by
 have a:=h;simp only[dJ,Bool.or_eq_true,aW,au]at a;have b:aY c=true:=by simp only[aY,aW,Bool.or_eq_true,au];omega
 have d:fD c=true:=by rw[fD,h];simp
 rw[iR,mM,if_neg (by rw[b];simp),if_pos d,qB,if_neg (by omega),if_neg (by omega),if_neg (by omega),if_neg (by omega),if_neg (by omega),if_neg (by omega),if_neg (by omega),if_neg (by omega),if_neg (by rw[f];simp),if_pos h]
theorem aEf{T:aj}(b:nG T.cat){c:Int}(i:c<0\/127<c)(g:bg c=false)(h:dJ c=false):iR T c=fB T.cat c:=by
 rw[iR,mM];by_cases d:aY c=false
 .rw[if_pos d,b.zero (.inr d)]
 .rw[if_neg d];by_cases a:fD c=true
  .rw[if_pos a,b.zero (.inl a)];exfalso;have f:rE c=true:=by
    rw[fD,g,h]at a;simp only[Bool.or_false,Bool.or_eq_true,aW,au]at a;rcases a with a|a
    .omega
    .exact a
   simp only[rE,aW,au]at f;simp only[aY,Bool.and_eq_false_iff,Bool.or_eq_false_iff,aA]at d;omega
  .rw[if_neg a]
theorem WO(t:TV)(T:aj)(c:Int)(w:World)(ht:aV w t T)(F:nG T.cat):
 Calls prog 124 #[t.v,.int .i64 c] w λe w'=>e= .returned (.int .i64 (iR T c))/\Ext w w':=by
 have H:=ht.cat.ext ((Ext.refl w).aC (.cells t.v.cells 26));have i:=ah H;have G:=ah F;have d:=cZ w t;clear ht H F;by_cases r:0<=c/\c<=31
 ·
  obtain⟨A,B⟩:=r;have j:decide (97<=c)=false:=dF';have k:decide (c<=122)=true:=dT';have l:decide (65<=c)=false:=dF';have m:decide (c<=90)=true:=dT';have n:decide (48<=c)=false:=dF';have o:decide (c<=57)=true:=dT';have p:decide (0<=c)=true:=dT';have q:decide (c<32)=true:=dT';have s:decide (32<c)=false:=dF';have x:decide (c<127)=true:=dT';have y:(c==127)=false:=bF';have z:(c==32)=false:=bF'
  have f:Hid (iR T c=8):=ah (by
   rw[wP (by omega) (by omega),qB]
   repeat' split
   all_goals first|rfl|(exfalso;omega))
  have g:Hid (bg c=false):=ah (by simp only[bg,Bool.and_eq_false_iff,aA];omega);have h:Hid (dJ c=false):=ah (by simp only[dJ,Bool.or_eq_false_iff,Bool.and_eq_false_iff,aA];omega);go_enter func124,ntmps124
  go_wp2_with(first
   |(go_at_call 113;refine(kC c _).mono ?_;rintro e a⟨rfl,rfl⟩;rw[g.out])
   |(go_at_call 183;refine(pU c _).mono ?_;rintro e a⟨rfl,rfl⟩;rw[h.out])
   |(go_at_call 136;refine(jf _ _ _ T.cat _ _ i.out).mono ?_;rintro e a⟨rfl,b⟩))
  go_ret;exact⟨aU f.out.symm,d⟩
 by_cases r:32<=c/\c<=32
 ·
  obtain⟨A,B⟩:=r;have j:decide (97<=c)=false:=dF';have k:decide (c<=122)=true:=dT';have l:decide (65<=c)=false:=dF';have m:decide (c<=90)=true:=dT';have n:decide (48<=c)=false:=dF';have o:decide (c<=57)=true:=dT';have p:decide (0<=c)=true:=dT';have q:decide (c<32)=false:=dF';have s:decide (32<c)=false:=dF';have x:decide (c<127)=true:=dT';have y:(c==127)=false:=bF';have z:(c==32)=true:=by rw[beq_iff_eq];omega
  have f:Hid (iR T c=7):=ah (by
   rw[wP (by omega) (by omega),qB]
   repeat' split
   all_goals first|rfl|(exfalso;omega))
  have g:Hid (bg c=false):=ah (by simp only[bg,Bool.and_eq_false_iff,aA];omega);have h:Hid (dJ c=false):=ah (by simp only[dJ,Bool.or_eq_false_iff,Bool.and_eq_false_iff,aA];omega);go_enter func124,ntmps124
  go_wp2_with(first
   |(go_at_call 113;refine(kC c _).mono ?_;rintro e a⟨rfl,rfl⟩;rw[g.out])
   |(go_at_call 183;refine(pU c _).mono ?_;rintro e a⟨rfl,rfl⟩;rw[h.out])
   |(go_at_call 136;refine(jf _ _ _ T.cat _ _ i.out).mono ?_;rintro e a⟨rfl,b⟩))
  go_ret;exact⟨aU f.out.symm,d⟩
 by_cases r:33<=c/\c<=47
 ·
  obtain⟨A,B⟩:=r;have j:decide (97<=c)=false:=dF';have k:decide (c<=122)=true:=dT';have l:decide (65<=c)=false:=dF';have m:decide (c<=90)=true:=dT';have n:decide (48<=c)=false:=dF';have o:decide (c<=57)=true:=dT';have p:decide (0<=c)=true:=dT';have q:decide (c<32)=false:=dF';have s:decide (32<c)=true:=dT';have x:decide (c<127)=true:=dT';have y:(c==127)=false:=bF';have z:(c==32)=false:=bF'
  have f:Hid (iR T c=5):=ah (by
   rw[wP (by omega) (by omega),qB]
   repeat' split
   all_goals first|rfl|(exfalso;omega))
  have g:Hid (bg c=false):=ah (by simp only[bg,Bool.and_eq_false_iff,aA];omega);have h:Hid (dJ c=false):=ah (by simp only[dJ,Bool.or_eq_false_iff,Bool.and_eq_false_iff,aA];omega);go_enter func124,ntmps124
  go_wp2_with(first
   |(go_at_call 113;refine(kC c _).mono ?_;rintro e a⟨rfl,rfl⟩;rw[g.out])
   |(go_at_call 183;refine(pU c _).mono ?_;rintro e a⟨rfl,rfl⟩;rw[h.out])
   |(go_at_call 136;refine(jf _ _ _ T.cat _ _ i.out).mono ?_;rintro e a⟨rfl,b⟩))
  go_ret;exact⟨aU f.out.symm,d⟩
 by_cases r:48<=c/\c<=57
 ·
  obtain⟨A,B⟩:=r;have j:decide (97<=c)=false:=dF';have k:decide (c<=122)=true:=dT';have l:decide (65<=c)=false:=dF';have m:decide (c<=90)=true:=dT';have n:decide (48<=c)=true:=dT';have o:decide (c<=57)=true:=dT';have p:decide (0<=c)=true:=dT';have q:decide (c<32)=false:=dF';have s:decide (32<c)=true:=dT';have x:decide (c<127)=true:=dT';have y:(c==127)=false:=bF';have z:(c==32)=false:=bF'
  have f:Hid (iR T c=3):=ah (by
   rw[wP (by omega) (by omega),qB]
   repeat' split
   all_goals first|rfl|(exfalso;omega))
  have g:Hid (bg c=false):=ah (by simp only[bg,Bool.and_eq_false_iff,aA];omega);have h:Hid (dJ c=false):=ah (by simp only[dJ,Bool.or_eq_false_iff,Bool.and_eq_false_iff,aA];omega);go_enter func124,ntmps124
  go_wp2_with(first
   |(go_at_call 113;refine(kC c _).mono ?_;rintro e a⟨rfl,rfl⟩;rw[g.out])
   |(go_at_call 183;refine(pU c _).mono ?_;rintro e a⟨rfl,rfl⟩;rw[h.out])
   |(go_at_call 136;refine(jf _ _ _ T.cat _ _ i.out).mono ?_;rintro e a⟨rfl,b⟩))
  go_ret;exact⟨aU f.out.symm,d⟩
 by_cases r:58<=c/\c<=64
 ·
  obtain⟨A,B⟩:=r;have j:decide (97<=c)=false:=dF';have k:decide (c<=122)=true:=dT';have l:decide (65<=c)=false:=dF';have m:decide (c<=90)=true:=dT';have n:decide (48<=c)=true:=dT';have o:decide (c<=57)=false:=dF';have p:decide (0<=c)=true:=dT';have q:decide (c<32)=false:=dF';have s:decide (32<c)=true:=dT';have x:decide (c<127)=true:=dT';have y:(c==127)=false:=bF';have z:(c==32)=false:=bF'
  have f:Hid (iR T c=5):=ah (by
   rw[wP (by omega) (by omega),qB]
   repeat' split
   all_goals first|rfl|(exfalso;omega))
  have g:Hid (bg c=false):=ah (by simp only[bg,Bool.and_eq_false_iff,aA];omega);have h:Hid (dJ c=false):=ah (by simp only[dJ,Bool.or_eq_false_iff,Bool.and_eq_false_iff,aA];omega);go_enter func124,ntmps124
  go_wp2_with(first
   |(go_at_call 113;refine(kC c _).mono ?_;rintro e a⟨rfl,rfl⟩;rw[g.out])
   |(go_at_call 183;refine(pU c _).mono ?_;rintro e a⟨rfl,rfl⟩;rw[h.out])
   |(go_at_call 136;refine(jf _ _ _ T.cat _ _ i.out).mono ?_;rintro e a⟨rfl,b⟩))
  go_ret;exact⟨aU f.out.symm,d⟩
 by_cases r:65<=c/\c<=90
 ·
  obtain⟨A,B⟩:=r;have j:decide (97<=c)=false:=dF';have k:decide (c<=122)=true:=dT';have l:decide (65<=c)=true:=dT';have m:decide (c<=90)=true:=dT';have n:decide (48<=c)=true:=dT';have o:decide (c<=57)=false:=dF';have p:decide (0<=c)=true:=dT';have q:decide (c<32)=false:=dF';have s:decide (32<c)=true:=dT';have x:decide (c<127)=true:=dT';have y:(c==127)=false:=bF';have z:(c==32)=false:=bF'
  have f:Hid (iR T c=1):=ah (by
   rw[wP (by omega) (by omega),qB]
   repeat' split
   all_goals first|rfl|(exfalso;omega))
  have g:Hid (bg c=false):=ah (by simp only[bg,Bool.and_eq_false_iff,aA];omega);have h:Hid (dJ c=false):=ah (by simp only[dJ,Bool.or_eq_false_iff,Bool.and_eq_false_iff,aA];omega);go_enter func124,ntmps124
  go_wp2_with(first
   |(go_at_call 113;refine(kC c _).mono ?_;rintro e a⟨rfl,rfl⟩;rw[g.out])
   |(go_at_call 183;refine(pU c _).mono ?_;rintro e a⟨rfl,rfl⟩;rw[h.out])
   |(go_at_call 136;refine(jf _ _ _ T.cat _ _ i.out).mono ?_;rintro e a⟨rfl,b⟩))
  go_ret;exact⟨aU f.out.symm,d⟩
 by_cases r:91<=c/\c<=96
 ·
  obtain⟨A,B⟩:=r;have j:decide (97<=c)=false:=dF';have k:decide (c<=122)=true:=dT';have l:decide (65<=c)=true:=dT';have m:decide (c<=90)=false:=dF';have n:decide (48<=c)=true:=dT';have o:decide (c<=57)=false:=dF';have p:decide (0<=c)=true:=dT';have q:decide (c<32)=false:=dF';have s:decide (32<c)=true:=dT';have x:decide (c<127)=true:=dT';have y:(c==127)=false:=bF';have z:(c==32)=false:=bF'
  have f:Hid (iR T c=5):=ah (by
   rw[wP (by omega) (by omega),qB]
   repeat' split
   all_goals first|rfl|(exfalso;omega))
  have g:Hid (bg c=false):=ah (by simp only[bg,Bool.and_eq_false_iff,aA];omega);have h:Hid (dJ c=false):=ah (by simp only[dJ,Bool.or_eq_false_iff,Bool.and_eq_false_iff,aA];omega);go_enter func124,ntmps124
  go_wp2_with(first
   |(go_at_call 113;refine(kC c _).mono ?_;rintro e a⟨rfl,rfl⟩;rw[g.out])
   |(go_at_call 183;refine(pU c _).mono ?_;rintro e a⟨rfl,rfl⟩;rw[h.out])
   |(go_at_call 136;refine(jf _ _ _ T.cat _ _ i.out).mono ?_;rintro e a⟨rfl,b⟩))
  go_ret;exact⟨aU f.out.symm,d⟩
 by_cases r:97<=c/\c<=122
 ·
  obtain⟨A,B⟩:=r;have j:decide (97<=c)=true:=dT';have k:decide (c<=122)=true:=dT';have l:decide (65<=c)=true:=dT';have m:decide (c<=90)=false:=dF';have n:decide (48<=c)=true:=dT';have o:decide (c<=57)=false:=dF';have p:decide (0<=c)=true:=dT';have q:decide (c<32)=false:=dF';have s:decide (32<c)=true:=dT';have x:decide (c<127)=true:=dT';have y:(c==127)=false:=bF';have z:(c==32)=false:=bF'
  have f:Hid (iR T c=1):=ah (by
   rw[wP (by omega) (by omega),qB]
   repeat' split
   all_goals first|rfl|(exfalso;omega))
  have g:Hid (bg c=false):=ah (by simp only[bg,Bool.and_eq_false_iff,aA];omega);have h:Hid (dJ c=false):=ah (by simp only[dJ,Bool.or_eq_false_iff,Bool.and_eq_false_iff,aA];omega);go_enter func124,ntmps124
  go_wp2_with(first
   |(go_at_call 113;refine(kC c _).mono ?_;rintro e a⟨rfl,rfl⟩;rw[g.out])
   |(go_at_call 183;refine(pU c _).mono ?_;rintro e a⟨rfl,rfl⟩;rw[h.out])
   |(go_at_call 136;refine(jf _ _ _ T.cat _ _ i.out).mono ?_;rintro e a⟨rfl,b⟩))
  go_ret;exact⟨aU f.out.symm,d⟩
 by_cases r:123<=c/\c<=126
 ·
  obtain⟨A,B⟩:=r;have j:decide (97<=c)=true:=dT';have k:decide (c<=122)=false:=dF';have l:decide (65<=c)=true:=dT';have m:decide (c<=90)=false:=dF';have n:decide (48<=c)=true:=dT';have o:decide (c<=57)=false:=dF';have p:decide (0<=c)=true:=dT';have q:decide (c<32)=false:=dF';have s:decide (32<c)=true:=dT';have x:decide (c<127)=true:=dT';have y:(c==127)=false:=bF';have z:(c==32)=false:=bF'
  have f:Hid (iR T c=5):=ah (by
   rw[wP (by omega) (by omega),qB]
   repeat' split
   all_goals first|rfl|(exfalso;omega))
  have g:Hid (bg c=false):=ah (by simp only[bg,Bool.and_eq_false_iff,aA];omega);have h:Hid (dJ c=false):=ah (by simp only[dJ,Bool.or_eq_false_iff,Bool.and_eq_false_iff,aA];omega);go_enter func124,ntmps124
  go_wp2_with(first
   |(go_at_call 113;refine(kC c _).mono ?_;rintro e a⟨rfl,rfl⟩;rw[g.out])
   |(go_at_call 183;refine(pU c _).mono ?_;rintro e a⟨rfl,rfl⟩;rw[h.out])
   |(go_at_call 136;refine(jf _ _ _ T.cat _ _ i.out).mono ?_;rintro e a⟨rfl,b⟩))
  go_ret;exact⟨aU f.out.symm,d⟩
 by_cases r:127<=c/\c<=127
 ·
  obtain⟨A,B⟩:=r;have j:decide (97<=c)=true:=dT';have k:decide (c<=122)=false:=dF';have l:decide (65<=c)=true:=dT';have m:decide (c<=90)=false:=dF';have n:decide (48<=c)=true:=dT';have o:decide (c<=57)=false:=dF';have p:decide (0<=c)=true:=dT';have q:decide (c<32)=false:=dF';have s:decide (32<c)=true:=dT';have x:decide (c<127)=false:=dF';have y:(c==127)=true:=by rw[beq_iff_eq];omega
  have z:(c==32)=false:=bF'
  have f:Hid (iR T c=8):=ah (by
   rw[wP (by omega) (by omega),qB]
   repeat' split
   all_goals first|rfl|(exfalso;omega))
  have g:Hid (bg c=false):=ah (by simp only[bg,Bool.and_eq_false_iff,aA];omega);have h:Hid (dJ c=false):=ah (by simp only[dJ,Bool.or_eq_false_iff,Bool.and_eq_false_iff,aA];omega);go_enter func124,ntmps124
  go_wp2_with(first
   |(go_at_call 113;refine(kC c _).mono ?_;rintro e a⟨rfl,rfl⟩;rw[g.out])
   |(go_at_call 183;refine(pU c _).mono ?_;rintro e a⟨rfl,rfl⟩;rw[h.out])
   |(go_at_call 136;refine(jf _ _ _ T.cat _ _ i.out).mono ?_;rintro e a⟨rfl,b⟩))
  go_ret;exact⟨aU f.out.symm,d⟩
 have D:c<0\/127<c:=by omega
 cases C:bg c
 case true=>
  have f:Hid (iR T c=1):=ah (aEh C);have g:=ah C;have h:Hid (dJ c=dJ c):=rfl;simp only[bg,aW,au]at C;clear D;have j:decide (97<=c)=true:=dT';have k:decide (c<=122)=false:=dF';have l:decide (65<=c)=true:=dT';have m:decide (c<=90)=false:=dF';have n:decide (48<=c)=true:=dT';have o:decide (c<=57)=false:=dF';have p:decide (0<=c)=true:=dT';have q:decide (c<32)=false:=dF';have s:decide (32<c)=true:=dT';have x:decide (c<127)=false:=dF';have y:(c==127)=false:=bF';have z:(c==32)=false:=bF';go_enter func124,ntmps124
  go_wp2_with(first
   |(go_at_call 113;refine(kC c _).mono ?_;rintro e a⟨rfl,rfl⟩;rw[g.out])
   |(go_at_call 183;refine(pU c _).mono ?_;rintro e a⟨rfl,rfl⟩;rw[h.out])
   |(go_at_call 136;refine(jf _ _ _ T.cat _ _ i.out).mono ?_;rintro e a⟨rfl,b⟩))
  go_ret;exact⟨aU f.out.symm,d⟩
 cases E:dJ c
 case true=>
  have f:Hid (iR T c=1):=ah (aEg C E);have g:=ah C;have h:=ah E;simp only[dJ,Bool.or_eq_true,aW,au]at E;clear D C;have j:decide (97<=c)=true:=dT';have k:decide (c<=122)=false:=dF';have l:decide (65<=c)=true:=dT';have m:decide (c<=90)=false:=dF';have n:decide (48<=c)=true:=dT';have o:decide (c<=57)=false:=dF';have p:decide (0<=c)=true:=dT';have q:decide (c<32)=false:=dF';have s:decide (32<c)=true:=dT';have x:decide (c<127)=false:=dF';have y:(c==127)=false:=bF';have z:(c==32)=false:=bF';clear E;go_enter func124,ntmps124
  go_wp2_with(first
   |(go_at_call 113;refine(kC c _).mono ?_;rintro e a⟨rfl,rfl⟩;rw[g.out])
   |(go_at_call 183;refine(pU c _).mono ?_;rintro e a⟨rfl,rfl⟩;rw[h.out])
   |(go_at_call 136;refine(jf _ _ _ T.cat _ _ i.out).mono ?_;rintro e a⟨rfl,b⟩))
  go_ret;exact⟨aU f.out.symm,d⟩
 have f:Hid (iR T c=fB T.cat c):=ah (aEf G.out D C E);have g:=ah C;have h:=ah E;clear C E;rcases D with D|D
 ·
  have j:decide (97<=c)=false:=dF';have k:decide (c<=122)=true:=dT';have l:decide (65<=c)=false:=dF';have m:decide (c<=90)=true:=dT';have n:decide (48<=c)=false:=dF';have o:decide (c<=57)=true:=dT';have p:decide (0<=c)=false:=dF';have q:decide (c<32)=true:=dT';have s:decide (32<c)=false:=dF';have x:decide (c<127)=true:=dT';have y:(c==127)=false:=bF';have z:(c==32)=false:=bF';clear D;go_enter func124,ntmps124
  go_wp2_with(first
   |(go_at_call 113;refine(kC c _).mono ?_;rintro e a⟨rfl,rfl⟩;rw[g.out])
   |(go_at_call 183;refine(pU c _).mono ?_;rintro e a⟨rfl,rfl⟩;rw[h.out])
   |(go_at_call 136;refine(jf _ _ _ T.cat _ _ i.out).mono ?_;rintro e a⟨rfl,b⟩))
  go_ret;exact⟨aU f.out.symm,d.trans' b⟩
 ·
  have j:decide (97<=c)=true:=dT';have k:decide (c<=122)=false:=dF';have l:decide (65<=c)=true:=dT';have m:decide (c<=90)=false:=dF';have n:decide (48<=c)=true:=dT';have o:decide (c<=57)=false:=dF';have p:decide (0<=c)=true:=dT';have q:decide (c<32)=false:=dF';have s:decide (32<c)=true:=dT';have x:decide (c<127)=false:=dF';have y:(c==127)=false:=bF';have z:(c==32)=false:=bF';clear D;go_enter func124,ntmps124
  go_wp2_with(first
   |(go_at_call 113;refine(kC c _).mono ?_;rintro e a⟨rfl,rfl⟩;rw[g.out])
   |(go_at_call 183;refine(pU c _).mono ?_;rintro e a⟨rfl,rfl⟩;rw[h.out])
   |(go_at_call 136;refine(jf _ _ _ T.cat _ _ i.out).mono ?_;rintro e a⟨rfl,b⟩))
  go_ret;exact⟨aU f.out.symm,d.trans' b⟩
end Go.Proofs.YtlmkgaoakcjlnaaGreatDoor
