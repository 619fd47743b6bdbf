/- Part By18. -/
import Derived.Test.YtlmkgaoakcjlnaaGreatDoorBy17
open Go.Proofs.Tryz
namespace Go.Proofs.YtlmkgaoakcjlnaaGreatDoor
set_option maxHeartbeats 25600000
set_option maxRecDepth 100000
open Go.RowKit
variable (t:TV)(T:aj)(l:List Int)(A:Option Addr)(n c:Nat)(w:World)
theorem vT(c:Int)(w:World):cW' 137 #[.int .i64 c] w (.int .i64 (utfLen c)):=by
 cases a:aY c
 .have H:=ah a;clear a;go_enter func137,ntmps137;go_wp2_with(go_at_call 74;refine(zV _ _).mono ?_;rintro e w'⟨rfl,rfl⟩;rw[H.out])
  all_goals(go_ret;refine⟨aV ?_,rfl⟩;simp[utfLen,H.out])
 .have H:=ah a;clear a;go_enter func137,ntmps137;go_wp2_with(go_at_call 74;refine(zV _ _).mono ?_;rintro e w'⟨rfl,rfl⟩;rw[H.out])
  all_goals(go_ret;refine⟨aV ?_,rfl⟩;simp[utfLen,H.out];try omega)
theorem zH(w:World)(a:Array Value)(l:List Int)(m:Nat)(b:l.length=m)(c:a=(l.map (Value.int .u8)).toArray)(d:m<=4096):
 (convert 95 9 (.slice (some ⟨w.heap.size,0,none⟩) m m)).run prog (w.alloc (.cells a 5))=.ok (.string (sB l)) (w.alloc (.cells a 5)):=by
 subst b;exact Dz (Ry w a l c d)
theorem zG(x:Int)(f:aY x=true)(w:World):cE' 75 #[.int .i64 x] w (.string (sB (enc1 x))):=by
 have j:=wL f;have a:utfLen x=if x<=127 then 1 else if x<=2047 then 2 else if x<=65535 then 3 else 4:=by unfold utfLen;rw[f];simp
 have b:Hid (enc1 x=if x<=127 then[x]else if x<=2047 then[192+x / 64,128+x % 64]else if x<=65535 then[224+x / 4096,128+x / 64 % 64,128+x % 64]else[240+x / 262144,128+x / 4096 % 64,128+x / 64 % 64,128+x % 64]):=rfl;clear f;generalize enc1 x=E at*;have d:=λk=>(Ext.refl w).aB (.cells k 5)
 go_enter func75,ntmps75;go_wp2_with fail;refine(vT _ _).mono ?_;rintro e w'⟨rfl,rfl⟩;by_cases g:x<=127
 .rw[pP' g]at a b;rw[a];have c:=zH w #[.int .u8 x] [x] 1 rfl rfl (by omega);go_wp2;go_ret;exact⟨by rw[b.out];rfl,d _⟩
 rw[nN' g]at a b;by_cases h:x<=2047
 .rw[pP' h]at a b;rw[a];have c:=zH w #[.int .u8 (192+x / 64),.int .u8 (128+x % 64)] [192+x / 64,128+x % 64] 2 rfl rfl (by omega);go_wp2;go_ret;exact⟨by rw[b.out];rfl,d _⟩
 rw[nN' h]at a b;by_cases i:x<=65535
 .rw[pP' i]at a b;rw[a];have c:=zH w #[.int .u8 (224+x / 4096),.int .u8 (128+x / 64 % 64),.int .u8 (128+x % 64)] [224+x / 4096,128+x / 64 % 64,128+x % 64] 3 rfl rfl (by omega);go_wp2;go_ret;exact⟨by rw[b.out];rfl,d _⟩
 .rw[nN' i]at a b;rw[a];have c:=zH w #[.int .u8 (240+x / 262144),.int .u8 (128+x / 4096 % 64),.int .u8 (128+x / 64 % 64),.int .u8 (128+x % 64)] [240+x / 262144,128+x / 4096 % 64,128+x / 64 % 64,128+x % 64] 4 rfl rfl (by omega);go_wp2;go_ret;exact⟨by rw[b.out];rfl,d _⟩
def rcU(l:List Int)(n:Nat):Int:=
 if n=1 then l.getD 0 0 else if n=2 then(l.getD 0 0-192)*64+l.getD 1 0-128 else if n=3 then(l.getD 0 0-224)*4096+(l.getD 1 0-128)*64+l.getD 2 0-128
 else(l.getD 0 0-240)*262144+(l.getD 1 0-128)*4096+(l.getD 2 0-128)*64+l.getD 3 0-128
theorem utf_scal{c n:Int}(h:utfLen c=n)(b:n≠0):aY c=true:=by
 cases a:aY c
 .exact absurd ((utfLen_eq_zero c).2 a) (by rw[h];exact b)
 .rfl
theorem a9R{l:List Int}{n:Nat}{c:Int}(g:n≠0)(d:utfLen c=n)(b:enc1 c=l.take n):dX l=(c,n):=by
 have a:=utf_scal d (by omega);have h:=TB a (l.drop n);have f:=a5Q a;rw[b,List.take_append_drop]at h;rw[h,<- b];congr 1;omega
theorem a9T{l:List Int}(p:IsB l)(h:(dX l).2≠0):(dX l).2<=4/\utfLen (rcU l (dX l).2)=(dX l).2/\enc1 (rcU l (dX l).2)=l.take (dX l).2:=by
 have f:∀(n:Nat)(c:Int),n≠0->n<=4->dX l=(c,n)->c=rcU l n->utfLen c=n->enc1 c=l.take n->(dX l).2<=4/\utfLen (rcU l (dX l).2)=(dX l).2/\enc1 (rcU l (dX l).2)=l.take (dX l).2:=by
  intro n c D q A g i B;rw[A];subst g;exact⟨q,i,B⟩
 match l,p,h,f with
 |[],_,h,_=>simp[dX]at h
 |a::r,p,h,f=>
  have E:=p a (by simp);have F:(a::r).getD 0 0=a:=rfl;by_cases j:a<=127
  .have i:utfLen a=1:=by
    unfold utfLen;have:aY a=true:=by simp[aY];omega
    rw[this];simp[j]
   exact f 1 a (by omega) (by omega) (by simp[dX,j]) rfl i (by simp[enc1,j])
  by_cases k:192<=a/\a<=223
  .match r,p,h,f with
   |[],_,h,_=>simp[dX,j,k]at h
   |b::r,p,h,f=>
    by_cases g:jc b=true/\utfLen ((a-192)*64+(b-128))=2
    .have t:=g.1;simp only[jc,aT,au]at t;have x:=wL (utf_scal g.2 (by omega));have i:=g.2;have w:¬(a-192)*64+(b-128)<=127:=by
      intro m;unfold utfLen at i;rw[utf_scal g.2 (by omega)]at i;simp[m]at i
     refine f 2 ((a-192)*64+(b-128)) (by omega) (by omega) (by simp only[dX];rw[nN' j,pP' k,pP' g]) ?_ g.2 ?_
     .show _=(a-192)*64+b-128
      omega
     .unfold enc1;rw[nN' w,pP' (by omega)];show _=[a,b]
      congr 1
      .omega
      .congr 1;omega
    .simp only[dX]at h;rw[nN' j,pP' k,nN' g]at h;exact absurd rfl h
  by_cases o:224<=a/\a<=239
  .match r,p,h,f with
   |[],_,h,_=>simp[dX,j,k,o]at h
   |[b],_,h,_=>simp[dX,j,k,o]at h
   |b::c::r,p,h,f=>
    by_cases g:jc b=true/\jc c=true/\utfLen (((a-224)*64+(b-128))*64+(c-128))=3
    .have t:=g.1;have s:=g.2.1;simp only[jc,aT,au]at t s;have i:=g.2.2;have x:=utf_scal i (by omega);have w:¬((a-224)*64+(b-128))*64+(c-128)<=2047:=by
      intro m;unfold utfLen at i;rw[x]at i;by_cases y:((a-224)*64+(b-128))*64+(c-128)<=127<;>simp[y,m]at i
     refine f 3 (((a-224)*64+(b-128))*64+(c-128)) (by omega) (by omega) (by simp only[dX];rw[nN' j,nN' k,pP' o,pP' g]) ?_ i ?_
     .show _=(a-224)*4096+(b-128)*64+c-128
      omega
     .unfold enc1;rw[nN' (by omega),nN' w,pP' (by omega)];show _=[a,b,c]
      congr 1
      .omega
      .congr 1
       .omega
       .congr 1;omega
    .simp only[dX]at h;rw[nN' j,nN' k,pP' o,nN' g]at h;exact absurd rfl h
  by_cases q:240<=a/\a<=247
  .match r,p,h,f with
   |[],_,h,_=>simp[dX,j,k,o,q]at h
   |[b],_,h,_=>simp[dX,j,k,o,q]at h
   |[b,c],_,h,_=>simp[dX,j,k,o,q]at h
   |b::c::d::r,p,h,f=>
    by_cases g:jc b=true/\jc c=true/\jc d=true/\utfLen ((((a-240)*64+(b-128))*64+(c-128))*64+(d-128))=4
    .have t:=g.1;have s:=g.2.1;have z:=g.2.2.1;simp only[jc,aT,au]at t s z;have i:=g.2.2.2;have x:=utf_scal i (by omega);have w:¬(((a-240)*64+(b-128))*64+(c-128))*64+(d-128)<=65535:=by
      intro m;unfold utfLen at i;rw[x]at i;by_cases y:(((a-240)*64+(b-128))*64+(c-128))*64+(d-128)<=127
      .simp[y]at i
      .by_cases C:(((a-240)*64+(b-128))*64+(c-128))*64+(d-128)<=2047<;>simp[y,C,m]at i
     refine f 4 ((((a-240)*64+(b-128))*64+(c-128))*64+(d-128)) (by omega) (by omega) (by simp only[dX];rw[nN' j,nN' k,nN' o,pP' q,pP' g]) ?_ i ?_
     .show _=(a-240)*262144+(b-128)*4096+(c-128)*64+d-128
      omega
     .unfold enc1;rw[nN' (by omega),nN' (by omega),nN' w];show _=[a,b,c,d]
      congr 1
      .omega
      .congr 1
       .omega
       .congr 1
        .omega
        .congr 1;omega
    .simp only[dX]at h;rw[nN' j,nN' k,nN' o,pP' q,nN' g]at h;exact absurd rfl h
  .have:dX (a::r)=(0,0):=by simp[dX,j,k,o,q]
   rw[this]at h;exact absurd rfl h
theorem a9m:(dX l).2=0->dX l=(0,0):=by
 unfold dX
 repeat' split
 all_goals(intro h;first|rfl|(simp at h))
theorem BX{c:Int}(h:aY c=true):IsB (enc1 c):=by
 have b:=wL h;intro x a;unfold enc1 at a
 repeat' split at a
 all_goals(simp only[List.mem_cons,List.not_mem_nil,or_false]at a;omega)
def a9d(w:World)(l:List Int)(g:Nat)(s4:Value)(wx:World):Prop:=
 ∃k:Nat,g+k=5/\1<=k/\s4=.int .i64 k/\Ext w wx/\Hid (∀m,m≠0->m<k->m<=l.length->¬(utfLen (rcU l m)=m/\enc1 (rcU l m)=l.take m))
theorem a9c(G:IsB l)(hm:l.length<=1099511627776)(w:World):
 cE' 186 #[.string (sB l)] w (.tuple #[.int .i64 (dX l).1,.int .i64 (dX l).2]):=by
 have q:=ah G;have K:=ah (a9T G);have E:=ah (λn c=> @a9R l n c);have H:=ah (Il l);generalize I:dX l=V at*;have L:Hid (V.2=0->V=(0,0)):=ah (by subst I;exact a9m l);clear G I;go_enter func186,ntmps186;go_wp2;go_loopg[4] 4 (λM N O=>a9d w l M N O);exact⟨1,by omega,by omega,rfl,eR',ah (λm r A=>by omega)⟩;obtain⟨k,R,P,g,D,B⟩:=hrel;have x:=ah D;clear D;by_cases S:k<=4/\k<=l.length
 .have T:=xQ q.out 0;have U:=xQ q.out 1;have W:=xQ q.out 2;have X:=xQ q.out 3;rcases(show k=1\/k=2\/k=3\/k=4 by omega)with h|h|h|h
  .subst h;have g:=g.trans (show _=Value.int .i64 1 from rfl);subst g;have F:∀w,(Instr.index 9 (.string (sB l)) (.int .i64 0)).run prog w=.ok (.int .u8 (l.getD 0 0)) w:=ixc q.out (k:=0) (by omega);have y:Hid (rcU l 1=l.getD 0 0):=rfl;have i:∀w,(Instr.slice 9 (.string (sB l)) none (some (.int .i64 1)) none).run prog w=.ok (.string (sB (l.take 1))) w:=λw=>BQ w (k:=1) (by omega)
   generalize l.getD 0 0=y0 at*;go_wp2_with fail;generalize y0=c at*;by_cases j:utfLen c=1
   .have s:=utf_scal j (by omega);have C:(utfLen c==1)=true:=(by rw[bq'];exact j);have b:=vO (BX s) (yD q.out 1);cases p:decide (enc1 c=l.take 1)
    .rw[p]at b
     have d:Hid (∀m,m≠0->m<1+1->m<=l.length->¬(utfLen (rcU l m)=m/\enc1 (rcU l m)=l.take m)):=ah (λm r A t f=>by
      by_cases e:m=1
      .subst e;rw[y.out]at f;exact(decide_eq_false_iff_not.1 p) f.2
      .exact B.out m r (by omega) t f)
     refine rX' ?_
     repeat(go_big_quiet_step(first
      |(go_at_call 137;exact jf (vT _ _))
      |(go_at_call 75;exact aS (zG c s _))))
     refine wpQuiet_nil ?_;rintro _⟨o,rfl⟩;have a:=x.out.trans' o.h;clear i b;go_wp2;go_roundg 3;exact⟨1+1,by omega,by omega,by go_num,a,d⟩;omega
    .rw[p]at b;have z:Hid (V=(c,1)):=ah (E.out 1 c (by omega) j (of_decide_eq_true p));refine rX' ?_
     repeat(go_big_quiet_step(first
      |(go_at_call 137;exact jf (vT _ _))
      |(go_at_call 75;exact aS (zG c s _))))
     refine wpQuiet_nil ?_;rintro _⟨o,rfl⟩;have a:=x.out.trans' o.h;go_wp2;go_ret2;exact⟨by rw[z.out];rfl,a⟩
   .have C:(utfLen c==1)=false:=by rw[aO];exact j
    have d:Hid (∀m,m≠0->m<1+1->m<=l.length->¬(utfLen (rcU l m)=m/\enc1 (rcU l m)=l.take m)):=ah (λm r A t f=>by
     by_cases e:m=1
     .subst e;rw[y.out]at f;exact j f.1
     .exact B.out m r (by omega) t f)
    refine rX' ?_
    repeat(go_big_quiet_step((go_at_call 137;exact jf (vT _ _))))
    refine wpQuiet_nil ?_;rintro _⟨o,rfl⟩;have a:=x.out.trans' o.h;clear i;go_wp2;go_roundg 3;exact⟨1+1,by omega,by omega,by go_num,a,d⟩;omega
  .subst h;have g:=g.trans (show _=Value.int .i64 2 from rfl);subst g;have F:∀w,(Instr.index 9 (.string (sB l)) (.int .i64 0)).run prog w=.ok (.int .u8 (l.getD 0 0)) w:=ixc q.out (k:=0) (by omega);have J:∀w,(Instr.index 9 (.string (sB l)) (.int .i64 1)).run prog w=.ok (.int .u8 (l.getD 1 0)) w:=ixc q.out (k:=1) (by omega);have y:Hid (rcU l 2=(l.getD 0 0-192)*64+l.getD 1 0-128):=rfl;have i:∀w,(Instr.slice 9 (.string (sB l)) none (some (.int .i64 2)) none).run prog w=.ok (.string (sB (l.take 2))) w:=λw=>BQ w (k:=2) (by omega)
   generalize l.getD 0 0=y0 at*;generalize l.getD 1 0=y1 at*;go_wp2_with fail;go_quiet (fail);go_wp2_with fail;generalize(y0-192)*64+y1-128=c at*;by_cases j:utfLen c=2
   .have s:=utf_scal j (by omega);have C:(utfLen c==2)=true:=(by rw[bq'];exact j);have b:=vO (BX s) (yD q.out 2);cases p:decide (enc1 c=l.take 2)
    .rw[p]at b
     have d:Hid (∀m,m≠0->m<2+1->m<=l.length->¬(utfLen (rcU l m)=m/\enc1 (rcU l m)=l.take m)):=ah (λm r A t f=>by
      by_cases e:m=2
      .subst e;rw[y.out]at f;exact(decide_eq_false_iff_not.1 p) f.2
      .exact B.out m r (by omega) t f)
     refine rX' ?_
     repeat(go_big_quiet_step(first
      |(go_at_call 137;exact jf (vT _ _))
      |(go_at_call 75;exact aS (zG c s _))))
     refine wpQuiet_nil ?_;rintro _⟨o,rfl⟩;have a:=(x.out.nI _).trans' o.h;clear i b;go_wp2;go_roundg 2;exact⟨2+1,by omega,by omega,by go_num,a,d⟩;omega
    .rw[p]at b;have z:Hid (V=(c,2)):=ah (E.out 2 c (by omega) j (of_decide_eq_true p));refine rX' ?_
     repeat(go_big_quiet_step(first
      |(go_at_call 137;exact jf (vT _ _))
      |(go_at_call 75;exact aS (zG c s _))))
     refine wpQuiet_nil ?_;rintro _⟨o,rfl⟩;have a:=(x.out.nI _).trans' o.h;go_wp2;go_ret2;exact⟨by rw[z.out];rfl,a⟩
   .have C:(utfLen c==2)=false:=by rw[aO];exact j
    have d:Hid (∀m,m≠0->m<2+1->m<=l.length->¬(utfLen (rcU l m)=m/\enc1 (rcU l m)=l.take m)):=ah (λm r A t f=>by
     by_cases e:m=2
     .subst e;rw[y.out]at f;exact j f.1
     .exact B.out m r (by omega) t f)
    refine rX' ?_
    repeat(go_big_quiet_step((go_at_call 137;exact jf (vT _ _))))
    refine wpQuiet_nil ?_;rintro _⟨o,rfl⟩;have a:=(x.out.nI _).trans' o.h;clear i;go_wp2;go_roundg 2;exact⟨2+1,by omega,by omega,by go_num,a,d⟩;omega
  .subst h;have g:=g.trans (show _=Value.int .i64 3 from rfl);subst g;have F:∀w,(Instr.index 9 (.string (sB l)) (.int .i64 0)).run prog w=.ok (.int .u8 (l.getD 0 0)) w:=ixc q.out (k:=0) (by omega);have J:∀w,(Instr.index 9 (.string (sB l)) (.int .i64 1)).run prog w=.ok (.int .u8 (l.getD 1 0)) w:=ixc q.out (k:=1) (by omega);have Q:∀w,(Instr.index 9 (.string (sB l)) (.int .i64 2)).run prog w=.ok (.int .u8 (l.getD 2 0)) w:=ixc q.out (k:=2) (by omega);have y:Hid (rcU l 3=(l.getD 0 0-224)*4096+(l.getD 1 0-128)*64+l.getD 2 0-128):=rfl;have i:∀w,(Instr.slice 9 (.string (sB l)) none (some (.int .i64 3)) none).run prog w=.ok (.string (sB (l.take 3))) w:=λw=>BQ w (k:=3) (by omega)
   generalize l.getD 0 0=y0 at*;generalize l.getD 1 0=y1 at*;generalize l.getD 2 0=y2 at*;go_wp2_with fail;go_quiet (fail);go_wp2_with fail;generalize(y0-224)*4096+(y1-128)*64+y2-128=c at*;by_cases j:utfLen c=3
   .have s:=utf_scal j (by omega);have C:(utfLen c==3)=true:=(by rw[bq'];exact j);have b:=vO (BX s) (yD q.out 3);cases p:decide (enc1 c=l.take 3)
    .rw[p]at b
     have d:Hid (∀m,m≠0->m<3+1->m<=l.length->¬(utfLen (rcU l m)=m/\enc1 (rcU l m)=l.take m)):=ah (λm r A t f=>by
      by_cases e:m=3
      .subst e;rw[y.out]at f;exact(decide_eq_false_iff_not.1 p) f.2
      .exact B.out m r (by omega) t f)
     refine rX' ?_
     repeat(go_big_quiet_step(first
      |(go_at_call 137;exact jf (vT _ _))
      |(go_at_call 75;exact aS (zG c s _))))
     refine wpQuiet_nil ?_;rintro _⟨o,rfl⟩;have a:=(x.out.nI _).trans' o.h;clear i b;go_wp2;go_roundg 1;exact⟨3+1,by omega,by omega,by go_num,a,d⟩;omega
    .rw[p]at b;have z:Hid (V=(c,3)):=ah (E.out 3 c (by omega) j (of_decide_eq_true p));refine rX' ?_
     repeat(go_big_quiet_step(first
      |(go_at_call 137;exact jf (vT _ _))
      |(go_at_call 75;exact aS (zG c s _))))
     refine wpQuiet_nil ?_;rintro _⟨o,rfl⟩;have a:=(x.out.nI _).trans' o.h;go_wp2;go_ret2;exact⟨by rw[z.out];rfl,a⟩
   .have C:(utfLen c==3)=false:=by rw[aO];exact j
    have d:Hid (∀m,m≠0->m<3+1->m<=l.length->¬(utfLen (rcU l m)=m/\enc1 (rcU l m)=l.take m)):=ah (λm r A t f=>by
     by_cases e:m=3
     .subst e;rw[y.out]at f;exact j f.1
     .exact B.out m r (by omega) t f)
    refine rX' ?_
    repeat(go_big_quiet_step((go_at_call 137;exact jf (vT _ _))))
    refine wpQuiet_nil ?_;rintro _⟨o,rfl⟩;have a:=(x.out.nI _).trans' o.h;clear i;go_wp2;go_roundg 1;exact⟨3+1,by omega,by omega,by go_num,a,d⟩;omega
  .subst h;have g:=g.trans (show _=Value.int .i64 4 from rfl);subst g;have F:∀w,(Instr.index 9 (.string (sB l)) (.int .i64 0)).run prog w=.ok (.int .u8 (l.getD 0 0)) w:=ixc q.out (k:=0) (by omega);have J:∀w,(Instr.index 9 (.string (sB l)) (.int .i64 1)).run prog w=.ok (.int .u8 (l.getD 1 0)) w:=ixc q.out (k:=1) (by omega);have Q:∀w,(Instr.index 9 (.string (sB l)) (.int .i64 2)).run prog w=.ok (.int .u8 (l.getD 2 0)) w:=ixc q.out (k:=2) (by omega);have Y:∀w,(Instr.index 9 (.string (sB l)) (.int .i64 3)).run prog w=.ok (.int .u8 (l.getD 3 0)) w:=ixc q.out (k:=3) (by omega);have y:Hid (rcU l 4=(l.getD 0 0-240)*262144+(l.getD 1 0-128)*4096+(l.getD 2 0-128)*64+l.getD 3 0-128):=rfl;have i:∀w,(Instr.slice 9 (.string (sB l)) none (some (.int .i64 4)) none).run prog w=.ok (.string (sB (l.take 4))) w:=λw=>BQ w (k:=4) (by omega)
   generalize l.getD 0 0=y0 at*;generalize l.getD 1 0=y1 at*;generalize l.getD 2 0=y2 at*;generalize l.getD 3 0=y3 at*;go_wp2_with fail;go_quiet (fail);go_wp2_with fail;generalize(y0-240)*262144+(y1-128)*4096+(y2-128)*64+y3-128=c at*;by_cases j:utfLen c=4
   .have s:=utf_scal j (by omega);have C:(utfLen c==4)=true:=(by rw[bq'];exact j);have b:=vO (BX s) (yD q.out 4);cases p:decide (enc1 c=l.take 4)
    .rw[p]at b
     have d:Hid (∀m,m≠0->m<4+1->m<=l.length->¬(utfLen (rcU l m)=m/\enc1 (rcU l m)=l.take m)):=ah (λm r A t f=>by
      by_cases e:m=4
      .subst e;rw[y.out]at f;exact(decide_eq_false_iff_not.1 p) f.2
      .exact B.out m r (by omega) t f)
     refine rX' ?_
     repeat(go_big_quiet_step(first
      |(go_at_call 137;exact jf (vT _ _))
      |(go_at_call 75;exact aS (zG c s _))))
     refine wpQuiet_nil ?_;rintro _⟨o,rfl⟩;have a:=(x.out.nI _).trans' o.h;clear i b;go_wp2;go_roundg 0;exact⟨4+1,by omega,by omega,by go_num,a,d⟩;omega
    .rw[p]at b;have z:Hid (V=(c,4)):=ah (E.out 4 c (by omega) j (of_decide_eq_true p));refine rX' ?_
     repeat(go_big_quiet_step(first
      |(go_at_call 137;exact jf (vT _ _))
      |(go_at_call 75;exact aS (zG c s _))))
     refine wpQuiet_nil ?_;rintro _⟨o,rfl⟩;have a:=(x.out.nI _).trans' o.h;go_wp2;go_ret2;exact⟨by rw[z.out];rfl,a⟩
   .have C:(utfLen c==4)=false:=by rw[aO];exact j
    have d:Hid (∀m,m≠0->m<4+1->m<=l.length->¬(utfLen (rcU l m)=m/\enc1 (rcU l m)=l.take m)):=ah (λm r A t f=>by
     by_cases e:m=4
     .subst e;rw[y.out]at f;exact j f.1
     .exact B.out m r (by omega) t f)
    refine rX' ?_
    repeat(go_big_quiet_step((go_at_call 137;exact jf (vT _ _))))
    refine wpQuiet_nil ?_;rintro _⟨o,rfl⟩;have a:=(x.out.nI _).trans' o.h;clear i;go_wp2;go_roundg 0;exact⟨4+1,by omega,by omega,by go_num,a,d⟩;omega
 .subst g
  have z:Hid (V=(0,0)):=ah (by
   refine L.out ?_;by_cases h:V.2=0
   .exact h
   .have:=K.out h;have Z:=H.out
    exact absurd this.2 (B.out V.2 h (by omega) H.out))
  have D:=x.out;by_cases r:k<=4
  .have A:¬k<=l.length:=by omega
   go_wp2;go_ret2;exact⟨by rw[z.out];rfl,D⟩
  .go_wp2;go_ret2;exact⟨by rw[z.out];rfl,D⟩
theorem a9o(E:IsB l)(V:l.length<=1099511600000)(w:World):
 Calls prog 114 #[.string (sB l)] w λe w'=>∃A n c,e=.returned (.tuple #[.slice A n c,.int .i64 (jB l).2])/\aF w' ⟨A,n,c⟩ (jB l).1/\Ext w w':=by
 have F:=ah E;clear E;go_enter func114,ntmps114;go_wp2;go_loopg[4,5] l.length (λG H I J=>Y1 w l G H I J);exact⟨none,0,0,[],by omega,rfl,rfl,Own.nil_ _ _ _ _,eR',lr' _,ah (by simp)⟩;obtain⟨A,c,k,b,R,rfl,rfl,d,z,K,q⟩:=hrel;have B:=ah d;have C:=ah z;clear d z;by_cases S:k<l.length
 .have s:=DC (w:=wr) (l:=l) (k:=k) (by omega);go_wp2_with fail;refine(a9c (l.drop k) (Ap F.out k) (by rw[List.length_drop];omega) wr).mono ?_;rintro e T⟨rfl,f⟩;have r:=ah (@MH (l.drop k));have t:=ah (@TF (l.drop k));have g:=Il (l.drop k);rw[List.drop_drop]at r;rw[List.length_drop]at g;generalize dX (l.drop k)=p at*;obtain⟨x,n⟩:=p;simp only at r t g;have h:=ah (C.out.trans' f);have i:=ah (Own.ext B.out f);clear f s;by_cases D:n=0
  .have j:Hid (jB l=(b,k)):=ah (by rw[q.out,t.out D];simp);have L:((n:Int)==0)=true:=(by rw[bq'];omega);go_wp2;go_ret2;exact⟨A,_,c,by rw[j.out];rfl,by rw[j.out];exact aK.ints i.out,h.out⟩
  .have L:((n:Int)==0)=false:=bF';have y:=aJ q (show _=((b++[x])++(jB (l.drop (k+n))).1,(k+n:Nat)+(jB (l.drop (k+n))).2)from by rw[r.out D];simp[Nat.add_assoc]);obtain⟨M,N,U,m,a,o,_⟩:=yJ i.out h.out x (by omega);have O:=ah a;have P:=ah o;clear q r t a o;go_wp2_with(at_builtin;refine dI rfl _ _ _ rfl _ _ rfl rfl _ _ m ?_);go_roundg (l.length-(k+n));exact⟨M,N,k+n,b++[x],by omega,by simp,by go_num,by simpa using O.out,P.out,by simp;omega,y⟩;omega
 .have Q:l.drop k=[]:=bV l k (by omega);have j:Hid (jB l=(b,k)):=ah (by rw[q.out,Q];simp[jB,xP]);go_wp2;go_ret2;exact⟨A,_,c,by rw[j.out];rfl,by rw[j.out];exact aK.ints B.out,C.out⟩
theorem a9s(k:IsB l)(w:World):Calls prog 56 #[.string (sB l)] w (Je w (gG l)):=by
 have a:Hid (gG l=(if 4096<l.length then([],0,7)else if(jB l).2<l.length then([],((jB l).2:Int),9)else((jB l).1,0,0):List Int×Int×Int)):=rfl;generalize gG l=D at*;have o:=ah k;clear k;by_cases b:4096<l.length
 .rw[pP' b]at a;go_enter func56,ntmps56;go_wp2;go_ret3;exact⟨none,0,0,by rw[a.out];rfl,by rw[a.out];exact aF.nil_ w,eR'⟩
 rw[nN' b]at a;go_enter func56,ntmps56;go_wp2_with fail;refine(a9o l o.out (by omega) w).mono ?_;rintro e p⟨A,n,c,rfl,f,g⟩;have h:=ah f;have i:=ah g;clear f g;generalize jB l=d at*;obtain⟨q,m⟩:=d;simp only at a h;by_cases j:m<l.length
 .rw[pP' j]at a;go_wp2;go_ret3;exact⟨none,0,0,by rw[a.out];rfl,by rw[a.out];exact aF.nil_ _,i.out⟩
 .rw[nN' j]at a;go_wp2;go_ret3;exact⟨A,n,c,by rw[a.out];rfl,by rw[a.out];exact h.out,i.out⟩
def a9r(w:World)(l:List Int)(g:Nat)(s4 s12:Value)(wx:World):Prop:=
 ∃k:Nat,g+k=l.length/\s12=.int .i64 k/\s4=.string (sB (jm (l.take k)))/\(jm (l.take k)).length<=4*k/\Ext w wx/\Hid ((l.take k).any (λc=> !aY c)=false)
theorem F9(z:aF w ⟨A,n,c⟩ l):Calls prog 40 #[.slice A n c] w (yK w (mQ l)):=by
 have g:Hid (mQ l=if 4096<l.length then([],7)else if l.any (λc=> !aY c)then([],3)else(jm l,0)):=rfl;generalize mQ l=D at*;have H:=z.len.1;subst H;have I:=ah z;clear z;by_cases B:4096<l.length
 .rw[pP' B]at g;go_enter func40,ntmps40;go_wp2;go_ret2;exact⟨by rw[g.out];rfl,eR'⟩
 rw[nN' B]at g;go_enter func40,ntmps40;go_wp2;go_loopg[4,12] l.length (λJ K m L=>a9r w l J K m L);exact⟨0,by omega,rfl,rfl,by simp[jm],eR',rfl⟩;obtain⟨k,Q,rfl,rfl,M,d,h⟩:=hrel;have i:=ah d;clear d;by_cases j:k<l.length
 .obtain⟨b,o,N,O⟩:=(I.out.ext i.out).at_ j;subst N;have p:=ah (yM (f:=λc=> !aY c) j);have q:=ah (anyM (f:=λc=> !aY c) j);have C:Hid (jm (l.take (k+1))=jm (l.take k)++enc1 l[k]):=ah (by rw[tS' j];unfold jm;rw[List.flatMap_append];simp);generalize l[k]=x at*;go_wp2_with fail;refine(zV _ _).mono ?_;rintro e R⟨rfl,rfl⟩;cases r:aY x
  .have s:Hid (D=([],3)):=ah (by rw[g.out,pP' (q.out (by simp[r]))]);have d:=i.out;go_wp2;go_ret2;exact⟨by rw[s.out];rfl,d⟩
  .have t:Hid ((l.take (k+1)).any (λc=> !aY c)=false):=ah (by rw[p.out,h.out];simp[r]);have S:=BU x;have P:=ah (zG x r wr);have F:=a2i wr (a:=jm (l.take k)) (b:=enc1 x) (by omega);generalize jm (l.take k)=E at*;generalize enc1 x=E1 at*;go_wp2_with fail;refine P.out.mono ?_;rintro e T⟨rfl,y⟩;have d:=i.out.trans' y;go_wp2;go_roundg (l.length-(k+1));exact⟨k+1,by omega,by go_num,by rw[C.out],by rw[C.out,lA'];omega,d,t⟩;omega
 .have G:l.take k=l:=tL' (by omega);rw[G]at h;have s:Hid (D=(jm (l.take k),0)):=ah (by rw[g.out,nN' (by rw[h.out];simp),G]);have d:=i.out;clear h;go_wp2;go_ret2;exact⟨by rw[s.out];rfl,d⟩
theorem Ui(j b:Int)(a:0<=j/\j<=4096)(c: -100000<=b/\b<=100000)(w:World):cW' 284 #[.int .i64 j,.int .i64 b] w (.int .i64 (iC j b)):=by
 go_enter func284,ntmps284;go_wp2
 all_goals(go_ret;refine⟨aV ?_,rfl⟩;unfold iC;omega)
def fG(d:Int):Int:=if d<26 then 97+d else 22+d
theorem aB9{d:Int}(h:0<=d/\d<36):0<=fG d/\fG d<256:=by unfold fG;split<;>omega
theorem a9q{d:Int}(h:0<=d/\d<36)(w:World):(Instr.index 9 (.string ⟨#[97,98,99,100,101,102,103,104,105,106,107,108,109,110,111,112,113,114,115,116,117,118,119,120,121,122,48,49,50,51,52,53,54,55,56,57]⟩) (.int .i64 d)).run prog w=.ok (.int .u8 (fG d)) w:=by
 obtain⟨n,rfl⟩:=Int.eq_ofNat_of_zero_le h.1;have a:n<36:=by omega
 have b:=MG (l:=[97,98,99,100,101,102,103,104,105,106,107,108,109,110,111,112,113,114,115,116,117,118,119,120,121,122,48,49,50,51,52,53,54,55,56,57]) w (by intro x c;simp at c;omega) (k:=n) (by simp;omega);refine Eq.trans b (congrArg (λx:Int=>Result.ok (Value.int .u8 x) w) ?_);have:∀m:Fin 36,([97,98,99,100,101,102,103,104,105,106,107,108,109,110,111,112,113,114,115,116,117,118,119,120,121,122,48,49,50,51,52,53,54,55,56,57]:List Int)[m.val]=fG m.val:=by decide
 exact this ⟨n,a⟩
theorem Uh(d:Int)(h:0<=d/\d<36)(w:World):cW' 285 #[.int .i64 d] w (.int .u8 (fG d)):=by
 have a:=a9q h w;generalize fG d=v at*;go_enter func285,ntmps285;go_wp2;go_ret;exact⟨rfl,rfl⟩
def aAg(w0:World)(L:List Int)(b v0:Int)(g:Nat)(s0 s1 s7:Value)(wx:World):Prop:=
 ∃(A:Option Addr)(c j:Nat)(v:Int)(acc:List Int),g+j=63/\s7=.int .i64 j/\s1=.int .i64 v/\0<=v/\v<2 ^ g/\v<2147483648/\s0=.slice A (L.length+acc.length) c/\OwnB wx w0.heap.size A (L.length+acc.length) c (L++acc.map fG)/\Ext w0 wx/\acc.length<=j/\Hid (jq b 64 0 v0=acc++jq b (g+1) j v)
theorem aAp(s w:World)(A:Option Addr)(n c:Nat)(L:List Int)(v b:Int)(O:0<=v/\v<2147483648)(hb: -100000<=b/\b<=100000)(d:OwnB w s.heap.size A n c L)(P:Ext s w)(hn:n=L.length)(hm:n<=1099511000000):
 Calls prog 260 #[.slice A n c,.int .i64 v,.int .i64 b] w (U4 s (L++(jq b 64 0 v).map fG)):=by
 have x:=ah d;have Q:=ah P;subst hn;clear d P;generalize H:v=v0 at*;have HV:=ah H;clear H;go_enter func260,ntmps260;go_wp2;go_loopg[0,1,7] 63 (λR S T U V=>aAg s L b v0 R S T U V);exact⟨A,c,0,v0,[],by omega,rfl,rfl,O.1,by omega,O.2,rfl,by simpa using x.out,Q.out,by simp,rfl⟩;obtain⟨A,c,j,v,g,hg,rfl,rfl,W,p,X,rfl,d,q,Y,D⟩:=hrel;have x:=ah d;have I:=ah q;have E:(0:Int)<=(j:Int)/\(j:Int)<=4096:=by omega
 have ht:=Ce j b;have i:Hid (jq b (gk+1) j v=if v<iC j b then[v]else(iC j b+(v-iC j b) % (36-iC j b))::jq b gk (j+1) ((v-iC j b) / (36-iC j b))):=rfl;have J:=ah (Ui j b E hb wr);generalize iC j b=t at*;clear d q;go_wp2_with fail;refine J.out.mono ?_;rintro e K⟨rfl,rfl⟩;by_cases k:v<t
 .rw[pP' k]at i;have Z:decide (v<t)=true:=by rw[au];exact k
  have z:=ah (Uh v (by omega) wr);obtain⟨B,C,M,f,a,l,_⟩:=zF x.out I.out #[.int .u8 (fG v)] [fG v] 1 rfl rfl (by omega) (by omega);go_wp2_with fail;refine z.out.mono ?_;rintro e K⟨rfl,rfl⟩;obtain⟨y,m⟩:=eY' (fG v);have HY:=ah m;rw[m]at f a;rw[m];clear m;go_wp2_with(at_builtin;refine dI rfl _ _ _ rfl _ _ rfl rfl _ _ f ?_);have N:Hid (jq b 64 0 v0=g++[v]):=ah (by rw[D.out,i.out]);go_ret;exact⟨B,_,C,rfl,by rw[N.out];simp[Nat.add_assoc],by rw[N.out];simpa[HY.out]using a,l⟩
 .rw[nN' k]at i;have Z:decide (v<t)=false:=by rw[aA];exact k
  have a1:=Int.emod_nonneg (v-t) (b:=36-t) (by omega);have a2:=Int.emod_lt_of_pos (v-t) (b:=36-t) (by omega);have r:0<=(v-t) / (36-t):=Int.ediv_nonneg (by omega) (by omega);have a3:(v-t) / (36-t)*2<=v:=by
   have h1:=Int.mul_ediv_add_emod (v-t) (36-t);have h2:(v-t) / (36-t)*2<=(v-t) / (36-t)*(36-t):=Int.mul_le_mul_of_nonneg_left (by omega) r;rw[Int.mul_comm (36-t)]at h1;omega
  obtain⟨o,rfl⟩:∃g',gk=g'+1:=by
   rcases Nat.eq_zero_or_pos gk with h|h
   .subst h;exact absurd p (by omega)
   .exact⟨gk-1,by omega⟩
  have F:(v-t) / (36-t)<2 ^ o:=by rw[Int.pow_succ]at p;omega
  have z:=ah (Uh (t+(v-t) % (36-t)) (by omega) wr);have G:=aJ D (show _=(g++[t+(v-t) % (36-t)])++jq b (o+1) ((j+1:Nat):Int) ((v-t) / (36-t))from by rw[i.out];simp);have a6:t+(v-t) % (36-t)<62:=by omega
  obtain⟨y,m⟩:=eY' (fG (t+(v-t) % (36-t)));obtain⟨B,C,M,f,a,l,_⟩:=zF x.out I.out #[.int .u8 y] [y] 1 rfl rfl (by omega) (by omega);rw[m]at z;have bP:Hid (OwnB M s.heap.size B (L.length+g.length+1) C (L++(g++[t+(v-t) % (36-t)]).map fG)):=ah (by simpa[m]using a);have bD:=ah l;clear a l m D i J;go_wp2_with fail;refine z.out.mono ?_;rintro e K⟨rfl,rfl⟩;go_wp2_with(at_builtin;refine dI rfl _ _ _ rfl _ _ rfl rfl _ _ f ?_);go_roundg o;exact⟨B,C,j+1,_,g++[t+(v-t) % (36-t)],by omega,by go_num,rfl,r,F,by omega,by simp[Nat.add_assoc],by simpa[Nat.add_assoc]using bP.out,bD.out,by simp;omega,G⟩;omega
def V4(w:World)(d0:Int)(g:Nat)(s0 s7:Value)(wx:World):Prop:=
 ∃k d:Int,s0=.int .i64 d/\s7=.int .i64 k/\0<=d/\d<35 ^ g/\d<64339296875/\0<=k/\k+36*g=252/\w=wx/\Hid (adG 64 0 d0=adG (57+g) k d)
theorem V3(d p:Int)(f:Bool)(O:0<=d/\d<2147483648)(P:1<=p/\p<=4096)(w:World):cW' 261 #[.int .i64 d,.int .i64 p,.bool f] w (.int .i64 (pF d p f)):=by
 have n:Hid (pF d p f=adG 64 0 ((if f then d / 700 else d / 2)+(if f then d / 700 else d / 2) / p)):=ah (by unfold pF;rw[nN' (by omega)]);generalize pF d p f=V at*;obtain⟨a,b⟩:=eY' (if f=true then d / 700 else d / 2);rw[b]at n;have i:0<=a/\a<=1073741824:=by rw[<- b];cases f<;>simp<;>omega
 have r:0<=a / p:=Int.ediv_nonneg (by omega) (by omega);have s:a / p<=a:=Int.ediv_le_self p i.1;have o:Hid (a+a / p<64339296875):=ah (by omega);have I:decide (d<0)=false:=dF';have J:decide (1099511627776<d)=false:=dF';have K:decide (p<1)=false:=dF';have L:decide (4096<p)=false:=dF';go_enter func261,ntmps261;cases f<;>simp only[Bool.false_eq_true,if_false,if_true]at b
 all_goals
  go_wp2_with fail;rw[b];clear b;go_loopg[0,7] 7 (λt y z A=>V4 w (a+a / p) t y z A);exact⟨0,a+a / p,rfl,rfl,by omega,o.out,o.out,by omega,by omega,rfl,rfl⟩;obtain⟨k,x,rfl,rfl,B,g,C,D,M,rfl,j⟩:=hrel;have l:Hid (adG (57+gk) k x=if x<=455 then k+36*x / (x+38)else adG (56+gk) (k+36) (x / 35)):=ah (by rw[show 57+gk=(56+gk)+1 by omega];rfl);by_cases q:x<=455
  .have E:Hid (V=k+36*x / (x+38)):=ah (by rw[n.out,j.out,l.out,pP' q]);have N:0<=36*x / (x+38):=Int.ediv_nonneg (by omega) (by omega);have F:36*x / (x+38)<=36*x:=Int.ediv_le_self _ (by omega);go_wp2;go_ret;exact⟨aV E.out.symm,rfl⟩
  .obtain⟨c,rfl⟩:∃G,gk=G+1:=by
    rcases Nat.eq_zero_or_pos gk with h|h
    .subst h;exact absurd g (by omega)
    .exact⟨gk-1,by omega⟩
   have H:x / 35<35 ^ c:=(by rw[Int.pow_succ]at g;omega);have m:=aJ j (show _=adG (57+c) (k+36) (x / 35)from by rw[l.out,nN' q];congr 1;omega);clear j l;go_wp2;go_roundg c;exact⟨k+36,x / 35,rfl,rfl,by omega,H,by omega,by omega,by omega,rfl,m⟩;omega
def nN(l:List Int):List Int:=jr l++if(jr l).length=0 then[]else[45]
noncomputable def iO(l:List Int):List Int:=nN l++(yN l).map fG
noncomputable def kD(l:List Int):List Int×Int:=if 256<l.length then([],7)else if l.any (λc=> !aY c)then([],3)else(iO l,0)
theorem IB:(jr l).length<=l.length:=List.length_filter_le _ _
def aG6(w:World)(l:List Int)(g:Nat)(s4 s22:Value)(wx:World):Prop:=
 ∃(A:Option Addr)(c k:Nat),g+k=l.length/\s22=.int .i64 k/\s4=.slice A (jr (l.take k)).length c/\OwnB wx w.heap.size A (jr (l.take k)).length c (jr (l.take k))/\Ext w wx/\Hid ((l.take k).any (λc=> !aY c)=false)
structure PoS(w:World)(l:List Int)(A:Option Addr)(N c h:Nat)(n delta b nr ir:Int)(f:Bool)(acc:List Int)(wx:World):Prop where
 own:OwnB wx w.heap.size A N c (nN l++acc.map fG)
 len:N=(nN l++acc.map fG).length
 ext:Ext w wx
 fw:FwP l n 0 nr ir b f acc
 cnt:h=bY (plc l n 0) l.length
 del:delta=(n-nr)*(h+1)-ir
def Vs(w:World)(l:List Int)(g:Nat)(s4 s7 s8 s9 s10 s11:Value)(wx:World):Prop:=
 ∃(A:Option Addr)(N c h:Nat)(n delta b nr ir:Int)(f:Bool)(acc:List Int),g+h=l.length/\s4=.slice A N c/\s7=.int .i64 h/\s8=.bool f/\s9=.int .i64 n/\s10=.int .i64 delta/\s11=.int .i64 b/\
  Hid (PoS w l A N c h n delta b nr ir f acc wx)/\0<=delta/\0<=nr/\nr<=n/\128<=n/\n<=1114112/\0<=ir/\0<=b/\b<=2400/\N<=257+64*h
def aGm(l:List Int)(n:Int)(w1:World)(g:Nat)(s12 s50:Value)(wx:World):Prop:=
 ∃k:Nat,g+k=l.length/\s50=.int .i64 k/\s12=.int .i64 (mnP n (l.take k))/\wx=w1
structure PiS(w:World)(l:List Int)(A:Option Addr)(N c p h:Nat)(m delta b nr ir:Int)(f:Bool)(acc:List Int)(wx:World):Prop where
 own:OwnB wx w.heap.size A N c (nN l++acc.map fG)
 len:N=(nN l++acc.map fG).length
 ext:Ext w wx
 fw:FwP l m p nr ir b f acc
 cnt:h=bY (plc l m p) l.length
 del:delta=(m-nr)*(h+1)+bY (plc l m p) p-ir
def aGh(w:World)(l:List Int)(m:Int)(h0:Nat)(g:Nat)(s4 s7 s8 s10 s11 s71:Value)(wx:World):Prop:=
 ∃(A:Option Addr)(N c p h:Nat)(delta b nr ir:Int)(f:Bool)(acc:List Int),g+p=l.length/\s71=.int .i64 p/\s4=.slice A N c/\s7=.int .i64 h/\s8=.bool f/\s10=.int .i64 delta/\s11=.int .i64 b/\
  Hid (PiS w l A N c p h m delta b nr ir f acc wx)/\0<=delta/\0<=nr/\nr<=m/\0<=ir/\0<=b/\b<=2400/\N<=257+64*h/\h0<=h/\Hid (h0<h\/∀q(hq:q<l.length),q<p->l[q]≠m)
theorem aGc(hi:aF w ⟨A,n,c⟩ l):Calls prog 204 #[.slice A n c] w (yK w (kD l)):=by
 have HD:Hid (kD l=if 256<l.length then([],7)else if l.any (λc=> !aY c)then([],3)else(iO l,0)):=rfl;generalize kD l=D at*;have hn:=hi.len.1;subst hn;have HI:=ah hi;clear hi;by_cases h1:256<l.length
 .rw[pP' h1]at HD;go_enter func204,ntmps204;go_wp2;go_ret2;exact⟨by rw[HD.out];rfl,eR'⟩
 rw[nN' h1]at HD;go_enter func204,ntmps204;go_wp2;go_loopg[4,22] l.length (λX s4 bp Y=>aG6 w l X s4 bp Y);exact⟨none,0,0,by omega,rfl,rfl,Own.nil_ _ _ _ _,eR',rfl⟩;obtain⟨B,d,k,hg,rfl,rfl,aa,hb,HN⟩:=hrel;have HO:=ah aa;have HB:=ah hb;have al:=IB (l.take k);rw[List.length_take]at al;clear aa hb;by_cases hk:k<l.length
 .obtain⟨b,o,hA,b6⟩:=(HI.out.ext HB.out).at_ hk;subst hA;have am:=ah (yM (f:=λc=> !aY c) hk);have an:=ah (anyM (f:=λc=> !aY c) hk);have P:=ah (Nb hk);generalize l[k]=x at*;go_wp2_with fail;refine(yQ _ _).mono ?_;rintro e w'⟨rfl,rfl⟩;cases hs:aY x
  .have HF:Hid (D=([],3)):=ah (by rw[HD.out,pP' (an.out (by simp[hs]))]);have hb:=HB.out;have e1:(utfLen x==0)=true:=(by rw[bq'];exact(utfLen_eq_zero x).2 hs);go_wp2;go_ret2;exact⟨by rw[HF.out];rfl,hb⟩
  .have b7:Hid ((l.take (k+1)).any (λc=> !aY c)=false):=ah (by rw[am.out,HN.out];simp[hs]);have e1:(utfLen x==0)=false:=(by rw[aO];intro h;rw[(utfLen_eq_zero x).1 h]at hs;cases hs);have hx:=wL hs;by_cases G:x<128
   .obtain⟨V,W,Z,E,r,Q,_⟩:=zF HO.out HB.out #[.int .u8 x] [x] 1 rfl rfl (by omega) (by omega);rw[pP' G]at P;have bP:Hid (OwnB Z w.heap.size V (jr (l.take (k+1))).length W (jr (l.take (k+1)))):=ah (by rw[P.out,lA'];exact r);have bD:=ah Q;have bq:Hid ((jr (l.take (k+1))).length=(jr (l.take k)).length+1):=ah (by rw[P.out,lA'];rfl);clear r Q HN am an P;go_wp2_with(at_builtin;refine dI rfl _ _ _ rfl _ _ rfl rfl _ _ E ?_);go_roundg (l.length-(k+1));exact⟨V,W,k+1,by omega,by go_num,by rw[bq.out],bP.out,bD.out,b7⟩;omega
   .rw[nN' G,List.append_nil]at P;clear HN am an;go_wp2;go_roundg (l.length-(k+1));exact⟨B,d,k+1,by omega,by go_num,by rw[P.out],by rw[P.out];exact HO.out,HB.out,b7⟩;omega
 .have he:l.take k=l:=tL' (by omega);rw[he]at HO HN al;have HF:Hid (D=(iO l,0)):=ah (by rw[HD.out,nN' (by rw[HN.out];simp)]);have y:Hid ((jr l).length=bY (plc l 128 0) l.length):=ah (by rw[Np l.length (lr' _),tL' (lr' _)])
  have nY:Hid (∀x∈l,0<=x/\x<=1114111):=ah (λx hx=>wL (by
   cases hs:aY x
   .have h:l.any (λc=> !aY c)=true:=List.any_eq_true.2 ⟨x,hx,by simp[hs]⟩;rw[HN.out]at h;cases h
   .rfl))
  rw[he];clear HD HN he;have hl:l.length<=256:=by omega
  clear al h1 hg;generalize wr=w2 at*;have br:=IB l;have iM:Hid (nN l=jr l++if(jr l).length=0 then[]else[45]):=rfl;obtain⟨H,hH⟩:=eY' ((jr l).length);have qE:Hid ((nN l).length=H+if H=0 then 0 else 1):=ah (by rw[iM.out,lA',hH];split<;>rfl);rw[hH]at HO y br iM |-;have a0:Hid (∀(V:Option Addr)(N5 W:Nat)(Z:World),OwnB Z w.heap.size V N5 W (nN l)->N5=(nN l).length->Ext w Z->PoS w l V N5 W H 128 0 72 128 0 true [] Z):=ah (λV N5 W Z a1 a2 a3=>⟨by simpa using a1,by simpa using a2,a3,aCR l,y.out,by omega⟩);clear hH y;by_cases h0:H=0
  case' pos=>
   have lC:Hid (PoS w l B H d H 128 0 72 128 0 true [] w2):=ah (a0.out B H d w2 (by rw[iM.out,pP' h0,List.append_nil];exact HO.out) (by rw[qE.out,pP' h0];omega) HB.out);have R:decide ((0:Int)<(H:Int))=false:=dF';have b8:decide (0<H)=false:=dF';clear HO HB a0 qE iM h0;go_wp2;go_loopg[4,7,8,9,10,11] (l.length-H) (λX s4 s7 s8 s9 S T Y=>Vs w l X s4 s7 s8 s9 S T Y)
   case atStart=>exact⟨B,H,d,H,128,0,72,128,0,true,[],by omega,rfl,rfl,rfl,rfl,rfl,rfl,lC,by omega,by omega,by omega,by omega,by omega,by omega,by omega,by omega,by omega⟩
  case' neg=>
   obtain⟨V,W,Z,E,r,Q,_⟩:=zF HO.out HB.out #[.int .u8 45] [45] 1 rfl rfl (by omega) (by omega);have R:decide ((0:Int)<(H:Int))=true:=dT';have b8:decide (0<H)=true:=dT';have lC:Hid (PoS w l V (H+1) W H 128 0 72 128 0 true [] Z):=ah (a0.out V _ W Z (by rw[iM.out,nN' h0];exact r) (by rw[qE.out,nN' h0]) Q);clear HO r HB Q a0 qE iM h0;go_wp2_with(at_builtin;refine dI rfl _ _ _ rfl _ _ rfl rfl _ _ E ?_);clear E;go_loopg[4,7,8,9,10,11] (l.length-H) (λX s4 s7 s8 s9 S T Y=>Vs w l X s4 s7 s8 s9 S T Y)
   case atStart=>exact⟨V,H+1,W,H,128,0,72,128,0,true,[],by omega,rfl,rfl,rfl,rfl,rfl,rfl,lC,by omega,by omega,by omega,by omega,by omega,by omega,by omega,by omega,by omega⟩
  all_goals
   clear R b8 lC;obtain⟨A6,N6,c6,h,n,g,b,z,ir,f,j,hg,rfl,rfl,rfl,rfl,rfl,rfl,i,R,I,a6,bB,bE,J,K,L,hN⟩:=hrel;generalize wr=w3 at*;by_cases hh:h<l.length
   .have HM:=ah (aGS n l)
    have HX:Hid (∃q,∃C:q<l.length,128<=l[q]/\n<=l[q]):=ah (by
     have h1:=hh;rw[i.out.cnt]at h1;obtain⟨q,C,hf⟩:=Vm h1;rw[sD C]at hf;simp only[oF',aA]at hf
     exact⟨q,C,by omega,by omega⟩)
    go_wp2;go_loopg[12,50] l.length (λX bs bt Y=>aGm l n w3 X bs bt Y);exact⟨0,by omega,rfl,rfl,rfl⟩;obtain⟨p,bc,rfl,rfl,rfl⟩:=hrel;by_cases O:p<l.length
    .obtain⟨b',o',hA,b6⟩:=(HI.out.ext i.out.ext).at_ O;subst hA;have P:Hid (mnP n (l.take (p+1))=if n<=l[p]then min (mnP n (l.take p)) l[p]else mnP n (l.take p)):=ah (by rw[tS' O,aGY]);generalize l[p]=x at*;generalize mnP n (l.take p)=m at*;by_cases a7:n<=x
     .have bH:decide (n<=x)=true:=(by rw[au];exact a7);by_cases bd:m<=x
      .have U:Hid (mnP n (l.take (p+1))=m):=ah (by rw[P.out,pP' a7,Int.min_eq_left bd]);go_wp2;go_roundg (l.length-(p+1));exact⟨p+1,by omega,by go_num,by rw[U.out];first|done|rw[Int.min_eq_left bd],rfl⟩;omega
      .have U:Hid (mnP n (l.take (p+1))=x):=ah (by rw[P.out,pP' a7,Int.min_eq_right (by omega)]);go_wp2;go_roundg (l.length-(p+1));exact⟨p+1,by omega,by go_num,by rw[U.out];first|done|rw[Int.min_eq_right (show x<=m by omega)],rfl⟩;omega
     .have U:Hid (mnP n (l.take (p+1))=m):=ah (by rw[P.out,nN' a7]);go_wp2;go_roundg (l.length-(p+1));exact⟨p+1,by omega,by go_num,by rw[U.out],rfl⟩;omega
    .have he:l.take p=l:=tL' (by omega);rw[he];obtain⟨m,hm⟩:=eY' (mnP n l);rw[hm]at HM |-;have be:n<=m/\m<=1114111:=by
      obtain⟨q,C,h1,h2⟩:=HX.out;obtain⟨a1,a2,a3⟩:=HM.out;have h3:=a2 _ (gM' C) h2;have h4:=nY.out _ (gM' C);refine⟨?_,by omega⟩;rcases a3 with a3|a3
      .omega
      .exact a3.2
     have bf:Hid (m∈l):=ah (by
      rcases HM.out.2.2 with a3|a3
      .omega
      .exact a3.1)
     have a8:=FP (a:=m-n) (h:=h) (by omega) (by omega) (by omega) (by omega);have bu:=FP (a:=n-z) (h:=h) (by omega) (by omega) (by omega) (by omega);have F:=i.out.del;have ao:g<=286326784:=by omega
     have s:Hid (PiS w l A6 N6 c6 0 h m (g+(m-n)*((h:Int)+1)) b z ir f j wr):=ah (by
      have hj:=V9 be.1 (λc hc hn=>HM.out.2.1 c hc hn);refine⟨i.out.own,i.out.len,i.out.ext,aGX i.out.fw be.1 (λc hc hn=>HM.out.2.1 c hc hn),by rw[<- hj];exact i.out.cnt,?_⟩;have e1:(m-z)*((h:Int)+1)=(m-n)*((h:Int)+1)+(n-z)*((h:Int)+1):=(by rw[<- Int.add_mul];congr 1;omega);have e2:bY (plc l m 0) 0=0:=rfl;rw[e1,e2]
      omega)
     clear hm HM HX F bu he;go_wp2;go_loopg[4,7,8,10,11,71] l.length (λX s4 s7 s8 S T bv Y=>aGh w l m h X s4 s7 s8 S T bv Y);exact⟨A6,N6,c6,0,h,_,b,z,ir,f,j,by omega,rfl,rfl,rfl,rfl,rfl,rfl,s,by omega,I,by omega,J,K,L,hN,lr' _,ah (.inr (λq _ C=>by omega))⟩;clear i s ao a8 R I a6 J K L hN O bc;obtain⟨A7,Ad,c7,p,t,g,b,z,ir,f,j,bc,rfl,rfl,rfl,rfl,rfl,rfl,i,R,I,a6,J,K,L,hN,bh,HH⟩:=hrel;have a9:=wM (plc l m p) l.length;rw[<- i.out.cnt]at a9;have a8:=FP (a:=m-z) (h:=t) (by omega) (by omega) (by omega) (by omega);have F:=i.out.del;by_cases O:p<l.length
     .have bw:=Nat.le_trans (wM (plc l m p) p) (Nat.le_of_lt O);have ao:g<=286327100:=(by omega);obtain⟨b',o',hA,b6⟩:=(HI.out.ext i.out.ext).at_ O;subst hA;clear F a8 bw;by_cases G:l[p]<m
      .have av:l[p]≠m:=(by omega);have y:=ah (UM O av (by omega));have s:Hid (PiS w l A7 Ad c7 (p+1) t m (g+1) b z ir f j wr):=ah ⟨i.out.own,i.out.len,i.out.ext,UQ i.out.fw O av,by rw[y.out.1];exact i.out.cnt,by rw[y.out.2,pP' G];have:=i.out.del;omega⟩
       have aw:Hid (h<t\/∀q(C:q<l.length),q<p+1->l[q]≠m):=ah (HH.out.elim .inl (λk=>.inr (λq C h2=>by
        by_cases e:q=p
        .subst e;exact av
        .exact k q C (by omega))))
       clear y;generalize l[p]=x at*;go_wp2;go_roundg (l.length-(p+1));exact⟨A7,Ad,c7,p+1,t,_,b,z,ir,f,j,by omega,by go_num,rfl,rfl,rfl,rfl,rfl,s,by omega,I,a6,J,K,L,hN,bh,aw⟩;omega
      by_cases M:l[p]=m
      .have y:=ah (aDn O M (by omega));have bi:=i.out.len;have ax:0<=g/\g<2147483648:=(by omega);have bx: -100000<=b/\b<=100000:=(by omega);have ay:=ah (aAp w wr A7 Ad c7 _ g b ax bx i.out.own i.out.ext bi (by omega));have bj:(1:Int)<=((t+1:Nat):Int)/\((t+1:Nat):Int)<=4096:=(by omega);have bk:=ah (λw=>V3 g ((t+1:Nat):Int) f ax bj w);have az:=IC (f:=f) ax.1 bj.1;have bz:=Iz b 64 0 g;have N:=ah (aDv (v:=g) i.out.fw O M (by omega) (by rw[<- i.out.cnt];exact i.out.del));rw[<- i.out.cnt]at N y;rw[show((t:Int)+1)=((t+1:Nat):Int)by omega]at N;obtain⟨b2,bl⟩:=eY' (pF g ((t+1:Nat):Int) f);rw[bl]at bk az N;obtain⟨ds,bm⟩:=eY' (jq b 64 0 g);rw[bm]at ay bz N;clear bi bl bm;generalize l[p]=x at*;go_wp2_with fail;refine ay.out.mono ?_;rintro e w8⟨A8,n8,c8,rfl,aD,oq,bn⟩;have bL:n8<=Ad+64:=by
        have:=i.out.len;rw[aD,lA',List.length_map];omega
       have s:Hid (PiS w l A8 n8 c8 (p+1) (t+1) m 0 b2 m (bY (plc l m p) p+1) false (j++ds) w8):=ah ⟨by simpa using oq,by simpa using aD,bn,N.out,y.out.1.symm,by rw[y.out.2];omega⟩;clear aD oq bn ay N y;go_wp2_with fail;refine(bk.out w8).mono ?_;rintro e w9⟨rfl,rfl⟩;go_wp2;go_roundg (l.length-(p+1));exact⟨A8,n8,c8,p+1,t+1,0,b2,m,_,false,j++ds,by omega,by go_num,rfl,by go_num,rfl,rfl,rfl,s,by omega,by omega,by omega,by omega,az.1,az.2,by omega,by omega,ah (.inl (by omega))⟩;omega
      .have y:=ah (UM O M (by omega));have s:Hid (PiS w l A7 Ad c7 (p+1) t m g b z ir f j wr):=ah ⟨i.out.own,i.out.len,i.out.ext,UQ i.out.fw O M,by rw[y.out.1];exact i.out.cnt,by rw[y.out.2,nN' G];have:=i.out.del;omega⟩
       have aw:Hid (h<t\/∀q(C:q<l.length),q<p+1->l[q]≠m):=ah (HH.out.elim .inl (λk=>.inr (λq C h2=>by
        by_cases e:q=p
        .subst e;exact M
        .exact k q C (by omega))))
       clear y;generalize l[p]=x at*;have bM:(x==m)=false:=(by rw[aO];exact M);go_wp2;go_roundg (l.length-(p+1));exact⟨A7,Ad,c7,p+1,t,_,b,z,ir,f,j,by omega,by go_num,rfl,rfl,rfl,rfl,rfl,s,by omega,I,a6,J,K,L,hN,bh,aw⟩;omega
     .have G:h<t:=by
       rcases HH.out with h'|h'
       .exact h'
       .obtain⟨q,C,e⟩:=List.getElem_of_mem bf.out;exact absurd e (h' q C (by omega))
      have bo:p=l.length:=by omega
      have s:Hid (PoS w l A7 Ad c7 t (m+1) (g+1) b z ir f j wr):=ah (by
       have hj:plc l m l.length=plc l (m+1) 0:=UJ (by omega) (λc _ _ h=>by omega);have hc:=i.out.cnt;have hd:=i.out.del;have hf:=i.out.fw;rw[bo]at hc hd hf;rw[<- hc]at hd;refine⟨i.out.own,i.out.len,i.out.ext,aDp hf (by omega) (λc _ _ h=>by omega),by rw[<- hj];exact hc,?_⟩;rw[show m+1-z=(m-z)+1 by omega,Int.add_mul]
       omega)
      have ao:g<=286327100:=by
       have:=wM (plc l m p) p;omega
      clear i HH bf F a8 bo;go_wp2;go_roundg (l.length-t);exact⟨A7,Ad,c7,t,m+1,g+1,b,z,ir,f,j,by omega,rfl,rfl,rfl,rfl,rfl,rfl,s,by omega,I,by omega,by omega,by omega,J,K,L,hN⟩;omega
   .have a9:=wM (plc l n 0) l.length;rw[<- i.out.cnt]at a9;have hR:=aDo i.out.fw (Vo (by rw[<- i.out.cnt];omega));have HP:Hid (iO l=nN l++j.map fG):=ah (by unfold iO;rw[Nu hR]);have bA:=Dz (OwnB.MF i.out.own);have hb:=i.out.ext;rw[<- HP.out]at bA;clear a9 hR i;go_wp2;go_ret2;exact⟨by rw[HF.out];rfl,hb⟩
end Go.Proofs.YtlmkgaoakcjlnaaGreatDoor
