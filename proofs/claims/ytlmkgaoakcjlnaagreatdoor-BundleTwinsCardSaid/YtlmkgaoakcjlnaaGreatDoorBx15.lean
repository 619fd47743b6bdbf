/- Part Bx15. -/
import Derived.Test.YtlmkgaoakcjlnaaGreatDoorBx14
open Go.Proofs.Tryz
namespace Go.Proofs.YtlmkgaoakcjlnaaGreatDoor
set_option maxHeartbeats 25600000
set_option maxRecDepth 100000
open Go.RowKit
variable (t:TV)(T:aj)(l:List Int)(A:Option Addr)(n c:Nat)(w:World)
theorem uT(c:Int)(w:World):cW' 137 #[.int .i64 c] w (.int .i64 (utfLen c)):=by
 cases a:bf c
 .have H:=ah a;clear a;go_enter func137,ntmps137;go_wp2_with(go_at_call 74;refine(zy _ _).mono ?_;rintro e w'⟨rfl,rfl⟩;rw[H.out])
  all_goals(go_ret;refine⟨aV ?_,rfl⟩;simp[utfLen,H.out])
 .have H:=ah a;clear a;go_enter func137,ntmps137;go_wp2_with(go_at_call 74;refine(zy _ _).mono ?_;rintro e w'⟨rfl,rfl⟩;rw[H.out])
  all_goals(go_ret;refine⟨aV ?_,rfl⟩;simp[utfLen,H.out];try omega)
theorem yY(w:World)(a:Array Value)(l:List Int)(m:Nat)(b:l.length=m)(c:a=(l.map (Value.int .u8)).toArray)(d:m<=4096):
 (convert 95 9 (.slice (some ⟨w.heap.size,0,none⟩) m m)).run prog (w.alloc (.cells a 5))=.ok (.string (sB l)) (w.alloc (.cells a 5)):=by
 subst b;exact CZ (Qm w a l c d)
theorem yX(x:Int)(f:bf x=true)(w:World):cE' 75 #[.int .i64 x] w (.string (sB (enc1 x))):=by
 have j:=vS f;have a:utfLen x=if x<=127 then 1 else if x<=2047 then 2 else if x<=65535 then 3 else 4:=by unfold utfLen;rw[f];simp
 have b:Hid (enc1 x=if x<=127 then[x]else if x<=2047 then[192+x / 64,128+x % 64]else if x<=65535 then[224+x / 4096,128+x / 64 % 64,128+x % 64]else[240+x / 262144,128+x / 4096 % 64,128+x / 64 % 64,128+x % 64]):=rfl;clear f;generalize enc1 x=E at*;have d:=λk=>(Ext.refl w).aB (.cells k 5)
 go_enter func75,ntmps75;go_wp2_with fail;refine(uT _ _).mono ?_;rintro e w'⟨rfl,rfl⟩;by_cases g:x<=127
 .rw[pP' g]at a b;rw[a];have c:=yY w #[.int .u8 x] [x] 1 rfl rfl (by omega);go_wp2;go_ret;exact⟨by rw[b.out];rfl,d _⟩
 rw[nN' g]at a b;by_cases h:x<=2047
 .rw[pP' h]at a b;rw[a];have c:=yY w #[.int .u8 (192+x / 64),.int .u8 (128+x % 64)] [192+x / 64,128+x % 64] 2 rfl rfl (by omega);go_wp2;go_ret;exact⟨by rw[b.out];rfl,d _⟩
 rw[nN' h]at a b;by_cases i:x<=65535
 .rw[pP' i]at a b;rw[a];have c:=yY w #[.int .u8 (224+x / 4096),.int .u8 (128+x / 64 % 64),.int .u8 (128+x % 64)] [224+x / 4096,128+x / 64 % 64,128+x % 64] 3 rfl rfl (by omega);go_wp2;go_ret;exact⟨by rw[b.out];rfl,d _⟩
 .rw[nN' i]at a b;rw[a];have c:=yY w #[.int .u8 (240+x / 262144),.int .u8 (128+x / 4096 % 64),.int .u8 (128+x / 64 % 64),.int .u8 (128+x % 64)] [240+x / 262144,128+x / 4096 % 64,128+x / 64 % 64,128+x % 64] 4 rfl rfl (by omega);go_wp2;go_ret;exact⟨by rw[b.out];rfl,d _⟩
def rcU(l:List Int)(n:Nat):Int:=
 if n=1 then l.getD 0 0 else if n=2 then(l.getD 0 0-192)*64+l.getD 1 0-128 else if n=3 then(l.getD 0 0-224)*4096+(l.getD 1 0-128)*64+l.getD 2 0-128
 else(l.getD 0 0-240)*262144+(l.getD 1 0-128)*4096+(l.getD 2 0-128)*64+l.getD 3 0-128
theorem utf_scal{c n:Int}(h:utfLen c=n)(b:n≠0):bf c=true:=by
 cases a:bf c
 .exact absurd ((utfLen_eq_zero c).2 a) (by rw[h];exact b)
 .rfl
theorem a9R{l:List Int}{n:Nat}{c:Int}(g:n≠0)(d:utfLen c=n)(b:enc1 c=l.take n):dP l=(c,n):=by
 have a:=utf_scal d (by omega);have h:=Zt a (l.drop n);have f:=Zx a;rw[b,List.take_append_drop]at h;rw[h,<- b];congr 1;omega
theorem a9T{l:List Int}(p:IsB l)(h:(dP l).2≠0):(dP l).2<=4/\utfLen (rcU l (dP l).2)=(dP l).2/\enc1 (rcU l (dP l).2)=l.take (dP l).2:=by
 have f:∀(n:Nat)(c:Int),n≠0->n<=4->dP l=(c,n)->c=rcU l n->utfLen c=n->enc1 c=l.take n->(dP l).2<=4/\utfLen (rcU l (dP l).2)=(dP l).2/\enc1 (rcU l (dP l).2)=l.take (dP l).2:=by
  intro n c D q A g i B;rw[A];subst g;exact⟨q,i,B⟩
 match l,p,h,f with
 |[],_,h,_=>simp[dP]at h
 |a::r,p,h,f=>
  have E:=p a (by simp);have F:(a::r).getD 0 0=a:=rfl;by_cases j:a<=127
  .have i:utfLen a=1:=by
    unfold utfLen;have:bf a=true:=by simp[bf];omega
    rw[this];simp[j]
   exact f 1 a (by omega) (by omega) (by simp[dP,j]) rfl i (by simp[enc1,j])
  by_cases k:192<=a/\a<=223
  .match r,p,h,f with
   |[],_,h,_=>simp[dP,j,k]at h
   |b::r,p,h,f=>
    by_cases g:iQ b=true/\utfLen ((a-192)*64+(b-128))=2
    .have t:=g.1;simp only[iQ,aU,au]at t;have x:=vS (utf_scal g.2 (by omega));have i:=g.2;have w:¬(a-192)*64+(b-128)<=127:=by
      intro m;unfold utfLen at i;rw[utf_scal g.2 (by omega)]at i;simp[m]at i
     refine f 2 ((a-192)*64+(b-128)) (by omega) (by omega) (by simp only[dP];rw[nN' j,pP' k,pP' g]) ?_ g.2 ?_
     .show _=(a-192)*64+b-128
      omega
     .unfold enc1;rw[nN' w,pP' (by omega)];show _=[a,b]
      congr 1
      .omega
      .congr 1;omega
    .simp only[dP]at h;rw[nN' j,pP' k,nN' g]at h;exact absurd rfl h
  by_cases o:224<=a/\a<=239
  .match r,p,h,f with
   |[],_,h,_=>simp[dP,j,k,o]at h
   |[b],_,h,_=>simp[dP,j,k,o]at h
   |b::c::r,p,h,f=>
    by_cases g:iQ b=true/\iQ c=true/\utfLen (((a-224)*64+(b-128))*64+(c-128))=3
    .have t:=g.1;have s:=g.2.1;simp only[iQ,aU,au]at t s;have i:=g.2.2;have x:=utf_scal i (by omega);have w:¬((a-224)*64+(b-128))*64+(c-128)<=2047:=by
      intro m;unfold utfLen at i;rw[x]at i;by_cases y:((a-224)*64+(b-128))*64+(c-128)<=127<;>simp[y,m]at i
     refine f 3 (((a-224)*64+(b-128))*64+(c-128)) (by omega) (by omega) (by simp only[dP];rw[nN' j,nN' k,pP' o,pP' g]) ?_ i ?_
     .show _=(a-224)*4096+(b-128)*64+c-128
      omega
     .unfold enc1;rw[nN' (by omega),nN' w,pP' (by omega)];show _=[a,b,c]
      congr 1
      .omega
      .congr 1
       .omega
       .congr 1;omega
    .simp only[dP]at h;rw[nN' j,nN' k,pP' o,nN' g]at h;exact absurd rfl h
  by_cases q:240<=a/\a<=247
  .match r,p,h,f with
   |[],_,h,_=>simp[dP,j,k,o,q]at h
   |[b],_,h,_=>simp[dP,j,k,o,q]at h
   |[b,c],_,h,_=>simp[dP,j,k,o,q]at h
   |b::c::d::r,p,h,f=>
    by_cases g:iQ b=true/\iQ c=true/\iQ d=true/\utfLen ((((a-240)*64+(b-128))*64+(c-128))*64+(d-128))=4
    .have t:=g.1;have s:=g.2.1;have z:=g.2.2.1;simp only[iQ,aU,au]at t s z;have i:=g.2.2.2;have x:=utf_scal i (by omega);have w:¬(((a-240)*64+(b-128))*64+(c-128))*64+(d-128)<=65535:=by
      intro m;unfold utfLen at i;rw[x]at i;by_cases y:(((a-240)*64+(b-128))*64+(c-128))*64+(d-128)<=127
      .simp[y]at i
      .by_cases C:(((a-240)*64+(b-128))*64+(c-128))*64+(d-128)<=2047<;>simp[y,C,m]at i
     refine f 4 ((((a-240)*64+(b-128))*64+(c-128))*64+(d-128)) (by omega) (by omega) (by simp only[dP];rw[nN' j,nN' k,nN' o,pP' q,pP' g]) ?_ i ?_
     .show _=(a-240)*262144+(b-128)*4096+(c-128)*64+d-128
      omega
     .unfold enc1;rw[nN' (by omega),nN' (by omega),nN' w];show _=[a,b,c,d]
      congr 1
      .omega
      .congr 1
       .omega
       .congr 1
        .omega
        .congr 1;omega
    .simp only[dP]at h;rw[nN' j,nN' k,nN' o,pP' q,nN' g]at h;exact absurd rfl h
  .have:dP (a::r)=(0,0):=by simp[dP,j,k,o,q]
   rw[this]at h;exact absurd rfl h
theorem a9m:(dP l).2=0->dP l=(0,0):=by
 unfold dP
 repeat' split
 all_goals(intro h;first|rfl|(simp at h))
theorem D7{c:Int}(h:bf c=true):IsB (enc1 c):=by
 have b:=vS h;intro x a;unfold enc1 at a
 repeat' split at a
 all_goals(simp only[List.mem_cons,List.not_mem_nil,or_false]at a;omega)
def a9d(w:World)(l:List Int)(g:Nat)(s4:Value)(wx:World):Prop:=
 ∃k:Nat,g+k=5/\1<=k/\s4=.int .i64 k/\Ext w wx/\Hid (∀m,m≠0->m<k->m<=l.length->¬(utfLen (rcU l m)=m/\enc1 (rcU l m)=l.take m))
theorem a9c(G:IsB l)(hm:l.length<=1099511627776)(w:World):
 cE' 186 #[.string (sB l)] w (.tuple #[.int .i64 (dP l).1,.int .i64 (dP l).2]):=by
 have q:=ah G;have K:=ah (a9T G);have E:=ah (λn c=> @a9R l n c);have H:=ah (GX l);generalize I:dP l=V at*;have L:Hid (V.2=0->V=(0,0)):=ah (by subst I;exact a9m l);clear G I;go_enter func186,ntmps186;go_wp2;go_loopg[4] 4 (λM N O=>a9d w l M N O);exact⟨1,by omega,by omega,rfl,eR',ah (λm r A=>by omega)⟩;obtain⟨k,R,P,g,D,B⟩:=hrel;have x:=ah D;clear D;by_cases S:k<=4/\k<=l.length
 .have T:=wY q.out 0;have U:=wY q.out 1;have W:=wY q.out 2;have X:=wY q.out 3;rcases(show k=1\/k=2\/k=3\/k=4 by omega)with h|h|h|h
  .subst h;have g:=g.trans (show _=Value.int .i64 1 from rfl);subst g;have F:∀w,(Instr.index 9 (.string (sB l)) (.int .i64 0)).run prog w=.ok (.int .u8 (l.getD 0 0)) w:=ixc q.out (k:=0) (by omega);have y:Hid (rcU l 1=l.getD 0 0):=rfl;have i:∀w,(Instr.slice 9 (.string (sB l)) none (some (.int .i64 1)) none).run prog w=.ok (.string (sB (l.take 1))) w:=λw=>Bh w (k:=1) (by omega)
   generalize l.getD 0 0=y0 at*;go_wp2_with fail;generalize y0=c at*;by_cases j:utfLen c=1
   .have s:=utf_scal j (by omega);have C:(utfLen c==1)=true:=(by rw[bq'];exact j);have b:=rV (D7 s) (xO q.out 1);cases p:decide (enc1 c=l.take 1)
    .rw[p]at b
     have d:Hid (∀m,m≠0->m<1+1->m<=l.length->¬(utfLen (rcU l m)=m/\enc1 (rcU l m)=l.take m)):=ah (λm r A t f=>by
      by_cases e:m=1
      .subst e;rw[y.out]at f;exact(decide_eq_false_iff_not.1 p) f.2
      .exact B.out m r (by omega) t f)
     refine rX' ?_
     repeat(go_big_quiet_step(first
      |(go_at_call 137;exact iU (uT _ _))
      |(go_at_call 75;exact aS (yX c s _))))
     refine wpQuiet_nil ?_;rintro _⟨o,rfl⟩;have a:=x.out.trans' o.h;clear i b;go_wp2;go_roundg 3;exact⟨1+1,by omega,by omega,by go_num,a,d⟩;omega
    .rw[p]at b;have z:Hid (V=(c,1)):=ah (E.out 1 c (by omega) j (of_decide_eq_true p));refine rX' ?_
     repeat(go_big_quiet_step(first
      |(go_at_call 137;exact iU (uT _ _))
      |(go_at_call 75;exact aS (yX c s _))))
     refine wpQuiet_nil ?_;rintro _⟨o,rfl⟩;have a:=x.out.trans' o.h;go_wp2;go_ret2;exact⟨by rw[z.out];rfl,a⟩
   .have C:(utfLen c==1)=false:=by rw[aO];exact j
    have d:Hid (∀m,m≠0->m<1+1->m<=l.length->¬(utfLen (rcU l m)=m/\enc1 (rcU l m)=l.take m)):=ah (λm r A t f=>by
     by_cases e:m=1
     .subst e;rw[y.out]at f;exact j f.1
     .exact B.out m r (by omega) t f)
    refine rX' ?_
    repeat(go_big_quiet_step((go_at_call 137;exact iU (uT _ _))))
    refine wpQuiet_nil ?_;rintro _⟨o,rfl⟩;have a:=x.out.trans' o.h;clear i;go_wp2;go_roundg 3;exact⟨1+1,by omega,by omega,by go_num,a,d⟩;omega
  .subst h;have g:=g.trans (show _=Value.int .i64 2 from rfl);subst g;have F:∀w,(Instr.index 9 (.string (sB l)) (.int .i64 0)).run prog w=.ok (.int .u8 (l.getD 0 0)) w:=ixc q.out (k:=0) (by omega);have J:∀w,(Instr.index 9 (.string (sB l)) (.int .i64 1)).run prog w=.ok (.int .u8 (l.getD 1 0)) w:=ixc q.out (k:=1) (by omega);have y:Hid (rcU l 2=(l.getD 0 0-192)*64+l.getD 1 0-128):=rfl;have i:∀w,(Instr.slice 9 (.string (sB l)) none (some (.int .i64 2)) none).run prog w=.ok (.string (sB (l.take 2))) w:=λw=>Bh w (k:=2) (by omega)
   generalize l.getD 0 0=y0 at*;generalize l.getD 1 0=y1 at*;go_wp2_with fail;go_quiet (fail);go_wp2_with fail;generalize(y0-192)*64+y1-128=c at*;by_cases j:utfLen c=2
   .have s:=utf_scal j (by omega);have C:(utfLen c==2)=true:=(by rw[bq'];exact j);have b:=rV (D7 s) (xO q.out 2);cases p:decide (enc1 c=l.take 2)
    .rw[p]at b
     have d:Hid (∀m,m≠0->m<2+1->m<=l.length->¬(utfLen (rcU l m)=m/\enc1 (rcU l m)=l.take m)):=ah (λm r A t f=>by
      by_cases e:m=2
      .subst e;rw[y.out]at f;exact(decide_eq_false_iff_not.1 p) f.2
      .exact B.out m r (by omega) t f)
     refine rX' ?_
     repeat(go_big_quiet_step(first
      |(go_at_call 137;exact iU (uT _ _))
      |(go_at_call 75;exact aS (yX c s _))))
     refine wpQuiet_nil ?_;rintro _⟨o,rfl⟩;have a:=(x.out.kK _).trans' o.h;clear i b;go_wp2;go_roundg 2;exact⟨2+1,by omega,by omega,by go_num,a,d⟩;omega
    .rw[p]at b;have z:Hid (V=(c,2)):=ah (E.out 2 c (by omega) j (of_decide_eq_true p));refine rX' ?_
     repeat(go_big_quiet_step(first
      |(go_at_call 137;exact iU (uT _ _))
      |(go_at_call 75;exact aS (yX c s _))))
     refine wpQuiet_nil ?_;rintro _⟨o,rfl⟩;have a:=(x.out.kK _).trans' o.h;go_wp2;go_ret2;exact⟨by rw[z.out];rfl,a⟩
   .have C:(utfLen c==2)=false:=by rw[aO];exact j
    have d:Hid (∀m,m≠0->m<2+1->m<=l.length->¬(utfLen (rcU l m)=m/\enc1 (rcU l m)=l.take m)):=ah (λm r A t f=>by
     by_cases e:m=2
     .subst e;rw[y.out]at f;exact j f.1
     .exact B.out m r (by omega) t f)
    refine rX' ?_
    repeat(go_big_quiet_step((go_at_call 137;exact iU (uT _ _))))
    refine wpQuiet_nil ?_;rintro _⟨o,rfl⟩;have a:=(x.out.kK _).trans' o.h;clear i;go_wp2;go_roundg 2;exact⟨2+1,by omega,by omega,by go_num,a,d⟩;omega
  .subst h;have g:=g.trans (show _=Value.int .i64 3 from rfl);subst g;have F:∀w,(Instr.index 9 (.string (sB l)) (.int .i64 0)).run prog w=.ok (.int .u8 (l.getD 0 0)) w:=ixc q.out (k:=0) (by omega);have J:∀w,(Instr.index 9 (.string (sB l)) (.int .i64 1)).run prog w=.ok (.int .u8 (l.getD 1 0)) w:=ixc q.out (k:=1) (by omega);have Q:∀w,(Instr.index 9 (.string (sB l)) (.int .i64 2)).run prog w=.ok (.int .u8 (l.getD 2 0)) w:=ixc q.out (k:=2) (by omega);have y:Hid (rcU l 3=(l.getD 0 0-224)*4096+(l.getD 1 0-128)*64+l.getD 2 0-128):=rfl;have i:∀w,(Instr.slice 9 (.string (sB l)) none (some (.int .i64 3)) none).run prog w=.ok (.string (sB (l.take 3))) w:=λw=>Bh w (k:=3) (by omega)
   generalize l.getD 0 0=y0 at*;generalize l.getD 1 0=y1 at*;generalize l.getD 2 0=y2 at*;go_wp2_with fail;go_quiet (fail);go_wp2_with fail;generalize(y0-224)*4096+(y1-128)*64+y2-128=c at*;by_cases j:utfLen c=3
   .have s:=utf_scal j (by omega);have C:(utfLen c==3)=true:=(by rw[bq'];exact j);have b:=rV (D7 s) (xO q.out 3);cases p:decide (enc1 c=l.take 3)
    .rw[p]at b
     have d:Hid (∀m,m≠0->m<3+1->m<=l.length->¬(utfLen (rcU l m)=m/\enc1 (rcU l m)=l.take m)):=ah (λm r A t f=>by
      by_cases e:m=3
      .subst e;rw[y.out]at f;exact(decide_eq_false_iff_not.1 p) f.2
      .exact B.out m r (by omega) t f)
     refine rX' ?_
     repeat(go_big_quiet_step(first
      |(go_at_call 137;exact iU (uT _ _))
      |(go_at_call 75;exact aS (yX c s _))))
     refine wpQuiet_nil ?_;rintro _⟨o,rfl⟩;have a:=(x.out.kK _).trans' o.h;clear i b;go_wp2;go_roundg 1;exact⟨3+1,by omega,by omega,by go_num,a,d⟩;omega
    .rw[p]at b;have z:Hid (V=(c,3)):=ah (E.out 3 c (by omega) j (of_decide_eq_true p));refine rX' ?_
     repeat(go_big_quiet_step(first
      |(go_at_call 137;exact iU (uT _ _))
      |(go_at_call 75;exact aS (yX c s _))))
     refine wpQuiet_nil ?_;rintro _⟨o,rfl⟩;have a:=(x.out.kK _).trans' o.h;go_wp2;go_ret2;exact⟨by rw[z.out];rfl,a⟩
   .have C:(utfLen c==3)=false:=by rw[aO];exact j
    have d:Hid (∀m,m≠0->m<3+1->m<=l.length->¬(utfLen (rcU l m)=m/\enc1 (rcU l m)=l.take m)):=ah (λm r A t f=>by
     by_cases e:m=3
     .subst e;rw[y.out]at f;exact j f.1
     .exact B.out m r (by omega) t f)
    refine rX' ?_
    repeat(go_big_quiet_step((go_at_call 137;exact iU (uT _ _))))
    refine wpQuiet_nil ?_;rintro _⟨o,rfl⟩;have a:=(x.out.kK _).trans' o.h;clear i;go_wp2;go_roundg 1;exact⟨3+1,by omega,by omega,by go_num,a,d⟩;omega
  .subst h;have g:=g.trans (show _=Value.int .i64 4 from rfl);subst g;have F:∀w,(Instr.index 9 (.string (sB l)) (.int .i64 0)).run prog w=.ok (.int .u8 (l.getD 0 0)) w:=ixc q.out (k:=0) (by omega);have J:∀w,(Instr.index 9 (.string (sB l)) (.int .i64 1)).run prog w=.ok (.int .u8 (l.getD 1 0)) w:=ixc q.out (k:=1) (by omega);have Q:∀w,(Instr.index 9 (.string (sB l)) (.int .i64 2)).run prog w=.ok (.int .u8 (l.getD 2 0)) w:=ixc q.out (k:=2) (by omega);have Y:∀w,(Instr.index 9 (.string (sB l)) (.int .i64 3)).run prog w=.ok (.int .u8 (l.getD 3 0)) w:=ixc q.out (k:=3) (by omega);have y:Hid (rcU l 4=(l.getD 0 0-240)*262144+(l.getD 1 0-128)*4096+(l.getD 2 0-128)*64+l.getD 3 0-128):=rfl;have i:∀w,(Instr.slice 9 (.string (sB l)) none (some (.int .i64 4)) none).run prog w=.ok (.string (sB (l.take 4))) w:=λw=>Bh w (k:=4) (by omega)
   generalize l.getD 0 0=y0 at*;generalize l.getD 1 0=y1 at*;generalize l.getD 2 0=y2 at*;generalize l.getD 3 0=y3 at*;go_wp2_with fail;go_quiet (fail);go_wp2_with fail;generalize(y0-240)*262144+(y1-128)*4096+(y2-128)*64+y3-128=c at*;by_cases j:utfLen c=4
   .have s:=utf_scal j (by omega);have C:(utfLen c==4)=true:=(by rw[bq'];exact j);have b:=rV (D7 s) (xO q.out 4);cases p:decide (enc1 c=l.take 4)
    .rw[p]at b
     have d:Hid (∀m,m≠0->m<4+1->m<=l.length->¬(utfLen (rcU l m)=m/\enc1 (rcU l m)=l.take m)):=ah (λm r A t f=>by
      by_cases e:m=4
      .subst e;rw[y.out]at f;exact(decide_eq_false_iff_not.1 p) f.2
      .exact B.out m r (by omega) t f)
     refine rX' ?_
     repeat(go_big_quiet_step(first
      |(go_at_call 137;exact iU (uT _ _))
      |(go_at_call 75;exact aS (yX c s _))))
     refine wpQuiet_nil ?_;rintro _⟨o,rfl⟩;have a:=(x.out.kK _).trans' o.h;clear i b;go_wp2;go_roundg 0;exact⟨4+1,by omega,by omega,by go_num,a,d⟩;omega
    .rw[p]at b;have z:Hid (V=(c,4)):=ah (E.out 4 c (by omega) j (of_decide_eq_true p));refine rX' ?_
     repeat(go_big_quiet_step(first
      |(go_at_call 137;exact iU (uT _ _))
      |(go_at_call 75;exact aS (yX c s _))))
     refine wpQuiet_nil ?_;rintro _⟨o,rfl⟩;have a:=(x.out.kK _).trans' o.h;go_wp2;go_ret2;exact⟨by rw[z.out];rfl,a⟩
   .have C:(utfLen c==4)=false:=by rw[aO];exact j
    have d:Hid (∀m,m≠0->m<4+1->m<=l.length->¬(utfLen (rcU l m)=m/\enc1 (rcU l m)=l.take m)):=ah (λm r A t f=>by
     by_cases e:m=4
     .subst e;rw[y.out]at f;exact j f.1
     .exact B.out m r (by omega) t f)
    refine rX' ?_
    repeat(go_big_quiet_step((go_at_call 137;exact iU (uT _ _))))
    refine wpQuiet_nil ?_;rintro _⟨o,rfl⟩;have a:=(x.out.kK _).trans' o.h;clear i;go_wp2;go_roundg 0;exact⟨4+1,by omega,by omega,by go_num,a,d⟩;omega
 .subst g
  have z:Hid (V=(0,0)):=ah (by
   refine L.out ?_;by_cases h:V.2=0
   .exact h
   .have:=K.out h;have Z:=H.out
    exact absurd this.2 (B.out V.2 h (by omega) H.out))
  have D:=x.out;by_cases r:k<=4
  .have A:¬k<=l.length:=by omega
   go_wp2;go_ret2;exact⟨by rw[z.out];rfl,D⟩
  .go_wp2;go_ret2;exact⟨by rw[z.out];rfl,D⟩
theorem a9o(E:IsB l)(V:l.length<=1099511600000)(w:World):
 Calls prog 114 #[.string (sB l)] w λe w'=>∃A n c,e=.returned (.tuple #[.slice A n c,.int .i64 (jm l).2])/\aF w' ⟨A,n,c⟩ (jm l).1/\Ext w w':=by
 have F:=ah E;clear E;go_enter func114,ntmps114;go_wp2;go_loopg[4,5] l.length (λG H I J=>WH w l G H I J);exact⟨none,0,0,[],by omega,rfl,rfl,Own.nil_ _ _ _ _,eR',lr' _,ah (by simp)⟩;obtain⟨A,c,k,b,R,rfl,rfl,d,z,K,q⟩:=hrel;have B:=ah d;have C:=ah z;clear d z;by_cases S:k<l.length
 .have s:=D5 (w:=wr) (l:=l) (k:=k) (by omega);go_wp2_with fail;refine(a9c (l.drop k) (zW F.out k) (by rw[List.length_drop];omega) wr).mono ?_;rintro e T⟨rfl,f⟩;have r:=ah (@QV (l.drop k));have t:=ah (@Rj (l.drop k));have g:=GX (l.drop k);rw[List.drop_drop]at r;rw[List.length_drop]at g;generalize dP (l.drop k)=p at*;obtain⟨x,n⟩:=p;simp only at r t g;have h:=ah (C.out.trans' f);have i:=ah (Own.ext B.out f);clear f s;by_cases D:n=0
  .have j:Hid (jm l=(b,k)):=ah (by rw[q.out,t.out D];simp);have L:((n:Int)==0)=true:=(by rw[bq'];omega);go_wp2;go_ret2;exact⟨A,_,c,by rw[j.out];rfl,by rw[j.out];exact aK.ints i.out,h.out⟩
  .have L:((n:Int)==0)=false:=bF';have y:=aI q (show _=((b++[x])++(jm (l.drop (k+n))).1,(k+n:Nat)+(jm (l.drop (k+n))).2)from by rw[r.out D];simp[Nat.add_assoc]);obtain⟨M,N,U,m,a,o,_⟩:=xX i.out h.out x (by omega);have O:=ah a;have P:=ah o;clear q r t a o;go_wp2_with(at_builtin;refine dG rfl _ _ _ rfl _ _ rfl rfl _ _ m ?_);go_roundg (l.length-(k+n));exact⟨M,N,k+n,b++[x],by omega,by simp,by go_num,by simpa using O.out,P.out,by simp;omega,y⟩;omega
 .have Q:l.drop k=[]:=bT l k (by omega);have j:Hid (jm l=(b,k)):=ah (by rw[q.out,Q];simp[jm,wX]);go_wp2;go_ret2;exact⟨A,_,c,by rw[j.out];rfl,by rw[j.out];exact aK.ints B.out,C.out⟩
theorem a9s(k:IsB l)(w:World):Calls prog 56 #[.string (sB l)] w (Iy w (gZ l)):=by
 have a:Hid (gZ l=(if 4096<l.length then([],0,7)else if(jm l).2<l.length then([],((jm l).2:Int),9)else((jm l).1,0,0):List Int×Int×Int)):=rfl;generalize gZ l=D at*;have o:=ah k;clear k;by_cases b:4096<l.length
 .rw[pP' b]at a;go_enter func56,ntmps56;go_wp2;go_ret3;exact⟨none,0,0,by rw[a.out];rfl,by rw[a.out];exact aF.nil_ w,eR'⟩
 rw[nN' b]at a;go_enter func56,ntmps56;go_wp2_with fail;refine(a9o l o.out (by omega) w).mono ?_;rintro e p⟨A,n,c,rfl,f,g⟩;have h:=ah f;have i:=ah g;clear f g;generalize jm l=d at*;obtain⟨q,m⟩:=d;simp only at a h;by_cases j:m<l.length
 .rw[pP' j]at a;go_wp2;go_ret3;exact⟨none,0,0,by rw[a.out];rfl,by rw[a.out];exact aF.nil_ _,i.out⟩
 .rw[nN' j]at a;go_wp2;go_ret3;exact⟨A,n,c,by rw[a.out];rfl,by rw[a.out];exact h.out,i.out⟩
def a9r(w:World)(l:List Int)(g:Nat)(s4 s12:Value)(wx:World):Prop:=
 ∃k:Nat,g+k=l.length/\s12=.int .i64 k/\s4=.string (sB (mD (l.take k)))/\(mD (l.take k)).length<=4*k/\Ext w wx/\Hid ((l.take k).any (λc=> !bf c)=false)
theorem ED(z:aF w ⟨A,n,c⟩ l):Calls prog 40 #[.slice A n c] w (xY w (mF l)):=by
 have g:Hid (mF l=if 4096<l.length then([],7)else if l.any (λc=> !bf c)then([],3)else(mD l,0)):=rfl;generalize mF l=D at*;have H:=z.len.1;subst H;have I:=ah z;clear z;by_cases B:4096<l.length
 .rw[pP' B]at g;go_enter func40,ntmps40;go_wp2;go_ret2;exact⟨by rw[g.out];rfl,eR'⟩
 rw[nN' B]at g;go_enter func40,ntmps40;go_wp2;go_loopg[4,12] l.length (λJ K m L=>a9r w l J K m L);exact⟨0,by omega,rfl,rfl,by simp[mD],eR',rfl⟩;obtain⟨k,Q,rfl,rfl,M,d,h⟩:=hrel;have i:=ah d;clear d;by_cases j:k<l.length
 .obtain⟨b,o,N,O⟩:=(I.out.ext i.out).at_ j;subst N;have p:=ah (y7 (f:=λc=> !bf c) j);have q:=ah (anyM (f:=λc=> !bf c) j);have C:Hid (mD (l.take (k+1))=mD (l.take k)++enc1 l[k]):=ah (by rw[tS' j];unfold mD;rw[List.flatMap_append];simp);generalize l[k]=x at*;go_wp2_with fail;refine(zy _ _).mono ?_;rintro e R⟨rfl,rfl⟩;cases r:bf x
  .have s:Hid (D=([],3)):=ah (by rw[g.out,pP' (q.out (by simp[r]))]);have d:=i.out;go_wp2;go_ret2;exact⟨by rw[s.out];rfl,d⟩
  .have t:Hid ((l.take (k+1)).any (λc=> !bf c)=false):=ah (by rw[p.out,h.out];simp[r]);have S:=D6 x;have P:=ah (yX x r wr);have F:=Zb wr (a:=mD (l.take k)) (b:=enc1 x) (by omega);generalize mD (l.take k)=E at*;generalize enc1 x=E1 at*;go_wp2_with fail;refine P.out.mono ?_;rintro e T⟨rfl,y⟩;have d:=i.out.trans' y;go_wp2;go_roundg (l.length-(k+1));exact⟨k+1,by omega,by go_num,by rw[C.out],by rw[C.out,lA'];omega,d,t⟩;omega
 .have G:l.take k=l:=tL' (by omega);rw[G]at h;have s:Hid (D=(mD (l.take k),0)):=ah (by rw[g.out,nN' (by rw[h.out];simp),G]);have d:=i.out;clear h;go_wp2;go_ret2;exact⟨by rw[s.out];rfl,d⟩
theorem Si(j b:Int)(a:0<=j/\j<=4096)(c: -100000<=b/\b<=100000)(w:World):cW' 284 #[.int .i64 j,.int .i64 b] w (.int .i64 (gV j b)):=by
 go_enter func284,ntmps284;go_wp2
 all_goals(go_ret;refine⟨aV ?_,rfl⟩;unfold gV;omega)
def eU(d:Int):Int:=if d<26 then 97+d else 22+d
theorem aB9{d:Int}(h:0<=d/\d<36):0<=eU d/\eU d<256:=by unfold eU;split<;>omega
theorem a9q{d:Int}(h:0<=d/\d<36)(w:World):(Instr.index 9 (.string ⟨#[97,98,99,100,101,102,103,104,105,106,107,108,109,110,111,112,113,114,115,116,117,118,119,120,121,122,48,49,50,51,52,53,54,55,56,57]⟩) (.int .i64 d)).run prog w=.ok (.int .u8 (eU d)) w:=by
 obtain⟨n,rfl⟩:=Int.eq_ofNat_of_zero_le h.1;have a:n<36:=by omega
 have b:=KX (l:=[97,98,99,100,101,102,103,104,105,106,107,108,109,110,111,112,113,114,115,116,117,118,119,120,121,122,48,49,50,51,52,53,54,55,56,57]) w (by intro x c;simp at c;omega) (k:=n) (by simp;omega);refine Eq.trans b (congrArg (λx:Int=>Result.ok (Value.int .u8 x) w) ?_);have:∀m:Fin 36,([97,98,99,100,101,102,103,104,105,106,107,108,109,110,111,112,113,114,115,116,117,118,119,120,121,122,48,49,50,51,52,53,54,55,56,57]:List Int)[m.val]=eU m.val:=by decide
 exact this ⟨n,a⟩
theorem S9(d:Int)(h:0<=d/\d<36)(w:World):cW' 285 #[.int .i64 d] w (.int .u8 (eU d)):=by
 have a:=a9q h w;generalize eU d=v at*;go_enter func285,ntmps285;go_wp2;go_ret;exact⟨rfl,rfl⟩
def aAg(w0:World)(L:List Int)(b v0:Int)(g:Nat)(s0 s1 s7:Value)(wx:World):Prop:=
 ∃(A:Option Addr)(c j:Nat)(v:Int)(acc:List Int),g+j=63/\s7=.int .i64 j/\s1=.int .i64 v/\0<=v/\v<2 ^ g/\v<2147483648/\s0=.slice A (L.length+acc.length) c/\OwnB wx w0.heap.size A (L.length+acc.length) c (L++acc.map eU)/\Ext w0 wx/\acc.length<=j/\Hid (jc b 64 0 v0=acc++jc b (g+1) j v)
theorem aAp(s w:World)(A:Option Addr)(n c:Nat)(L:List Int)(v b:Int)(O:0<=v/\v<2147483648)(hb: -100000<=b/\b<=100000)(d:OwnB w s.heap.size A n c L)(P:Ext s w)(hn:n=L.length)(hm:n<=1099511000000):
 Calls prog 260 #[.slice A n c,.int .i64 v,.int .i64 b] w (RH s (L++(jc b 64 0 v).map eU)):=by
 have x:=ah d;have Q:=ah P;subst hn;clear d P;generalize H:v=v0 at*;have HV:=ah H;clear H;go_enter func260,ntmps260;go_wp2;go_loopg[0,1,7] 63 (λR S T U V=>aAg s L b v0 R S T U V);exact⟨A,c,0,v0,[],by omega,rfl,rfl,O.1,by omega,O.2,rfl,by simpa using x.out,Q.out,by simp,rfl⟩;obtain⟨A,c,j,v,g,hg,rfl,rfl,W,p,X,rfl,d,q,Y,D⟩:=hrel;have x:=ah d;have I:=ah q;have E:(0:Int)<=(j:Int)/\(j:Int)<=4096:=by omega
 have ht:=Bv j b;have i:Hid (jc b (gk+1) j v=if v<gV j b then[v]else(gV j b+(v-gV j b) % (36-gV j b))::jc b gk (j+1) ((v-gV j b) / (36-gV j b))):=rfl;have J:=ah (Si j b E hb wr);generalize gV j b=t at*;clear d q;go_wp2_with fail;refine J.out.mono ?_;rintro e K⟨rfl,rfl⟩;by_cases k:v<t
 .rw[pP' k]at i;have Z:decide (v<t)=true:=by rw[au];exact k
  have z:=ah (S9 v (by omega) wr);obtain⟨B,C,M,f,a,l,_⟩:=yV x.out I.out #[.int .u8 (eU v)] [eU v] 1 rfl rfl (by omega) (by omega);go_wp2_with fail;refine z.out.mono ?_;rintro e K⟨rfl,rfl⟩;obtain⟨y,m⟩:=eY' (eU v);have HY:=ah m;rw[m]at f a;rw[m];clear m;go_wp2_with(at_builtin;refine dG rfl _ _ _ rfl _ _ rfl rfl _ _ f ?_);have N:Hid (jc b 64 0 v0=g++[v]):=ah (by rw[D.out,i.out]);go_ret;exact⟨B,_,C,rfl,by rw[N.out];simp[Nat.add_assoc],by rw[N.out];simpa[HY.out]using a,l⟩
 .rw[nN' k]at i;have Z:decide (v<t)=false:=by rw[aA];exact k
  have a1:=Int.emod_nonneg (v-t) (b:=36-t) (by omega);have a2:=Int.emod_lt_of_pos (v-t) (b:=36-t) (by omega);have r:0<=(v-t) / (36-t):=Int.ediv_nonneg (by omega) (by omega);have a3:(v-t) / (36-t)*2<=v:=by
   have h1:=Int.mul_ediv_add_emod (v-t) (36-t);have h2:(v-t) / (36-t)*2<=(v-t) / (36-t)*(36-t):=Int.mul_le_mul_of_nonneg_left (by omega) r;rw[Int.mul_comm (36-t)]at h1;omega
  obtain⟨o,rfl⟩:∃g',gk=g'+1:=by
   rcases Nat.eq_zero_or_pos gk with h|h
   .subst h;exact absurd p (by omega)
   .exact⟨gk-1,by omega⟩
  have F:(v-t) / (36-t)<2 ^ o:=by rw[Int.pow_succ]at p;omega
  have z:=ah (S9 (t+(v-t) % (36-t)) (by omega) wr);have G:=aI D (show _=(g++[t+(v-t) % (36-t)])++jc b (o+1) ((j+1:Nat):Int) ((v-t) / (36-t))from by rw[i.out];simp);have a6:t+(v-t) % (36-t)<62:=by omega
  obtain⟨y,m⟩:=eY' (eU (t+(v-t) % (36-t)));obtain⟨B,C,M,f,a,l,_⟩:=yV x.out I.out #[.int .u8 y] [y] 1 rfl rfl (by omega) (by omega);rw[m]at z;have bK:Hid (OwnB M s.heap.size B (L.length+g.length+1) C (L++(g++[t+(v-t) % (36-t)]).map eU)):=ah (by simpa[m]using a);have aZ:=ah l;clear a l m D i J;go_wp2_with fail;refine z.out.mono ?_;rintro e K⟨rfl,rfl⟩;go_wp2_with(at_builtin;refine dG rfl _ _ _ rfl _ _ rfl rfl _ _ f ?_);go_roundg o;exact⟨B,C,j+1,_,g++[t+(v-t) % (36-t)],by omega,by go_num,rfl,r,F,by omega,by simp[Nat.add_assoc],by simpa[Nat.add_assoc]using bK.out,aZ.out,by simp;omega,G⟩;omega
def Tz(w:World)(d0:Int)(g:Nat)(s0 s7:Value)(wx:World):Prop:=
 ∃k d:Int,s0=.int .i64 d/\s7=.int .i64 k/\0<=d/\d<35 ^ g/\d<64339296875/\0<=k/\k+36*g=252/\w=wx/\Hid (adG 64 0 d0=adG (57+g) k d)
theorem Tv(d p:Int)(f:Bool)(O:0<=d/\d<2147483648)(P:1<=p/\p<=4096)(w:World):cW' 261 #[.int .i64 d,.int .i64 p,.bool f] w (.int .i64 (oz d p f)):=by
 have n:Hid (oz d p f=adG 64 0 ((if f then d / 700 else d / 2)+(if f then d / 700 else d / 2) / p)):=ah (by unfold oz;rw[nN' (by omega)]);generalize oz d p f=V at*;obtain⟨a,b⟩:=eY' (if f=true then d / 700 else d / 2);rw[b]at n;have i:0<=a/\a<=1073741824:=by rw[<- b];cases f<;>simp<;>omega
 have r:0<=a / p:=Int.ediv_nonneg (by omega) (by omega);have s:a / p<=a:=Int.ediv_le_self p i.1;have o:Hid (a+a / p<64339296875):=ah (by omega);have I:decide (d<0)=false:=dF';have J:decide (1099511627776<d)=false:=dF';have K:decide (p<1)=false:=dF';have L:decide (4096<p)=false:=dF';go_enter func261,ntmps261;cases f<;>simp only[Bool.false_eq_true,if_false,if_true]at b
 all_goals
  go_wp2_with fail;rw[b];clear b;go_loopg[0,7] 7 (λt y z A=>Tz w (a+a / p) t y z A);exact⟨0,a+a / p,rfl,rfl,by omega,o.out,o.out,by omega,by omega,rfl,rfl⟩;obtain⟨k,x,rfl,rfl,B,g,C,D,M,rfl,j⟩:=hrel;have l:Hid (adG (57+gk) k x=if x<=455 then k+36*x / (x+38)else adG (56+gk) (k+36) (x / 35)):=ah (by rw[show 57+gk=(56+gk)+1 by omega];rfl);by_cases q:x<=455
  .have E:Hid (V=k+36*x / (x+38)):=ah (by rw[n.out,j.out,l.out,pP' q]);have N:0<=36*x / (x+38):=Int.ediv_nonneg (by omega) (by omega);have F:36*x / (x+38)<=36*x:=Int.ediv_le_self _ (by omega);go_wp2;go_ret;exact⟨aV E.out.symm,rfl⟩
  .obtain⟨c,rfl⟩:∃G,gk=G+1:=by
    rcases Nat.eq_zero_or_pos gk with h|h
    .subst h;exact absurd g (by omega)
    .exact⟨gk-1,by omega⟩
   have H:x / 35<35 ^ c:=(by rw[Int.pow_succ]at g;omega);have m:=aI j (show _=adG (57+c) (k+36) (x / 35)from by rw[l.out,nN' q];congr 1;omega);clear j l;go_wp2;go_roundg c;exact⟨k+36,x / 35,rfl,rfl,by omega,H,by omega,by omega,by omega,rfl,m⟩;omega
def mG(l:List Int):List Int:=jd l++if(jd l).length=0 then[]else[45]
noncomputable def kN(l:List Int):List Int:=mG l++(y8 l).map eU
noncomputable def jO(l:List Int):List Int×Int:=if 256<l.length then([],7)else if l.any (λc=> !bf c)then([],3)else(kN l,0)
theorem Ht:(jd l).length<=l.length:=List.length_filter_le _ _
def aG6(w:World)(l:List Int)(g:Nat)(s4 s22:Value)(wx:World):Prop:=
 ∃(A:Option Addr)(c k:Nat),g+k=l.length/\s22=.int .i64 k/\s4=.slice A (jd (l.take k)).length c/\OwnB wx w.heap.size A (jd (l.take k)).length c (jd (l.take k))/\Ext w wx/\Hid ((l.take k).any (λc=> !bf c)=false)
structure PoS(w:World)(l:List Int)(A:Option Addr)(N c h:Nat)(n delta b nr ir:Int)(f:Bool)(acc:List Int)(wx:World):Prop where
 own:OwnB wx w.heap.size A N c (mG l++acc.map eU)
 len:N=(mG l++acc.map eU).length
 ext:Ext w wx
 fw:FwP l n 0 nr ir b f acc
 cnt:h=bV (plc l n 0) l.length
 del:delta=(n-nr)*(h+1)-ir
def U1(w:World)(l:List Int)(g:Nat)(s4 s7 s8 s9 s10 s11:Value)(wx:World):Prop:=
 ∃(A:Option Addr)(N c h:Nat)(n delta b nr ir:Int)(f:Bool)(acc:List Int),g+h=l.length/\s4=.slice A N c/\s7=.int .i64 h/\s8=.bool f/\s9=.int .i64 n/\s10=.int .i64 delta/\s11=.int .i64 b/\
  Hid (PoS w l A N c h n delta b nr ir f acc wx)/\0<=delta/\0<=nr/\nr<=n/\128<=n/\n<=1114112/\0<=ir/\0<=b/\b<=2400/\N<=257+64*h
def aGm(l:List Int)(n:Int)(w1:World)(g:Nat)(s12 s50:Value)(wx:World):Prop:=
 ∃k:Nat,g+k=l.length/\s50=.int .i64 k/\s12=.int .i64 (mnP n (l.take k))/\wx=w1
structure PiS(w:World)(l:List Int)(A:Option Addr)(N c p h:Nat)(m delta b nr ir:Int)(f:Bool)(acc:List Int)(wx:World):Prop where
 own:OwnB wx w.heap.size A N c (mG l++acc.map eU)
 len:N=(mG l++acc.map eU).length
 ext:Ext w wx
 fw:FwP l m p nr ir b f acc
 cnt:h=bV (plc l m p) l.length
 del:delta=(m-nr)*(h+1)+bV (plc l m p) p-ir
def aGh(w:World)(l:List Int)(m:Int)(h0:Nat)(g:Nat)(s4 s7 s8 s10 s11 s71:Value)(wx:World):Prop:=
 ∃(A:Option Addr)(N c p h:Nat)(delta b nr ir:Int)(f:Bool)(acc:List Int),g+p=l.length/\s71=.int .i64 p/\s4=.slice A N c/\s7=.int .i64 h/\s8=.bool f/\s10=.int .i64 delta/\s11=.int .i64 b/\
  Hid (PiS w l A N c p h m delta b nr ir f acc wx)/\0<=delta/\0<=nr/\nr<=m/\0<=ir/\0<=b/\b<=2400/\N<=257+64*h/\h0<=h/\Hid (h0<h\/∀q(hq:q<l.length),q<p->l[q]≠m)
theorem aGc(hi:aF w ⟨A,n,c⟩ l):Calls prog 204 #[.slice A n c] w (xY w (jO l)):=by
 have HD:Hid (jO l=if 256<l.length then([],7)else if l.any (λc=> !bf c)then([],3)else(kN l,0)):=rfl;generalize jO l=D at*;have hn:=hi.len.1;subst hn;have HI:=ah hi;clear hi;by_cases h1:256<l.length
 .rw[pP' h1]at HD;go_enter func204,ntmps204;go_wp2;go_ret2;exact⟨by rw[HD.out];rfl,eR'⟩
 rw[nN' h1]at HD;go_enter func204,ntmps204;go_wp2;go_loopg[4,22] l.length (λX s4 bp Y=>aG6 w l X s4 bp Y);exact⟨none,0,0,by omega,rfl,rfl,Own.nil_ _ _ _ _,eR',rfl⟩;obtain⟨B,d,k,hg,rfl,rfl,aa,hb,HN⟩:=hrel;have HO:=ah aa;have HB:=ah hb;have al:=Ht (l.take k);rw[List.length_take]at al;clear aa hb;by_cases hk:k<l.length
 .obtain⟨b,o,hA,b5⟩:=(HI.out.ext HB.out).at_ hk;subst hA;have am:=ah (y7 (f:=λc=> !bf c) hk);have an:=ah (anyM (f:=λc=> !bf c) hk);have P:=ah (LD hk);generalize l[k]=x at*;go_wp2_with fail;refine(yA _ _).mono ?_;rintro e w'⟨rfl,rfl⟩;cases hs:bf x
  .have HF:Hid (D=([],3)):=ah (by rw[HD.out,pP' (an.out (by simp[hs]))]);have hb:=HB.out;have e1:(utfLen x==0)=true:=(by rw[bq'];exact(utfLen_eq_zero x).2 hs);go_wp2;go_ret2;exact⟨by rw[HF.out];rfl,hb⟩
  .have b6:Hid ((l.take (k+1)).any (λc=> !bf c)=false):=ah (by rw[am.out,HN.out];simp[hs]);have e1:(utfLen x==0)=false:=(by rw[aO];intro h;rw[(utfLen_eq_zero x).1 h]at hs;cases hs);have hx:=vS hs;by_cases G:x<128
   .obtain⟨V,W,Z,E,r,Q,_⟩:=yV HO.out HB.out #[.int .u8 x] [x] 1 rfl rfl (by omega) (by omega);rw[pP' G]at P;have bK:Hid (OwnB Z w.heap.size V (jd (l.take (k+1))).length W (jd (l.take (k+1)))):=ah (by rw[P.out,lA'];exact r);have aZ:=ah Q;have bq:Hid ((jd (l.take (k+1))).length=(jd (l.take k)).length+1):=ah (by rw[P.out,lA'];rfl);clear r Q HN am an P;go_wp2_with(at_builtin;refine dG rfl _ _ _ rfl _ _ rfl rfl _ _ E ?_);go_roundg (l.length-(k+1));exact⟨V,W,k+1,by omega,by go_num,by rw[bq.out],bK.out,aZ.out,b6⟩;omega
   .rw[nN' G,List.append_nil]at P;clear HN am an;go_wp2;go_roundg (l.length-(k+1));exact⟨B,d,k+1,by omega,by go_num,by rw[P.out],by rw[P.out];exact HO.out,HB.out,b6⟩;omega
 .have he:l.take k=l:=tL' (by omega);rw[he]at HO HN al;have HF:Hid (D=(kN l,0)):=ah (by rw[HD.out,nN' (by rw[HN.out];simp)]);have y:Hid ((jd l).length=bV (plc l 128 0) l.length):=ah (by rw[LJ l.length (lr' _),tL' (lr' _)])
  have ng:Hid (∀x∈l,0<=x/\x<=1114111):=ah (λx hx=>vS (by
   cases hs:bf x
   .have h:l.any (λc=> !bf c)=true:=List.any_eq_true.2 ⟨x,hx,by simp[hs]⟩;rw[HN.out]at h;cases h
   .rfl))
  rw[he];clear HD HN he;have hl:l.length<=256:=by omega
  clear al h1 hg;generalize wr=w2 at*;have br:=Ht l;have iG:Hid (mG l=jd l++if(jd l).length=0 then[]else[45]):=rfl;obtain⟨H,hH⟩:=eY' ((jd l).length);have pI:Hid ((mG l).length=H+if H=0 then 0 else 1):=ah (by rw[iG.out,lA',hH];split<;>rfl);rw[hH]at HO y br iG |-;have a0:Hid (∀(V:Option Addr)(N5 W:Nat)(Z:World),OwnB Z w.heap.size V N5 W (mG l)->N5=(mG l).length->Ext w Z->PoS w l V N5 W H 128 0 72 128 0 true [] Z):=ah (λV N5 W Z a1 a2 a3=>⟨by simpa using a1,by simpa using a2,a3,aCR l,y.out,by omega⟩);clear hH y;by_cases h0:H=0
  case' pos=>
   have kL:Hid (PoS w l B H d H 128 0 72 128 0 true [] w2):=ah (a0.out B H d w2 (by rw[iG.out,pP' h0,List.append_nil];exact HO.out) (by rw[pI.out,pP' h0];omega) HB.out);have R:decide ((0:Int)<(H:Int))=false:=dF';have b7:decide (0<H)=false:=dF';clear HO HB a0 pI iG h0;go_wp2;go_loopg[4,7,8,9,10,11] (l.length-H) (λX s4 s7 s8 s9 S T Y=>U1 w l X s4 s7 s8 s9 S T Y)
   case atStart=>exact⟨B,H,d,H,128,0,72,128,0,true,[],by omega,rfl,rfl,rfl,rfl,rfl,rfl,kL,by omega,by omega,by omega,by omega,by omega,by omega,by omega,by omega,by omega⟩
  case' neg=>
   obtain⟨V,W,Z,E,r,Q,_⟩:=yV HO.out HB.out #[.int .u8 45] [45] 1 rfl rfl (by omega) (by omega);have R:decide ((0:Int)<(H:Int))=true:=dT';have b7:decide (0<H)=true:=dT';have kL:Hid (PoS w l V (H+1) W H 128 0 72 128 0 true [] Z):=ah (a0.out V _ W Z (by rw[iG.out,nN' h0];exact r) (by rw[pI.out,nN' h0]) Q);clear HO r HB Q a0 pI iG h0;go_wp2_with(at_builtin;refine dG rfl _ _ _ rfl _ _ rfl rfl _ _ E ?_);clear E;go_loopg[4,7,8,9,10,11] (l.length-H) (λX s4 s7 s8 s9 S T Y=>U1 w l X s4 s7 s8 s9 S T Y)
   case atStart=>exact⟨V,H+1,W,H,128,0,72,128,0,true,[],by omega,rfl,rfl,rfl,rfl,rfl,rfl,kL,by omega,by omega,by omega,by omega,by omega,by omega,by omega,by omega,by omega⟩
  all_goals
   clear R b7 kL;obtain⟨A6,N6,c6,h,n,g,b,z,ir,f,j,hg,rfl,rfl,rfl,rfl,rfl,rfl,i,R,I,a6,bB,bE,J,K,L,hN⟩:=hrel;generalize wr=w3 at*;by_cases hh:h<l.length
   .have HM:=ah (aGS n l)
    have HX:Hid (∃q,∃C:q<l.length,128<=l[q]/\n<=l[q]):=ah (by
     have h1:=hh;rw[i.out.cnt]at h1;obtain⟨q,C,hf⟩:=TS h1;rw[qR C]at hf;simp only[oF',aA]at hf
     exact⟨q,C,by omega,by omega⟩)
    go_wp2;go_loopg[12,50] l.length (λX bs bt Y=>aGm l n w3 X bs bt Y);exact⟨0,by omega,rfl,rfl,rfl⟩;obtain⟨p,bb,rfl,rfl,rfl⟩:=hrel;by_cases O:p<l.length
    .obtain⟨b',o',hA,b5⟩:=(HI.out.ext i.out.ext).at_ O;subst hA;have P:Hid (mnP n (l.take (p+1))=if n<=l[p]then min (mnP n (l.take p)) l[p]else mnP n (l.take p)):=ah (by rw[tS' O,aGY]);generalize l[p]=x at*;generalize mnP n (l.take p)=m at*;by_cases a7:n<=x
     .have bH:decide (n<=x)=true:=(by rw[au];exact a7);by_cases bc:m<=x
      .have U:Hid (mnP n (l.take (p+1))=m):=ah (by rw[P.out,pP' a7,Int.min_eq_left bc]);go_wp2;go_roundg (l.length-(p+1));exact⟨p+1,by omega,by go_num,by rw[U.out];first|done|rw[Int.min_eq_left bc],rfl⟩;omega
      .have U:Hid (mnP n (l.take (p+1))=x):=ah (by rw[P.out,pP' a7,Int.min_eq_right (by omega)]);go_wp2;go_roundg (l.length-(p+1));exact⟨p+1,by omega,by go_num,by rw[U.out];first|done|rw[Int.min_eq_right (show x<=m by omega)],rfl⟩;omega
     .have U:Hid (mnP n (l.take (p+1))=m):=ah (by rw[P.out,nN' a7]);go_wp2;go_roundg (l.length-(p+1));exact⟨p+1,by omega,by go_num,by rw[U.out],rfl⟩;omega
    .have he:l.take p=l:=tL' (by omega);rw[he];obtain⟨m,hm⟩:=eY' (mnP n l);rw[hm]at HM |-;have bd:n<=m/\m<=1114111:=by
      obtain⟨q,C,h1,h2⟩:=HX.out;obtain⟨a1,a2,a3⟩:=HM.out;have h3:=a2 _ (gM' C) h2;have h4:=ng.out _ (gM' C);refine⟨?_,by omega⟩;rcases a3 with a3|a3
      .omega
      .exact a3.2
     have be:Hid (m∈l):=ah (by
      rcases HM.out.2.2 with a3|a3
      .omega
      .exact a3.1)
     have a8:=EX (a:=m-n) (h:=h) (by omega) (by omega) (by omega) (by omega);have bu:=EX (a:=n-z) (h:=h) (by omega) (by omega) (by omega) (by omega);have F:=i.out.del;have ao:g<=286326784:=by omega
     have s:Hid (PiS w l A6 N6 c6 0 h m (g+(m-n)*((h:Int)+1)) b z ir f j wr):=ah (by
      have hj:=TG bd.1 (λc hc hn=>HM.out.2.1 c hc hn);refine⟨i.out.own,i.out.len,i.out.ext,aGX i.out.fw bd.1 (λc hc hn=>HM.out.2.1 c hc hn),by rw[<- hj];exact i.out.cnt,?_⟩;have e1:(m-z)*((h:Int)+1)=(m-n)*((h:Int)+1)+(n-z)*((h:Int)+1):=(by rw[<- Int.add_mul];congr 1;omega);have e2:bV (plc l m 0) 0=0:=rfl;rw[e1,e2]
      omega)
     clear hm HM HX F bu he;go_wp2;go_loopg[4,7,8,10,11,71] l.length (λX s4 s7 s8 S T bv Y=>aGh w l m h X s4 s7 s8 S T bv Y);exact⟨A6,N6,c6,0,h,_,b,z,ir,f,j,by omega,rfl,rfl,rfl,rfl,rfl,rfl,s,by omega,I,by omega,J,K,L,hN,lr' _,ah (.inr (λq _ C=>by omega))⟩;clear i s ao a8 R I a6 J K L hN O bb;obtain⟨A7,zI,c7,p,t,g,b,z,ir,f,j,bb,rfl,rfl,rfl,rfl,rfl,rfl,i,R,I,a6,J,K,L,hN,bh,HH⟩:=hrel;have a9:=vT (plc l m p) l.length;rw[<- i.out.cnt]at a9;have a8:=EX (a:=m-z) (h:=t) (by omega) (by omega) (by omega) (by omega);have F:=i.out.del;by_cases O:p<l.length
     .have bw:=Nat.le_trans (vT (plc l m p) p) (Nat.le_of_lt O);have ao:g<=286327100:=(by omega);obtain⟨b',o',hA,b5⟩:=(HI.out.ext i.out.ext).at_ O;subst hA;clear F a8 bw;by_cases G:l[p]<m
      .have av:l[p]≠m:=(by omega);have y:=ah (Tc O av (by omega));have s:Hid (PiS w l A7 zI c7 (p+1) t m (g+1) b z ir f j wr):=ah ⟨i.out.own,i.out.len,i.out.ext,Ti i.out.fw O av,by rw[y.out.1];exact i.out.cnt,by rw[y.out.2,pP' G];have:=i.out.del;omega⟩
       have aw:Hid (h<t\/∀q(C:q<l.length),q<p+1->l[q]≠m):=ah (HH.out.elim .inl (λk=>.inr (λq C h2=>by
        by_cases e:q=p
        .subst e;exact av
        .exact k q C (by omega))))
       clear y;generalize l[p]=x at*;go_wp2;go_roundg (l.length-(p+1));exact⟨A7,zI,c7,p+1,t,_,b,z,ir,f,j,by omega,by go_num,rfl,rfl,rfl,rfl,rfl,s,by omega,I,a6,J,K,L,hN,bh,aw⟩;omega
      by_cases M:l[p]=m
      .have y:=ah (aDn O M (by omega));have bi:=i.out.len;have ax:0<=g/\g<2147483648:=(by omega);have bx: -100000<=b/\b<=100000:=(by omega);have ay:=ah (aAp w wr A7 zI c7 _ g b ax bx i.out.own i.out.ext bi (by omega));have bj:(1:Int)<=((t+1:Nat):Int)/\((t+1:Nat):Int)<=4096:=(by omega);have bk:=ah (λw=>Tv g ((t+1:Nat):Int) f ax bj w);have az:=Hu (f:=f) ax.1 bj.1;have bz:=Ho b 64 0 g;have N:=ah (aDv (v:=g) i.out.fw O M (by omega) (by rw[<- i.out.cnt];exact i.out.del));rw[<- i.out.cnt]at N y;rw[show((t:Int)+1)=((t+1:Nat):Int)by omega]at N;obtain⟨b2,bl⟩:=eY' (oz g ((t+1:Nat):Int) f);rw[bl]at bk az N;obtain⟨ds,bm⟩:=eY' (jc b 64 0 g);rw[bm]at ay bz N;clear bi bl bm;generalize l[p]=x at*;go_wp2_with fail;refine ay.out.mono ?_;rintro e w8⟨A8,n8,c8,rfl,aD,pW,bn⟩;have bJ:n8<=zI+64:=by
        have:=i.out.len;rw[aD,lA',List.length_map];omega
       have s:Hid (PiS w l A8 n8 c8 (p+1) (t+1) m 0 b2 m (bV (plc l m p) p+1) false (j++ds) w8):=ah ⟨by simpa using pW,by simpa using aD,bn,N.out,y.out.1.symm,by rw[y.out.2];omega⟩;clear aD pW bn ay N y;go_wp2_with fail;refine(bk.out w8).mono ?_;rintro e w9⟨rfl,rfl⟩;go_wp2;go_roundg (l.length-(p+1));exact⟨A8,n8,c8,p+1,t+1,0,b2,m,_,false,j++ds,by omega,by go_num,rfl,by go_num,rfl,rfl,rfl,s,by omega,by omega,by omega,by omega,az.1,az.2,by omega,by omega,ah (.inl (by omega))⟩;omega
      .have y:=ah (Tc O M (by omega));have s:Hid (PiS w l A7 zI c7 (p+1) t m g b z ir f j wr):=ah ⟨i.out.own,i.out.len,i.out.ext,Ti i.out.fw O M,by rw[y.out.1];exact i.out.cnt,by rw[y.out.2,nN' G];have:=i.out.del;omega⟩
       have aw:Hid (h<t\/∀q(C:q<l.length),q<p+1->l[q]≠m):=ah (HH.out.elim .inl (λk=>.inr (λq C h2=>by
        by_cases e:q=p
        .subst e;exact M
        .exact k q C (by omega))))
       clear y;generalize l[p]=x at*;have bL:(x==m)=false:=(by rw[aO];exact M);go_wp2;go_roundg (l.length-(p+1));exact⟨A7,zI,c7,p+1,t,_,b,z,ir,f,j,by omega,by go_num,rfl,rfl,rfl,rfl,rfl,s,by omega,I,a6,J,K,L,hN,bh,aw⟩;omega
     .have G:h<t:=by
       rcases HH.out with h'|h'
       .exact h'
       .obtain⟨q,C,e⟩:=List.getElem_of_mem be.out;exact absurd e (h' q C (by omega))
      have bo:p=l.length:=by omega
      have s:Hid (PoS w l A7 zI c7 t (m+1) (g+1) b z ir f j wr):=ah (by
       have hj:plc l m l.length=plc l (m+1) 0:=SS (by omega) (λc _ _ h=>by omega);have hc:=i.out.cnt;have hd:=i.out.del;have hf:=i.out.fw;rw[bo]at hc hd hf;rw[<- hc]at hd;refine⟨i.out.own,i.out.len,i.out.ext,aDp hf (by omega) (λc _ _ h=>by omega),by rw[<- hj];exact hc,?_⟩;rw[show m+1-z=(m-z)+1 by omega,Int.add_mul]
       omega)
      have ao:g<=286327100:=by
       have:=vT (plc l m p) p;omega
      clear i HH be F a8 bo;go_wp2;go_roundg (l.length-t);exact⟨A7,zI,c7,t,m+1,g+1,b,z,ir,f,j,by omega,rfl,rfl,rfl,rfl,rfl,rfl,s,by omega,I,by omega,by omega,by omega,J,K,L,hN⟩;omega
   .have a9:=vT (plc l n 0) l.length;rw[<- i.out.cnt]at a9;have hR:=aDo i.out.fw (TT (by rw[<- i.out.cnt];omega));have HP:Hid (kN l=mG l++j.map eU):=ah (by unfold kN;rw[LP hR]);have bA:=CZ (OwnB.KW i.out.own);have hb:=i.out.ext;rw[<- HP.out]at bA;clear a9 hR i;go_wp2;go_ret2;exact⟨by rw[HF.out];rfl,hb⟩
theorem TY(j b:Int)(a:0<=j/\j<=4096)(c: -100000<=b/\b<=100000)(w:World):cW' 251 #[.int .i64 j,.int .i64 b] w (.int .i64 (gV j b)):=by
 go_enter func251,ntmps251;go_wp2
 all_goals(go_ret;refine⟨aV ?_,rfl⟩;unfold gV;omega)
theorem aGe{d:Int}(h:0<=d/\d<36)(w:World):(Instr.slice 9 (.string ⟨#[97,98,99,100,101,102,103,104,105,106,107,108,109,110,111,112,113,114,115,116,117,118,119,120,121,122,48,49,50,51,52,53,54,55,56,57]⟩) (some (.int .i64 d)) (some (.int .i64 (d+1))) none).run prog w=.ok (.string (sB [eU d])) w:=by
 obtain⟨n,rfl⟩:=Int.eq_ofNat_of_zero_le h.1;have a:n<36:=by omega
 have b:=QF (l:=[97,98,99,100,101,102,103,104,105,106,107,108,109,110,111,112,113,114,115,116,117,118,119,120,121,122,48,49,50,51,52,53,54,55,56,57]) w (k:=n) (m:=n+1) (by omega) (by simp;omega);refine Eq.trans b (congrArg (λx=>Result.ok (Value.string (sB x)) w) ?_);have:∀m:Fin 36,(([97,98,99,100,101,102,103,104,105,106,107,108,109,110,111,112,113,114,115,116,117,118,119,120,121,122,48,49,50,51,52,53,54,55,56,57]:List Int).drop m.val).take (m.val+1-m.val)=[eU m.val]:=by decide
 exact this ⟨n,a⟩
theorem TU(d:Int)(h:0<=d/\d<36)(w:World):cW' 282 #[.int .i64 d] w (.string (sB [eU d])):=by
 have a:=aGe h w;generalize[eU d]=v at*;go_enter func282,ntmps282;go_wp2;go_ret;exact⟨rfl,rfl⟩
def aRP(w:World)(b v0:Int)(g:Nat)(s0 s5 s6:Value)(wx:World):Prop:=
 ∃(j:Nat)(v:Int)(acc:List Int),g+j=63/\s6=.int .i64 j/\s0=.int .i64 v/\0<=v/\v<2 ^ g/\v<2147483648/\s5=.string (sB (acc.map eU))/\w=wx/\acc.length<=j/\Hid (jc b 64 0 v0=acc++jc b (g+1) j v)
theorem aGt(v b:Int)(r:0<=v/\v<2147483648)(S: -100000<=b/\b<=100000)(w:World):
 cW' 245 #[.int .i64 v,.int .i64 b] w (.string (sB ((jc b 64 0 v).map eU))):=by
 generalize s:v=v0 at*;clear s;go_enter func245,ntmps245;go_wp2;go_loopg[0,5,6] 63 (λx y z A B=>aRP w b v0 x y z A B);exact⟨0,v0,[],by omega,rfl,rfl,r.1,by omega,r.2,rfl,rfl,by simp,rfl⟩;obtain⟨j,v,a,T,rfl,rfl,C,g,D,rfl,rfl,G,l⟩:=hrel;have m:(0:Int)<=(j:Int)/\(j:Int)<=4096:=by omega
 have ht:=Bv j b;have c:Hid (jc b (gk+1) j v=if v<gV j b then[v]else(gV j b+(v-gV j b) % (36-gV j b))::jc b gk (j+1) ((v-gV j b) / (36-gV j b))):=rfl;have q:=ah (TY j b m S w);generalize gV j b=t at*;have i:Hid ((a.map eU).length=a.length):=ah (List.length_map _);go_wp2_with fail;refine q.out.mono ?_;rintro e w'⟨rfl,rfl⟩;by_cases d:v<t
 .rw[pP' d]at c;have H:decide (v<t)=true:=by rw[au];exact d
  have n:=ah (TU v (by omega) w);have I:Hid ((jc b 64 0 v0).map eU=a.map eU++[eU v]):=ah (by rw[l.out,c.out];simp);have J:(a.map eU).length<=64:=by rw[i.out];omega
  have K:[eU v].length<=1:=lr' _;generalize[eU v]=E at*;generalize a.map eU=F at*;go_wp2_with fail;refine n.out.mono ?_;rintro e w'⟨rfl,rfl⟩;go_wp2;go_ret;exact⟨by rw[I.out];rfl,rfl⟩
 .rw[nN' d]at c;have H:decide (v<t)=false:=by rw[aA];exact d
  have L:=Int.emod_nonneg (v-t) (b:=36-t) (by omega);have M:=Int.emod_lt_of_pos (v-t) (b:=36-t) (by omega);have k:0<=(v-t) / (36-t):=Int.ediv_nonneg (by omega) (by omega);have N:(v-t) / (36-t)*2<=v:=by
   have O:=Int.mul_ediv_add_emod (v-t) (36-t);have U:(v-t) / (36-t)*2<=(v-t) / (36-t)*(36-t):=Int.mul_le_mul_of_nonneg_left (by omega) k;rw[Int.mul_comm (36-t)]at O;omega
  obtain⟨f,rfl⟩:∃P,gk=P+1:=by
   rcases Nat.eq_zero_or_pos gk with h|h
   .subst h;exact absurd g (by omega)
   .exact⟨gk-1,by omega⟩
  have o:(v-t) / (36-t)<2 ^ f:=by rw[Int.pow_succ]at g;omega
  have n:=ah (TU (t+(v-t) % (36-t)) (by omega) w);have p:=aI l (show _=(a++[t+(v-t) % (36-t)])++jc b (f+1) ((j+1:Nat):Int) ((v-t) / (36-t))from by rw[c.out];simp);have Q:t+(v-t) % (36-t)<62:=by omega
  have J:(a.map eU).length<=64:=by rw[i.out];omega
  have K:[eU (t+(v-t) % (36-t))].length<=1:=lr' _;have R:Hid (a.map eU++[eU (t+(v-t) % (36-t))]=(a++[t+(v-t) % (36-t)]).map eU):=ah (by simp);generalize[eU (t+(v-t) % (36-t))]=E at*;generalize a.map eU=F at*;clear l c q;go_wp2_with fail;refine n.out.mono ?_;rintro e w'⟨rfl,rfl⟩;go_wp2;go_roundg f;exact⟨j+1,_,a++[t+(v-t) % (36-t)],by omega,by go_num,rfl,k,o,by omega,by rw[R.out],rfl,by simp;omega,p⟩;omega
theorem U0(d p:Int)(f:Bool)(O:0<=d/\d<2147483648)(P:1<=p/\p<=4096)(w:World):cW' 191 #[.int .i64 d,.int .i64 p,.bool f] w (.int .i64 (oz d p f)):=by
 have n:Hid (oz d p f=adG 64 0 ((if f then d / 700 else d / 2)+(if f then d / 700 else d / 2) / p)):=ah (by unfold oz;rw[nN' (by omega)]);generalize oz d p f=V at*;obtain⟨a,b⟩:=eY' (if f=true then d / 700 else d / 2);rw[b]at n;have i:0<=a/\a<=1073741824:=by rw[<- b];cases f<;>simp<;>omega
 have r:0<=a / p:=Int.ediv_nonneg (by omega) (by omega);have s:a / p<=a:=Int.ediv_le_self p i.1;have o:Hid (a+a / p<64339296875):=ah (by omega);have I:decide (d<0)=false:=dF';have J:decide (1099511627776<d)=false:=dF';have K:decide (p<1)=false:=dF';have L:decide (4096<p)=false:=dF';go_enter func191,ntmps191;cases f<;>simp only[Bool.false_eq_true,if_false,if_true]at b
 all_goals
  go_wp2_with fail;rw[b];clear b;go_loopg[0,7] 7 (λt y z A=>Tz w (a+a / p) t y z A);exact⟨0,a+a / p,rfl,rfl,by omega,o.out,o.out,by omega,by omega,rfl,rfl⟩;obtain⟨k,x,rfl,rfl,B,g,C,D,M,rfl,j⟩:=hrel;have l:Hid (adG (57+gk) k x=if x<=455 then k+36*x / (x+38)else adG (56+gk) (k+36) (x / 35)):=ah (by rw[show 57+gk=(56+gk)+1 by omega];rfl);by_cases q:x<=455
  .have E:Hid (V=k+36*x / (x+38)):=ah (by rw[n.out,j.out,l.out,pP' q]);have N:0<=36*x / (x+38):=Int.ediv_nonneg (by omega) (by omega);have F:36*x / (x+38)<=36*x:=Int.ediv_le_self _ (by omega);go_wp2;go_ret;exact⟨aV E.out.symm,rfl⟩
  .obtain⟨c,rfl⟩:∃G,gk=G+1:=by
    rcases Nat.eq_zero_or_pos gk with h|h
    .subst h;exact absurd g (by omega)
    .exact⟨gk-1,by omega⟩
   have H:x / 35<35 ^ c:=(by rw[Int.pow_succ]at g;omega);have m:=aI j (show _=adG (57+c) (k+36) (x / 35)from by rw[l.out,nN' q];congr 1;omega);clear j l;go_wp2;go_roundg c;exact⟨k+36,x / 35,rfl,rfl,by omega,H,by omega,by omega,by omega,rfl,m⟩;omega
def PlS(w:World)(base:Nat)(g n:Nat)(pl:Nat->Bool):Prop:=base<=g/\g<w.heap.size/\∀k,k<n->w.cell? ⟨g,k,none⟩=some (.bool (pl k))/\w.frozen? ⟨g,k,none⟩=false
def aGq(l:List Int)(pl:Nat->Bool)(w:World)(g:Nat)(s5 s10:Value)(wx:World):Prop:=
 ∃(q:Nat)(a:Int),g+q=l.length/\s10=.int .i64 q/\s5=.int .i64 a/\wx=w/\Hid (uj l pl q a)
theorem aGr(j:Nat->Bool)(A:Option Addr)(n c s g P:Nat)(w:World)(t:aF w ⟨A,n,c⟩ l)(D:PlS w s g l.length j):
 Calls prog 244 #[.slice A n c,.slice (some ⟨g,0,none⟩) l.length P] w λe w'=>∃a,e=.returned (.int .i64 a)/\w=w'/\uj l j l.length a:=by
 have E:=t.len.1;have Q:=t.len;subst E;have C:=ah t;have F:=ah D;clear t D;go_enter func244,ntmps244;go_wp2;go_loopg[5,10] l.length (λG H z I=>aGq l j w G H z I);exact⟨0,-1,by omega,rfl,rfl,rfl,ah (Tf l j)⟩;obtain⟨q,a,R,rfl,rfl,rfl,i⟩:=hrel;by_cases k:q<l.length
 .obtain⟨b,o,p,J⟩:=C.out.at_ k;subst p;have r:=(F.out.2.2 q k).1;cases f:j q
  case true=>
   have h:=ah (Tn i.out f);rw[f]at r;generalize l[q]=x at*;go_wp2;go_roundg (l.length-(q+1));exact⟨q+1,a,by omega,by go_num,rfl,rfl,h⟩;omega
  rw[f]at r;rcases i.out with⟨rfl,_⟩|⟨m,B,rfl,K,_⟩
  .have h:=ah (Td i.out k f);generalize l[q]=x at*;go_wp2;go_roundg (l.length-(q+1));exact⟨q+1,q,by omega,by go_num,rfl,rfl,h⟩;omega
  .obtain⟨S,T,p,L⟩:=C.out.at_ B;injection p with p;injection p with M N;subst M N;by_cases d:l[q]<l[m]
   .have h:=ah (Tm i.out k B f d);have O:decide (l[q]<l[m])=true:=(by rw[au];exact d);generalize l[q]=x at*;generalize l[m]=y at*;clear d;go_wp2;go_roundg (l.length-(q+1));exact⟨q+1,q,by omega,by go_num,rfl,rfl,h⟩;omega
   .have h:=ah (Tj i.out k B d);have O:decide (l[q]<l[m])=false:=(by rw[aA];exact d);generalize l[q]=x at*;generalize l[m]=y at*;clear d;go_wp2;go_roundg (l.length-(q+1));exact⟨q+1,m,by omega,by go_num,rfl,rfl,h⟩;omega
 .have h:Hid (uj l j l.length a):=ah (by rw[show l.length=q by omega];exact i.out);clear i;go_wp2;go_ret;exact⟨a,rfl,rfl,h.out⟩
theorem infoBool:(prog.info? 4).map (λi=>(i.zero,i.size,i.bytes))=some (some (.bool false),1,1):=by kernel_rfl
theorem PlS.ext{w w':World}{a g n:Nat}{f:Nat->Bool}(h:PlS w a g n f)(c:Ext w w'):PlS w' a g n f:=
 ⟨h.1,lt' h.2.1 c.b.size,λk d=>⟨bg (bD c) (h.2.2 k d).1,by rw[<- (h.2.2 k d).2];exact c.b.frozen (p:=⟨g,k,none⟩) h.2.1⟩⟩
theorem PlS.congr{w:World}{a g n:Nat}{p q:Nat->Bool}(h:PlS w a g n p)(e:∀k,k<n->p k=q k):PlS w a g n q:=
 ⟨h.1,h.2.1,λk b=>by rw[<- e k b];exact h.2.2 k b⟩
theorem PlS.set{w:World}{b g n a:Nat}{d:Nat->Bool}(h:PlS w b g n d)(f:a<n):PlS (w.setCell ⟨g,a,none⟩ (.bool true)) b g n (λk=>d k||k==a):=
 ⟨h.1,by simpa using h.2.1,λk c=>⟨by
  by_cases e:k=a
  .subst e;rw[World.cell?_setCell_same w _ (.bool true) (h.2.2 k c).1];simp
  .rw[World.cell?_setCell_other w _ _ (.bool true) (by simp;try omega),(h.2.2 k c).1]
   simp[e],by simpa using(h.2.2 k c).2⟩⟩
def FwR(l:List Int)(pl:Nat->Bool)(n i b:Int)(f:Bool)(acc:List Int):Prop:=∀ds,oN l pl n i b f ds->oN l (plc l 128 0) 128 0 72 true (acc++ds)
def EY(l:List Int)(pl:Nat->Bool)(n i:Int):Prop:=∀k(hk:k<l.length),pl k=false->n<=l[k]/\(l[k]=n->i<=bV pl k)
theorem inv_start:EY l (plc l 128 0) 128 0:=λk a h=>by
 rw[qR a]at h;simp only[oF',aA]at h;exact⟨by omega,λ_=>by omega⟩
theorem U2{l:List Int}{b:Nat->Bool}{n i:Int}{a:Nat}(h:EY l b n i)(w:Bz l b a)(g:a<l.length)(A:0<=n)(B:0<=i/\i<=bV b l.length)(C:l[a]<=1114111)(o:l.length<=256):
 (0<=(l[a]-n)*((bV b l.length:Int)+1)+bV b a-i/\(l[a]-n)*((bV b l.length:Int)+1)+bV b a-i<2147483648)/\n<=l[a]/\EY l (λk=>b k||k==a) l[a] (bV b a+1)/\bV (λk=>b k||k==a) l.length=bV b l.length+1:=by
 obtain⟨_,c,f⟩:=w;have j:=h a g c;have p:=vT b l.length;have q:=BD b (Nat.le_of_lt g);have x:=EX (a:=l[a]-n) (h:=bV b l.length) (by omega) (by omega) (by omega) (by omega);refine⟨⟨?_,by omega⟩,j.1,?_,by rw[BA c,pP' g]⟩
 .by_cases r:l[a]-n=0
  .have:=j.2 (by omega);rw[r];omega
  .have:1*((bV b l.length:Int)+1)<=(l[a]-n)*((bV b l.length:Int)+1):=Int.mul_le_mul_of_nonneg_right (by omega) (by omega);omega
 .intro k s d;simp only[oF',aO]at d;have m:=f k s d.1;refine⟨m.1,λe=>?_⟩;have y:=m.2 e;have t:a<k:=by have:=d.2;omega
  rw[BA c,pP' t];have z:=BD b (show a<=k by omega);omega
def aH6(w:World)(l:List Int)(G:Nat)(g:Nat)(s4 s26:Value)(wx:World):Prop:=
 ∃k:Nat,g+k=l.length/\s26=.int .i64 k/\s4=.string (sB (jd (l.take k)))/\Hid (PlS wx G G l.length (λj=>decide (j<k)&&plc l 128 0 j))/\Ext w wx/\Hid ((l.take k).any (λc=> !bf c)=false)
def LQ(w:World)(l:List Int)(G:Nat)(g:Nat)(s4 s8 s9 s10 s11:Value)(wx:World):Prop:=
 ∃(pl:Nat->Bool)(n i b:Int)(f:Bool)(S acc:List Int),Hid (g+bV pl l.length=l.length)/\s4=.string (sB S)/\s8=.int .i64 n/\s9=.int .i64 i/\s10=.int .i64 b/\s11=.bool f/\Hid (S=mG l++acc.map eU)/\
  Hid (PlS wx G G l.length pl)/\Ext w wx/\Hid (FwR l pl n i b f acc)/\Hid (EY l pl n i)/\0<=n/\n<=1114111/\0<=i/\Hid (i<=bV pl l.length)/\0<=b/\b<=2400/\Hid (S.length<=257+64*bV pl l.length)
def aRO(l:List Int)(pl:Nat->Bool)(a:Nat)(w1:World)(g:Nat)(s13 s14 s58:Value)(wx:World):Prop:=
 ∃q:Nat,g+q=l.length/\s58=.int .i64 q/\s13=.int .i64 (bV pl q)/\s14=.int .i64 (bV pl (min q a))/\wx=w1
theorem aGu(hi:aF w ⟨A,n,c⟩ l):Calls prog 169 #[.slice A n c] w (xY w (jO l)):=by
 have HD:Hid (jO l=if 256<l.length then([],7)else if l.any (λc=> !bf c)then([],3)else(kN l,0)):=rfl;generalize jO l=D at*;have hn:=hi.len.1;subst hn;have HI:=ah hi;clear hi;by_cases h1:256<l.length
 .rw[pP' h1]at HD;go_enter func169,ntmps169;go_wp2;go_ret2;exact⟨by rw[HD.out];rfl,eR'⟩
 rw[nN' h1]at HD;obtain⟨i0,O,ax,ay,az⟩:=info_parts infoBool;go_enter func169,ntmps169;go_wp2_with(at_make;refine wpList_make_full _ rfl _ _ 194 rfl w.heap.size 4 i0 (.bool false) 1 underlying194 O ax ay .i64 .i64 _ _ l.length rfl rfl rfl rfl (by rw[az];omega) (by unfold maxLen;omega) (lr' _) ?_);intro w1 g aD
 have a0:Hid (PlS w1 w.heap.size w.heap.size l.length (λj=>decide (j<0)&&plc l 128 0 j)):=ah (by
  rw[toList_madeCells_one]at g;refine⟨lr' _,(World.ownsRow.lt g w.heap.size rfl).2,λk C=>⟨?_,World.ownsRow.frozenAt g k⟩⟩;rw[World.ownsRow.cellAt g k (by omega),List.getElem?_replicate,pP' (by omega)]
  rfl)
 have aE:Hid (Ext w w1):=ah (dW eR' aD (λk C=>by cases C));clear g aD O ax ay az;obtain⟨G,hG⟩:=eY' w.heap.size;rw[hG]at a0 |-;have HG:Hid (w.heap.size<=G):=ah (by omega);clear hG;go_wp2;go_loopg[4,26] l.length (λgh s4 bi wx=>aH6 w l G gh s4 bi wx);exact⟨0,by omega,rfl,rfl,a0,aE.out,rfl⟩;clear a0 aE;obtain⟨k,hg,rfl,rfl,t,P,HN⟩:=hrel;have B:=ah P;have a3:=Ht (l.take k);rw[List.length_take]at a3;clear P;by_cases C:k<l.length
 .obtain⟨b,o,hA,aM⟩:=(HI.out.ext B.out).at_ C;subst hA;have aR:=ah (y7 (f:=λc=> !bf c) C);have aY:=ah (anyM (f:=λc=> !bf c) C);have HT:=ah (LD C);have Q:=ah (qR C 128 0);generalize l[k]=x at*;go_wp2_with fail;refine(zy _ _).mono ?_;rintro e w'⟨rfl,rfl⟩;cases hs:bf x
  .have HF:Hid (D=([],3)):=ah (by rw[HD.out,pP' (aY.out (by simp[hs]))]);have P:=B.out;go_wp2;go_ret2;exact⟨by rw[HF.out];rfl,P⟩
  .have b1:Hid ((l.take (k+1)).any (λc=> !bf c)=false):=ah (by rw[aR.out,HN.out];simp[hs]);have hx:=vS hs;clear HN aR aY;by_cases b3:x<128
   .rw[pP' b3]at HT;have F:plc l 128 0 k=true:=(by rw[Q.out];simp;omega);have bH:=yY wr #[.int .u8 x] [x] 1 rfl rfl (by omega);have b4:Ext wr (wr.alloc (.cells #[.int .u8 x] 5)):=eR'.aB _;have R:=ah (t.out.ext b4);have bJ:=(R.out.2.2 k C).1;have bK:=(R.out.2.2 k C).2
    have a4:Hid (PlS ((wr.alloc (.cells #[.int .u8 x] 5)).setCell ⟨G,k,none⟩ (.bool true)) G G l.length (λj=>decide (j<k+1)&&plc l 128 0 j)):=ah ((R.out.set C).congr (λj _=>by
     by_cases e:j=k
     .subst e;simp[F]
     .have e1:decide (j<k+1)=decide (j<k):=(by rw[decide_eq_decide];omega);have e2:(j==k)=false:=by rw[aO];exact e
      simp only[e1,e2,Bool.or_false]))
    have bj:Hid (Ext w ((wr.alloc (.cells #[.int .u8 x] 5)).setCell ⟨G,k,none⟩ (.bool true))):=ah ((B.out.trans' b4).kQ HG.out _);have bL:[x].length<=1:=lr' _;have bk:Hid (jd (l.take k)++[x]=jd (l.take (k+1))):=ah HT.out.symm;generalize[x]=E at*;generalize jd (l.take k)=S at*;clear t R HT Q F;go_wp2;go_roundg (l.length-(k+1));exact⟨k+1,by omega,by go_num,by rw[bk.out],a4,bj.out,b1⟩;omega
   .rw[nN' b3,List.append_nil]at HT;have F:plc l 128 0 k=false:=by rw[Q.out];simp;omega
    have a4:Hid (PlS wr G G l.length (λj=>decide (j<k+1)&&plc l 128 0 j)):=ah (t.out.congr (λj _=>by
     by_cases e:j=k
     .subst e;simp[F]
     .have e1:decide (j<k+1)=decide (j<k):=by rw[decide_eq_decide];omega
      simp only[e1]))
    clear t Q F;go_wp2;go_roundg (l.length-(k+1));exact⟨k+1,by omega,by go_num,by rw[HT.out],a4,B.out,b1⟩;omega
 .have he:l.take k=l:=tL' (by omega);rw[he]at HN a3;have HF:Hid (D=(kN l,0)):=ah (by rw[HD.out,nN' (by rw[HN.out];simp)])
  have ng:Hid (∀x∈l,0<=x/\x<=1114111):=ah (λx hx=>vS (by
   cases hs:bf x
   .have h:l.any (λc=> !bf c)=true:=List.any_eq_true.2 ⟨x,hx,by simp[hs]⟩;rw[HN.out]at h;cases h
   .rfl))
  have a5:Hid (PlS wr G G l.length (plc l 128 0)):=ah (t.out.congr (λj hj=>by
   have:decide (j<k)=true:=dT'
   simp only[this,Bool.true_and]))
  have hl:l.length<=256:=by omega
  rw[he];have iG:Hid (mG l=jd l++if(jd l).length=0 then[]else[45]):=rfl;have a6:=ah (vT (plc l 128 0) l.length);have z:=ah (LJ (l:=l) l.length (lr' _));rw[tL' (lr' _)]at z;clear a3 h1 hg HD HN t he;generalize wr=w2 at*;generalize jd l=S at*;have bl:=a6.out;rw[z.out]at bl
  have T:Hid (∀M,M=mG l->LQ w l G (l.length-S.length) (.string (sB M)) (.int .i64 128) (.int .i64 0) (.int .i64 72) (.bool true) w2):=ah (λM e=>by
   refine⟨plc l 128 0,128,0,72,true,M,[],ah (by rw[z.out];omega),rfl,rfl,rfl,rfl,rfl,ah (by simpa using e),a5,B.out,ah (λN h=>h),ah (inv_start l),by omega,by omega,by omega,ah (by omega),by omega,by omega,ah ?_⟩;rw[e,iG.out,lA',z.out]
   split<;>simp<;>omega)
  have a7:=y9 S;cases hS:S.isEmpty
  case' true=>
   rw[hS]at a7;have U:=ah (T.out S (by rw[iG.out,List.isEmpty_iff.1 hS];rfl));clear T iG a6 z a5 B hS;go_wp2;go_loopg[4,8,9,10,11] (l.length-S.length) (λgh s4 s8 s9 a9 aa wx=>LQ w l G gh s4 s8 s9 a9 aa wx)
   case atStart=>exact U.out
  case' false=>
   rw[hS]at a7;have U:=ah (T.out (S++[45]) (by rw[iG.out,nN' (by intro h;rw[List.eq_nil_of_length_eq_zero h]at hS;cases hS)]));have bm:(⟨#[45]⟩:ByteArray)=sB [45]:=rfl;clear T iG a6 z a5 B hS;go_wp2_with fail;clear bm;go_loopg[4,8,9,10,11] (l.length-S.length) (λgh s4 s8 s9 a9 aa wx=>LQ w l G gh s4 s8 s9 a9 aa wx)
   case atStart=>exact U.out
  all_goals
   clear a7 U;obtain⟨d,n,i,b,f,M,ab,ac,rfl,rfl,rfl,rfl,rfl,HS,t,P,ad,b7,bn,bN,O,ae,bO,bR,b8⟩:=hrel;have B:=ah P;have gG:=ah (vT d l.length);obtain⟨g2,bo⟩:=eX' gk;rw[<- bo]at ac;clear P;go_wp2_with fail;refine(aGr l d A l.length c G G l.length wr (HI.out.ext B.out) t.out).mono ?_;rintro e w'⟨a,rfl,rfl,hq⟩;rcases Tq hq with⟨rfl,Z⟩|⟨m,rfl,b9⟩
   .have hR:=ad.out [] (.done Z);rw[List.append_nil]at hR;have bp:Hid (D=(M,0)):=ah (by rw[HF.out];unfold kN;rw[LP hR,HS.out]);have P:=B.out;clear Z hq hR;go_wp2;go_ret2;exact⟨by rw[bp.out];rfl,P⟩
   .have af:=ah b9;obtain⟨W,_,_⟩:=b9;have bS:decide ((m:Int)<0)=false:=dF';clear hq;generalize wr=w3 at*;go_wp2;go_loopg[13,14,58] l.length (λgh bq br bs wx=>aRO l d m w3 gh bq br bs wx);exact⟨0,by omega,rfl,rfl,by simp[bV],rfl⟩;obtain⟨q,bt,rfl,rfl,rfl,rfl⟩:=hrel;have bu:=vT d q;have bv:=vT d (min q m);by_cases hq:q<l.length
    .have ba:=(t.out.2.2 q hq).1;have p:=ah (yZ d q);have r:Hid (q<m->min (q+1) m=q+1/\min q m=q):=ah (by omega);have s:Hid (¬q<m->min (q+1) m=m/\min q m=m):=ah (by omega);cases bb:d q
     .rw[bb]at ba p
      have I:Hid (bV d (min (q+1) m)=bV d (min q m)):=ah (by
       by_cases h:q<m
       .rw[(r.out h).1,(r.out h).2,p.out];rfl
       .rw[(s.out h).1,(s.out h).2])
      have K:Hid (bV d (q+1)=bV d q):=p;clear p r s;go_wp2;go_roundg (l.length-(q+1));exact⟨q+1,by omega,by go_num,by rw[K.out],by rw[I.out],rfl⟩;omega
     .rw[bb]at ba p;have K:Hid (bV d (q+1)=bV d q+1):=p;by_cases h:q<m
      .have I:Hid (bV d (min (q+1) m)=bV d (min q m)+1):=ah (by rw[(r.out h).1,(r.out h).2,K.out]);clear p r s;go_wp2;go_roundg (l.length-(q+1));exact⟨q+1,by omega,by go_num,by rw[K.out];go_num,by rw[I.out];go_num,rfl⟩;omega
      .have I:Hid (bV d (min (q+1) m)=bV d (min q m)):=ah (by rw[(s.out h).1,(s.out h).2]);clear p r s;go_wp2;go_roundg (l.length-(q+1));exact⟨q+1,by omega,by go_num,by rw[K.out];go_num,by rw[I.out],rfl⟩;omega
    .have X:=ng.out _ (gM' W);obtain⟨hv,bw,U9,L⟩:=U2 b7.out af.out W bn ⟨O,ae.out⟩ X.2 hl
     have Dl:Hid (FwR l (λk=>d k||k==m) l[m] (bV d m+1) (oz ((l[m]-n)*((bV d l.length:Int)+1)+bV d m-i) ((bV d l.length:Int)+1) f) false (ab++jc b 64 0 ((l[m]-n)*((bV d l.length:Int)+1)+bV d m-i))):=ah (λN hr=>by
      rw[List.append_assoc]
      exact ad.out _ (.step W af.out rfl hr))
     have LY:=ah U9;have Ic:=ah L;have Y:=ah (BD d (Nat.le_of_lt W));have bx:=gG.out;have U8:=vT (λk=>d k||k==m) l.length;rw[L]at U8;have Ib:=ah b8.out;have Uc:=ah ac.out;have Ud:=ah ae.out;have bz:Hid (PlS (wr.setCell ⟨G,m,none⟩ (.bool true)) G G l.length (λk=>d k||k==m)):=ah (t.out.set W);have bc:Hid (Ext w (wr.setCell ⟨G,m,none⟩ (.bool true))):=ah (B.out.kQ HG.out _);have bU:=(t.out.2.2 m W).1;have bW:=(t.out.2.2 m W).2;obtain⟨b',o',hA,aM⟩:=(HI.out.ext B.out).at_ W;subst hA;obtain⟨bX,bZ,ai,bA⟩:=(HI.out.ext bc.out).at_ W;injection ai with ai;injection ai with e1 e2;subst e1 e2;rw[show q=l.length by omega,show min l.length m=m by omega];clear ad b7 t af gG U9 L bu bv hq bt b8 ac ae;have al:=EX (a:=l[m]-n) (h:=bV d l.length) (by omega) (by omega) (by omega) (by omega);obtain⟨H,hH⟩:=eY' (bV d l.length);obtain⟨J,hJ⟩:=eY' (bV d m);rw[hH]at hv Dl Ic Ib Uc Ud bx al Y U8 |-;rw[hJ]at hv Dl LY Y |-;have c0:=Y.out;clear hH hJ Y;obtain⟨y,hy⟩:=eY' (l[m]);rw[hy]at hv Dl LY al aM bA bw X;clear hy;have bd:(1:Int)<=(H:Int)+1/\(H:Int)+1<=4096:=(by omega);have am:=ah (aGt ((y-n)*((H:Int)+1)+J-i) b hv (by omega) wr);have an:=ah (U0 ((y-n)*((H:Int)+1)+J-i) ((H:Int)+1) f hv bd wr);have ao:=Hu (f:=f) hv.1 bd.1;have ap:=Ho b 64 0 ((y-n)*((H:Int)+1)+J-i);obtain⟨N,be⟩:=eY' (jc b 64 0 ((y-n)*((H:Int)+1)+J-i));rw[be]at am Dl ap;obtain⟨b2,bh⟩:=eY' (oz ((y-n)*((H:Int)+1)+J-i) ((H:Int)+1) f);rw[bh]at an ao Dl;have c1:M.length<=17000:=(by have:=Ib.out;omega);have c2:(N.map eU).length<=64:=(by rw[List.length_map];exact ap);have bB:Hid (M++N.map eU=mG l++(ab++N).map eU):=ah (by rw[HS.out];simp);have bE:Hid ((M++N.map eU).length<=257+64*(H+1)):=ah (by rw[lA'];have:=Ib.out;omega);generalize N.map eU=E at*;clear be bh ap;obtain⟨V,hV⟩:=eY' ((y-n)*((H:Int)+1));rw[hV]at hv am an al;have c3:i<=H:=Ud.out;go_wp2_with fail;refine am.out.mono ?_;rintro e w'⟨rfl,rfl⟩;go_wp2_with fail;refine an.out.mono ?_;rintro e w'⟨rfl,rfl⟩;go_wp2_with fail;have c4:=Uc.out;go_roundg (g2-1);exact⟨_,y,(J:Int)+1,b2,false,M++E,ab++N,ah (by rw[Ic.out];omega),rfl,rfl,rfl,rfl,rfl,bB,bz,bc.out,Dl,LY,X.1,X.2,by omega,ah (by rw[Ic.out];omega),ao.1,ao.2,ah (by rw[Ic.out];exact bE.out)⟩;omega
end Go.Proofs.YtlmkgaoakcjlnaaGreatDoor
