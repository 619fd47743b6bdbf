/- Part Bw01. -/
import Derived.Outline
import Derived.Test.YtljilcbobhmkgaaGreatDoorBw00
open Go.Proofs.Tryz
namespace Go.Proofs.YtljilcbobhmkgaaGreatDoor
set_option maxHeartbeats 25600000
set_option maxRecDepth 100000
open Go.RowKit
variable (t:TV)(T:ak)(c:Int)(w:World)
theorem Je:cW' 169 #[.int .i64 c] w (.bool (bn c)):=by
 go_enter func169,ntmps169;go_wp2
 all_goals(go_ret;refine⟨aO ?_,rfl⟩;(first|(simp[bn, *];done)|(rw[Bool.eq_iff_iff];simp[bn];omega)|(simp[bn, *];omega)))
theorem xI:cW' 105 #[.int .i64 c] w (.int .i64 (utfLen c)):=by
 cases a:bn c
 .have H:=ah a;clear a;go_enter func105,ntmps105;go_wp2_with(go_at_call 169;refine(Je _ _).mono ?_;rintro e w'⟨rfl,rfl⟩;rw[H.out])
  all_goals(go_ret;refine⟨aU ?_,rfl⟩;simp[utfLen,H.out])
 .have H:=ah a;clear a;go_enter func105,ntmps105;go_wp2_with(go_at_call 169;refine(Je _ _).mono ?_;rintro e w'⟨rfl,rfl⟩;rw[H.out])
  all_goals(go_ret;refine⟨aU ?_,rfl⟩;simp[utfLen,H.out];try omega)
theorem EJ:cW' 107 #[.int .i64 c] w (.bool (aX c)):=by
 go_enter func107,ntmps107;go_wp2
 all_goals(go_ret;refine⟨aO ?_,rfl⟩;(first|(simp[aX, *];done)|(rw[Bool.eq_iff_iff];simp[aX];omega)|(simp[aX, *];omega)))
theorem J9:cW' 108 #[.int .i64 c] w (.bool (dG c)):=by
 go_enter func108,ntmps108;go_wp2
 all_goals(go_ret;refine⟨aO ?_,rfl⟩;(first|(simp[dG, *];done)|(rw[Bool.eq_iff_iff];simp[dG];omega)|(simp[dG, *];omega)))
theorem XH:cW' 229 #[.int .i64 c] w (.bool (rE c)):=by
 go_enter func229,ntmps229;go_wp2
 all_goals(go_ret;refine⟨aO ?_,rfl⟩;(first|(simp[rE, *];done)|(rw[Bool.eq_iff_iff];simp[rE];omega)|(simp[rE, *];omega)))
theorem aD7:cW' 103 #[.int .i64 c] w (.bool (nameB c)):=by
 go_enter func103,ntmps103;go_wp2
 all_goals(go_ret;refine⟨aO ?_,rfl⟩;(first|(simp[nameB, *];done)|(rw[Bool.eq_iff_iff];simp[nameB];omega)|(simp[nameB, *];omega)))
theorem Ik:cW' 168 #[.int .i64 c] w (.bool (fE c)):=by
 have H:Hid (fE c=(decide (0<=c)&&decide (c<=127)||rE c||aX c||dG c)):=rfl;go_enter func168,ntmps168
 go_wp2_with(first
  |(go_at_call 229;refine(XH _ _).mono ?_;rintro e w'⟨rfl,rfl⟩;cases a:rE c)
  |(go_at_call 107;refine(EJ _ _).mono ?_;rintro e w'⟨rfl,rfl⟩;cases b:aX c)
  |(go_at_call 108;refine(J9 _ _).mono ?_;rintro e w'⟨rfl,rfl⟩;cases d:dG c))
 all_goals(go_ret;refine⟨aO ?_,rfl⟩;rw[H.out];(first|(simp[*];done)|(simp[*];omega)))
theorem OI(last c:Int)(w:World):cW' 102 #[.int .i64 last,.int .i64 c] w (.bool (vU last c)):=by
 have H:Hid (vU last c=(decide (last<c)&&decide (c<=1114111)&& !fE c)):=rfl;go_enter func102,ntmps102;go_wp2_with(go_at_call 168;refine(Ik _ _).mono ?_;rintro e w'⟨rfl,rfl⟩;cases a:fE c)
 all_goals(go_ret;refine⟨aO ?_,rfl⟩;rw[H.out];(first|(simp[*];done)|(simp[*];omega)))
theorem Yb(A:Option Addr)(n c:Nat)(l:List Sp)(f g:Int)(w:World)(h:bK w ⟨A,n,c⟩ l):
 cE' 100 #[.slice A n c,.int .i64 f,.int .i64 g] w (.bool (kN f g l)):=by
 obtain⟨p,q,r⟩:=h.len;subst p;go_enter func100,ntmps100;go_wp2;go_loopw[7,12] (λs i wr=>∃(k:Nat)(last:Int),k<=l.length/\i=.int .i64 k/\s=.int .i64 last/\Hid (kN f g l=(chain f g last (l.drop k)&&decide ((l.length:Int)<=256)))/\Ext w wr) (λ_ i _=>l.length-(intOf i).toNat);exact⟨0,-1,zl' _,rfl,rfl,rfl,eR'⟩;obtain⟨k,last,D,rfl,rfl,j,d⟩:=hrel;by_cases a:k<l.length
 .obtain⟨b,o,t,y,z,B⟩:=(bK.ext h d).at_ a;subst t;have m:=ah (drop_at l k a);generalize l[k]=x at*;obtain⟨E,C,F⟩:=x;simp only at y z B;go_wp2
  all_goals first
   |(go_ret;exact⟨aO (by rw[j.out,m.out,aEj (by simp only;omega)];rfl),d.ay _⟩)
   |(go_roundw
     case rel=>exact⟨k+1,C,by omega,by go_num,rfl,aI j (by rw[m.out,P8 (by simp only;omega)]),d.ay _⟩
     case measure=>simp[intOf];omega)
 .go_wp2;go_ret;exact⟨aO (by rw[j.out,bM l k (by omega)];simp[chain]),d⟩
theorem Y8(a d val:Int)(w:World)(H:Glob w):
 cE' 101 #[.agg #[.int .i64 a,.int .i64 d,.int .i64 val]] w (.bool (outsideB ⟨a,d,val⟩)):=by
 obtain⟨A,n,c,p,g⟩:=H;have s:=aY (w':=w.alloc (.cells #[.int .i64 a,.int .i64 d,.int .i64 val] 73)) (bg ((Ext.refl w).ay _)) p;have t:Hid (outsideB ⟨a,d,val⟩=pV a d vT):=rfl;have h:vT.length=6:=rfl;generalize vT=l at*;obtain⟨y,z,B⟩:=g.len;subst y;have C:=ah h;clear h;go_enter func101,ntmps101;go_wp2;go_loopw[7] (λi wr=>∃(k:Nat),k<=l.length/\i=.int .i64 k/\Hid (outsideB ⟨a,d,val⟩=pV a d (l.drop k))/\Ext (w.alloc (.cells #[.int .i64 a,.int .i64 d,.int .i64 val] 73)) wr) (λi _=>l.length-(intOf i).toNat);exact⟨0,zl' _,rfl,t,eR'⟩;obtain⟨k,I,rfl,q,m⟩:=hrel;have f:Ext w wr:=((Ext.refl w).ay _).trans' m;obtain⟨J,K⟩:=wu m;by_cases j:k<l.length
 .obtain⟨b,o,D,E,F,G⟩:=(bK.ext g f).at_ j;subst D;have r:=ah (drop_at l k j);generalize l[k]=x at*;obtain⟨L,M,N⟩:=x;simp only at E F G;have O:w.heap.size<wr.heap.size:=by have:=m.b.size;simp at this;omega
  go_wp2
  all_goals first
   |(go_ret;exact⟨aO (by rw[q.out,r.out,zZ (by simp only;omega)]),f.ay _⟩)
   |(go_roundw
     case rel=>exact⟨k+1,by omega,by go_num,aI q (by rw[r.out,zW (by simp only;omega)]),m.ay _⟩
     case measure=>simp[intOf];omega)
 .go_wp2;go_ret;exact⟨aO (by rw[q.out,bM l k (by omega)];simp[pV]),f⟩
theorem IG(f:FuncId)(d:Array Value)(n:Nat)(p:Nat->Bool)(w:World)(F:n<=4611686018427387904)
 (q:∀args w,(callFunc f args).run prog w=.ok (.enter f args) w)
 (t:∀i,i<n->∀w',Ext w w'->cE' f (#[.int .i64 i]++d) w' (.bool (p i))):
 Calls prog 172 #[.int .i64 n,.func (.func f) #[] d] w λe w'=>∃i:Nat,e=.returned (.int .i64 i)/\i<=n/\(i<n->p i=true)/\(0<i->p (i-1)=false)/\Ext w w':=by
 have x:=ah t;clear t;go_enter func172,ntmps172;go_wp2;go_loopw[5,6] (λa b wr=>∃(i j:Nat),i<=j/\j<=n/\a=.int .i64 i/\b=.int .i64 j/\Hid (j<n->p j=true)/\Hid (0<i->p (i-1)=false)/\Ext w wr) (λa b _=>(intOf b).toNat-(intOf a).toNat);exact⟨0,n,zl' _,lr' _,rfl,rfl,λh=>absurd h (by omega),λh=>absurd h (by omega),eR'⟩;obtain⟨i,j,y,z,rfl,rfl,r,s,k⟩:=hrel;by_cases A:i<j
 .go_wp2;obtain⟨m,B⟩:∃m:Nat,m=(i+j) / 2:=⟨_,rfl⟩;rw[show((i:Int)+j) / 2=(m:Int)from by omega];have C:i<=m:=by omega
  have D:m<j:=by omega
  clear B;refine(x.out m (by omega) wr k).mono ?_;rintro e E⟨rfl,l⟩;have g:=k.trans' l;cases c:p m
  .have o:=ah c;clear c;go_wp2;go_roundw;exact⟨m+1,j,by omega,z,by go_num,rfl,r,λ_=>by simpa using o.out,g⟩;simp[intOf];omega
  .have o:=ah c;clear c;go_wp2;go_roundw;exact⟨i,m,by omega,by omega,rfl,rfl,λ_=>o.out,s,g⟩;simp[intOf];omega
 .go_wp2;go_ret;exact⟨i,rfl,by omega,λh=>r.out (by omega)▸(by rw[show i=j from by omega]),s.out,k⟩
theorem YV(l:List Sp)(A:Option Addr)(n a:Nat)(i:Nat)(c:Int)(d f:Addr)(w:World)(r:i<l.length)
 (s:w.cell? d=some (.slice A n a)) (t:w.cell? f=some (.int .i64 c)) (g:bK w ⟨A,n,a⟩ l):
 cE' 277 (#[.int .i64 i]++ #[.pointer (some d),.pointer (some f)]) w (.bool (decide (c<=l[i].hi))):=by
 obtain⟨h,j,k⟩:=g.len;subst h;obtain⟨b,o,m,x,y,B⟩:=g.at_ r;subst m;have p:=z0' i;have q:(i:Int)<(l.length:Int):=by omega
 generalize l[i].hi=z at*;go_enter func277,ntmps277;go_wp2;go_quiet (fail);go_wp2;go_ret;exact⟨rfl,eR'.lJ _⟩
theorem F5(l:List Sp)(A:Option Addr)(n f:Nat)(c:Int)(w:World)(t:bK w ⟨A,n,f⟩ l)(g:wL l)(y:l.length<=256):
 cE' 231 #[.slice A n f,.int .i64 c] w (.int .i64 (fC l c)):=by
 obtain⟨z,B,C⟩:=t.len;subst z;go_enter func231,ntmps231;go_wp2_with fail;refine(IG 277 _ l.length (λi=>decide (c<=(l.getD i ⟨0,0,0⟩).hi)) _ (by omega) Tryz.call277 ?_).mono ?_
 .intro i p w' j;have a:Ext w w':=(((Ext.refl w).ay _).ay _).trans' j;rw[getD_lt l i _ p];exact YV l A l.length f i c _ _ w' p (aY (bg j) (JU _ _ _ _)) (aY (bg j) (JV _ _ _ _)) (t.ext a)
 .rintro e D⟨i,rfl,p,q,r,j⟩;have a:Ext w D:=(((Ext.refl w).ay _).ay _).trans' j;have s:=ah (XZ g (c:=c) p (λh=>by have k:=q h;simp only[getD_lt l i _ h]at k;simpa using k) (λh=>by have k:=r h;simp only[getD_lt l (i-1) _ (by omega)]at k;simpa using k));obtain⟨J,K⟩:=wu j.b;clear q r;by_cases d:i<l.length
  .have E:((i:Int)==(l.length:Int))=false:=bF';obtain⟨b,o,F,r,q,G⟩:=(t.ext a).at_ d;subst F;have m:Hid (fC l c=if c<l[i].lo then 0 else l[i].val):=(by have h:=s.out;rw[dif_pos d]at h;exact h);clear s;have H:=z0' i;have I:(i:Int)<(l.length:Int):=(by omega);generalize l[i]=x at*;obtain⟨L,M,N⟩:=x;simp only at r q G m;go_wp2;go_quiet (fail);go_wp2
   .go_ret;exact⟨aU (by rw[m.out,pP' (by assumption)]),a.lJ _⟩
   .go_ret;exact⟨aU (by rw[m.out,nN' (by omega)]),a.lJ _⟩
  .obtain rfl:i=l.length:=by omega
   have m:Hid (fC l c=0):=(by have h:=s.out;rw[dif_neg d]at h;exact h);clear s;go_wp2;go_quiet (fail);go_wp2;go_ret;exact⟨aU (by rw[m.out]),a.lJ _⟩
theorem Zl(l:List Mp)(A:Option Addr)(n a:Nat)(i:Nat)(c:Int)(d f:Addr)(w:World)(t:i<l.length)
 (x:w.cell? d=some (.slice A n a)) (y:w.cell? f=some (.int .i64 c)) (g:dh w ⟨A,n,a⟩ l):
 cE' 173 (#[.int .i64 i]++ #[.pointer (some d),.pointer (some f)]) w (.bool (decide (c<=l[i].lo))):=by
 obtain⟨h,j,k⟩:=g.len;subst h;obtain⟨b,o,B,C,D,m,E,p,q⟩:=g.at_ t;subst m;have r:=z0' i;have s:(i:Int)<(l.length:Int):=by omega
 clear p q;generalize l[i].lo=z at*;go_enter func173,ntmps173;go_wp2;go_quiet (fail);go_wp2;go_ret;exact⟨rfl,eR'.lJ _⟩
theorem IY{l:List Mp}{c:Int}(h:uK l c=false):∀i(hi:i<l.length),l[i].lo≠c:=by
 intro i hi a;simp only[uK,List.any_eq_false,au]at h;exact h l[i] (by simp) a
theorem PW(l:List Mp)(A:Option Addr)(n k:Nat)(c:Int)(w:World)(B:Option Addr)(C D:Nat)(E:dh w ⟨A,n,k⟩ l)(m:vO l)(G:l.length<=256)
 (H:∀i b o(hi:i<l.length),A=some ⟨b,o,none⟩->l[i].lo=c->w.cell? ⟨b,o+i*2+1,none⟩=some (.slice B C D))
 (r:(∀i(hi:i<l.length),l[i].lo≠c)->B=none/\C=0/\D=0):
 cE' 110 #[.slice A n k,.int .i64 c] w (.slice B C D):=by
 obtain⟨I,J,K⟩:=E.len;subst I;have x:=ah H;have d:=ah r;clear H r;go_enter func110,ntmps110;go_wp2_with fail;refine(IG 173 _ l.length (λi=>decide (c<=(l.getD i ⟨0,[]⟩).lo)) _ (by omega) Tryz.call173 ?_).mono ?_
 .intro i hi w' p;have a:Ext w w':=(((Ext.refl w).ay _).ay _).trans' p;rw[getD_lt l i _ hi];exact Zl l A l.length k i c _ _ w' hi (aY (bg p) (JU _ _ _ _)) (aY (bg p) (JV _ _ _ _)) (E.ext a)
 .rintro e L⟨i,rfl,hi,s,y,p⟩;have a:Ext w L:=(((Ext.refl w).ay _).ay _).trans' p;have t:=ah (XU m (c:=c) hi (λh=>by have q:=s h;simp only[getD_lt l i _ h]at q;simpa using q) (λh=>by have q:=y h;simp only[getD_lt l (i-1) _ (by omega)]at q;simpa using q)).2;obtain⟨U,V⟩:=wu p.b;clear s y;by_cases f:i<l.length
  .have M:((i:Int)==(l.length:Int))=false:=bF';obtain⟨b,o,W,X,Y,F,y,s,N⟩:=(E.ext a).at_ f;have g:=ah λh=>aY (bg a) (x.out i b o f F h)
   subst F;have z:Hid (uK l c=decide (l[i].lo=c)):=(by have h:=t.out;rw[dif_pos f]at h;exact h);clear t x N;have O:=z0' i;have P:(i:Int)<(l.length:Int):=(by omega);generalize l[i].lo=xl at*;by_cases j:xl=c
   .subst j;have e:=s.symm.trans (g.out rfl);injection e with e;injection e with Q R S;subst Q R S;clear g z d;go_wp2;go_quiet (fail);go_wp2;go_ret;exact⟨rfl,a.lJ _⟩
   .obtain⟨rfl,rfl,rfl⟩:=d.out (IY (by rw[z.out];simpa using j));have T:(xl != c)=true:=bN' j;clear g z d;go_wp2;go_quiet (fail);go_wp2;go_ret;exact⟨rfl,a.lJ _⟩
  .obtain rfl:i=l.length:=by omega
   obtain⟨rfl,rfl,rfl⟩:=d.out (IY (by have h:=t.out;rw[dif_neg f]at h;exact h));clear t x d;go_wp2;go_quiet (fail);go_wp2;go_ret;exact⟨rfl,a.lJ _⟩
theorem Ae(l:List Mp)(A:Option Addr)(n f:Nat)(c:Int)(w:World)(B:dh w ⟨A,n,f⟩ l)(a:vO l)(g:l.length<=256):
 ∃za zn zc,aC w ⟨za,zn,zc⟩ (aJ l c)/\(uK l c=false->za=none/\zn=0/\zc=0)/\
  ∀w',Ext w w'->cE' 110 #[.slice A n f,.int .i64 c] w' (.slice za zn zc):=by
 cases x:uK l c
 .have C:=IY x;have D:aJ l c=[]:=Bg λs y=>by
   obtain⟨j,k,rfl⟩:=List.getElem_of_mem y;exact C j k
  refine⟨none,0,0,by rw[D];exact aC.nil_ w,λ_=>⟨rfl,rfl,rfl⟩,λw' t=>?_⟩;exact PW l A n f c w' none 0 0 (B.ext t) a g (λi b o p _ h=>absurd h (C i p)) λ_=>⟨rfl,rfl,rfl⟩
 .simp only[uK,List.any_eq_true,au]at x;obtain⟨m,y,q⟩:=x;obtain⟨i,p,rfl⟩:=List.getElem_of_mem y;obtain⟨b,o,za,zn,zc,E,K,F,G⟩:=B.at_ p;have t:∀j(k:j<i),l[j].lo<c:=λj k=>by have:=a j i k p;omega
  refine⟨za,zn,zc,by rw[Fb i p q t];exact G,(λh=>by cases h),λw' r=>?_⟩;refine PW l A n f c w' za zn zc (B.ext r) a g (λj L M k d H=>?_) λz=>absurd q (z i p)
  obtain rfl:j=i:=by
   rcases Nat.lt_trichotomy j i with h|h|h
   .have:=t j h;omega
   .exact h
   .have:=a i j h k;omega
  rw[E]at d;injection d with d;injection d with I J;subst I J;exact aY (bg r) F
theorem find_spec(l:List Mp)(A:Option Addr)(n a:Nat)(c:Int)(w:World)(k:dh w ⟨A,n,a⟩ l)(b:vO l)(f:Au l)(d:l.length<=256):
 Calls prog 110 #[.slice A n a,.int .i64 c] w λe w'=>∃za zn zc,e=.returned (.slice za zn zc)/\aC w' ⟨za,zn,zc⟩ (aJ l c)/\(aJ l c=[]->za=none/\zc=0)/\Ext w w':=by
 obtain⟨za,zn,zc,g,i,j⟩:=Ae l A n a c w k b d;refine(j w (Ext.refl w)).mono λe w'⟨he,hb⟩=>⟨za,zn,zc,he,g.ext hb,λh=>?_,hb⟩
 have:=i (Bv f h);exact⟨this.1,this.2.2⟩
theorem zU{w:World}{a:Option Addr}{d c:Nat}{l:List Int}(h:aC w ⟨a,d,c⟩ l)(k:l=[]->a=none/\c=0):
 (l=[]/\a=none/\d=0/\c=0)\/∃b o,l≠[]/\a=some ⟨b,o,none⟩:=by
 cases l with
 |nil=>
  obtain⟨f,g⟩:=k rfl;exact .inl ⟨rfl,f,h.len.1,g⟩
 |cons x r=>
  obtain⟨b,o,j,_⟩:=h.at_ (i:=0) (by simp);exact .inr ⟨b,o,by simp,j⟩
theorem Xg(l:List Int)(A:Option Addr)(n a:Nat)(i:Nat)(c:Int)(d f:Addr)(w:World)(r:i<l.length)
 (s:w.cell? d=some (.slice A n a)) (t:w.cell? f=some (.int .i64 c)) (g:aC w ⟨A,n,a⟩ l):
 cE' 278 (#[.int .i64 i]++ #[.pointer (some d),.pointer (some f)]) w (.bool (decide (c<=l[i]))):=by
 obtain⟨h,j,k⟩:=g.len;subst h;obtain⟨b,o,m,x⟩:=g.at_ r;subst m;have p:=z0' i;have q:(i:Int)<(l.length:Int):=by omega
 generalize l[i]=z at*;go_enter func278,ntmps278;go_wp2;go_quiet (fail);go_wp2;go_ret;exact⟨rfl,eR'.lJ _⟩
theorem Xq(l:List Int)(A:Option Addr)(n b:Nat)(c:Int)(w:World)(m:aC w ⟨A,n,b⟩ l)(o:l.length<=256):
 Calls prog 232 #[.slice A n b,.int .i64 c] w λe w'=>∃i:Nat,e=.returned (.int .i64 i)/\i<=l.length/\(∀h:i<l.length,c<=l[i])/\(∀_:0<i,∀_:i-1<l.length,l[i-1]<c)/\Ext w w':=by
 obtain⟨p,q,r⟩:=m.len;subst p;go_enter func232,ntmps232;go_wp2_with fail;refine(IG 278 _ l.length (λi=>decide (c<=l.getD i 0)) _ (by omega) Tryz.call278 ?_).mono ?_
 .intro i g w' d;have a:Ext w w':=(((Ext.refl w).ay _).ay _).trans' d;rw[getD_lt l i _ g];exact Xg l A l.length b i c _ _ w' g (aY (bg d) (JU _ _ _ _)) (aY (bg d) (JV _ _ _ _)) (m.ext a)
 .rintro e s⟨i,rfl,g,j,k,d⟩;have a:Ext w s:=(((Ext.refl w).ay _).ay _).trans' d;have t:Hid (∀h:i<l.length,c<=l[i]):=λh=>by have f:=j h;simp only[getD_lt l i _ h]at f;simpa using f
  have x:Hid (∀_:0<i,∀_:i-1<l.length,l[i-1]<c):=λh y=>by have f:=k h;simp only[getD_lt l (i-1) _ y]at f;simpa using f
  clear j k;go_wp2;go_ret;exact⟨i,rfl,g,t.out,x.out,a⟩
theorem XP(c:Int)(w:World)(ht:aS w t T)(f:Fh T.exc)(g:T.exc.length<=256):
 cE' 174 #[t.v,.int .i64 c] w (.bool (jw T.exc c)):=by
 obtain⟨I,J,K,L,M,N,O,P,Q,R,⟨A,n,s⟩,x⟩:=t;have j:aC w ⟨A,n,s⟩ T.exc:=ht.exc;clear ht;generalize T.exc=l at*;obtain⟨y,B,C⟩:=j.len;subst y;simp only[TV.v];go_enter func174,ntmps174;go_wp2_with fail;refine(Xq l _ _ _ c _ (j.ext ((Ext.refl w).ay _)) g).mono ?_;rintro e D⟨i,rfl,E,p,q,r⟩;have a:Ext w D:=((Ext.refl w).ay _).trans' r;have k:=ah (Y4 f E p λh=>q h (by omega));clear p q;obtain⟨S,U⟩:=wu r.b;by_cases d:i<l.length
 .obtain⟨b,o,F,j⟩:=(j.ext a).at_ d;subst F;have G:=z0' i;have H:(i:Int)<(l.length:Int):=by omega
  have m:Hid (jw l c=decide (l[i]=c)):=by have h:=k.out;rw[dif_pos d]at h;exact h
  clear k;generalize l[i]=z at*;go_wp2;go_ret;exact⟨aO (by rw[m.out,Bool.eq_iff_iff];simp),a⟩
 .obtain rfl:i=l.length:=by omega
  have m:Hid (jw l c=false):=by have h:=k.out;rw[dif_neg d]at h;exact h
  clear k;go_wp2;go_ret;exact⟨aO (by rw[m.out]),a⟩
def Gu(c:Int):Value:=.agg #[.int .i64 (qo c),.int .i64 (oH c),.int .i64 (uG c),.int .i64 (qY c)]
theorem Zm:cE' 230 #[.int .i64 c] w (Gu c):=by
 go_enter func230,ntmps230
 go_wp2_with(first
  |(go_at_call 107;refine(EJ _ _).mono ?_;rintro e w'⟨rfl,rfl⟩;cases a:aX c)
  |(go_at_call 108;refine(J9 _ _).mono ?_;rintro e w'⟨rfl,rfl⟩;cases b:dG c))
 all_goals(refine bodyPost_ret (v:=Gu c) ?_ rfl ⟨rfl,?_⟩)
 all_goals first
  |(refine Ext.ay eR' _)
  |(simp[results,Tryz.results230,go_sem,Gu]
    try(simp only[bq',aH,ne_eq]at*)
    unfold qo oH uG qY
    first
     |omega
     |(repeat(first|rw[pP' (by first|omega|assumption)]|rw[nN' (by first|omega|(simp[*];done))])
       simp))
theorem Yi(a b c d:Int)(w:World):cE' 337 #[.agg #[.int .i64 a,.int .i64 b,.int .i64 c,.int .i64 d]] w (.int .i64 c):=by
 go_enter func337,ntmps337;go_wp2;go_ret;exact⟨rfl,(Ext.refl w).ay _⟩
theorem Yn(a b c d:Int)(w:World):cE' 171 #[.agg #[.int .i64 a,.int .i64 b,.int .i64 c,.int .i64 d]] w (.int .i64 d):=by
 go_enter func171,ntmps171;go_wp2;go_ret;exact⟨rfl,(Ext.refl w).ay _⟩
theorem FD(f:FuncId)(own:Int->Int)(l:List Sp)(A:Option Addr)(n i:Nat)(c:Int)(w:World)(k:bK w ⟨A,n,i⟩ l)(d:wL l)(j:l.length<=256)
 (q:∀args w,(callFunc f args).run prog w=.ok (.enter f args) w)
 (b:∀w,cE' f #[Gu c] w (.int .i64 (own c))):
 cE' 170 #[.slice A n i,.int .i64 c,.func (.func f) #[] #[]] w (.int .i64 (mO l own c)):=by
 have t:=ah b;clear b;cases r:utfLen c==0
 .have a:bn c=true:=by
   cases k:bn c
   .have:=(utfLen_eq_zero c).2 k;simp[this]at r
   .rfl
  cases g:fE c
  .have h:Hid (mO l own c=fC l c):=by unfold mO;rw[a,g];rfl
   have m:=ah g;clear g a;go_enter func170,ntmps170
   go_wp2_with(first
    |(go_at_call 105;refine(xI _ _).mono ?_;rintro e w'⟨rfl,rfl⟩)
    |(go_at_call 168;refine(Ik _ _).mono ?_;rintro e w'⟨rfl,rfl⟩;rw[m.out])
    |(go_at_call 231;refine(F5 l _ _ _ _ _ k d j).mono ?_;rintro e s⟨rfl,o⟩))
   go_ret;exact⟨aU (by rw[h.out]),o⟩
  .have h:Hid (mO l own c=own c):=by unfold mO;rw[a,g];rfl
   have m:=ah g;clear g a;go_enter func170,ntmps170
   go_wp2_with(first
    |(go_at_call 105;refine(xI _ _).mono ?_;rintro e w'⟨rfl,rfl⟩)
    |(go_at_call 168;refine(Ik _ _).mono ?_;rintro e w'⟨rfl,rfl⟩;rw[m.out])
    |(go_at_call 230;refine(Zm _ _).mono ?_;rintro e s⟨rfl,o⟩))
   refine(t.out s).mono ?_;rintro e x⟨rfl,p⟩;go_wp2;go_ret;exact⟨aU (by rw[h.out]),o.trans' p⟩
 .have h:Hid (mO l own c=0):=by
   have:=(utfLen_eq_zero c).1 (by simpa using r);unfold mO;rw[this];rfl
  go_enter func170,ntmps170
  go_wp2_with(first
   |(go_at_call 105;refine(xI _ _).mono ?_;rintro e w'⟨rfl,rfl⟩))
  go_ret;exact⟨aU (by rw[h.out]),eR'⟩
structure fP(T:ak):Prop where
 cat:wL T.cat/\T.cat.length<=256
 cls:wL T.cls/\T.cls.length<=256
 dD:wL T.dD/\T.dD.length<=256
 bT:wL T.bT/\T.bT.length<=256
 scr:wL T.scr/\T.scr.length<=256
 aW:wL T.aW/\T.aW.length<=256
 bJ:wL T.bJ/\T.bJ.length<=256
 ext:vO T.ext/\T.ext.length<=256
 mps:vO T.mps/\T.mps.length<=256
 dec:vO T.dec/\T.dec.length<=256
 exc:Fh T.exc/\T.exc.length<=256
 eG:vO T.eG/\T.eG.length<=256
structure nC(T:ak):Prop where
 ext:Au T.ext
 mps:Au T.mps
 dec:Au T.dec
 eG:Au T.eG
theorem iI(c:Int)(w:World)(ht:aS w t T)(a:fP T):
 cE' 175 #[t.v,.int .i64 c] w (.int .i64 (aG T c)):=by
 have b:=ht.cls.ext ((Ext.refl w).ay (.cells t.v.cells 26));go_enter func175,ntmps175;go_wp2_with(go_at_call 231;refine(F5 T.cls _ _ _ _ _ b a.cls.1 a.cls.2).mono ?_;rintro e f⟨rfl,d⟩);go_ret;exact⟨rfl,((Ext.refl w).ay _).trans' d⟩
theorem Iu(c:Int)(w:World)(ht:aS w t T)(a:fP T):
 cE' 336 #[t.v,.int .i64 c] w (.int .i64 (jQ T c)):=by
 have b:=ht.dD.ext ((Ext.refl w).ay (.cells t.v.cells 26));go_enter func336,ntmps336;go_wp2_with(go_at_call 231;refine(F5 T.dD _ _ _ _ _ b a.dD.1 a.dD.2).mono ?_;rintro e f⟨rfl,d⟩);go_ret;exact⟨rfl,((Ext.refl w).ay _).trans' d⟩
theorem OB(c:Int)(w:World)(ht:aS w t T)(a:fP T):
 cE' 177 #[t.v,.int .i64 c] w (.bool (ug T c)):=by
 have b:=ht.bJ.ext ((Ext.refl w).ay (.cells t.v.cells 26));go_enter func177,ntmps177;go_wp2_with(go_at_call 231;refine(F5 T.bJ _ _ _ _ _ b a.bJ.1 a.bJ.2).mono ?_;rintro e f⟨rfl,d⟩);go_ret;exact⟨rfl,((Ext.refl w).ay _).trans' d⟩
theorem F6(c:Int)(w:World)(ht:aS w t T)(a:fP T):
 cE' 106 #[t.v,.int .i64 c] w (.int .i64 (dY T c)):=by
 have b:=ht.aW.ext ((Ext.refl w).ay (.cells t.v.cells 26));go_enter func106,ntmps106;go_wp2_with(go_at_call 170;refine(FD 171 qY T.aW _ _ _ _ _ b a.aW.1 a.aW.2 Tryz.call171 (λ_=>Yn _ _ _ _ _)).mono ?_;rintro e f⟨rfl,d⟩);go_ret;exact⟨rfl,((Ext.refl w).ay _).trans' d⟩
theorem EP(c:Int)(w:World)(ht:aS w t T)(a:fP T):
 cE' 329 #[t.v,.int .i64 c] w (.int .i64 (iY T c)):=by
 have b:=ht.scr.ext ((Ext.refl w).ay (.cells t.v.cells 26));go_enter func329,ntmps329;go_wp2_with(go_at_call 170;refine(FD 337 uG T.scr _ _ _ _ _ b a.scr.1 a.scr.2 Tryz.call337 (λ_=>Yi _ _ _ _ _)).mono ?_;rintro e f⟨rfl,d⟩);go_ret;exact⟨rfl,((Ext.refl w).ay _).trans' d⟩
theorem OH(c:Int)(w:World)(ht:aS w t T)(l:fP T)(q:nC T):
 cE' 112 #[t.v,.int .i64 c] w (.bool (qU T c)):=by
 have n:=ht.dec.ext ((Ext.refl w).ay (.cells t.v.cells 26));have h:Hid (qU T c=((aJ T.dec c).isEmpty&& !ug T c)):=rfl;go_enter func112,ntmps112;go_wp2_with fail;refine(find_spec T.dec _ _ _ c _ n l.dec.1 q.dec l.dec.2).mono ?_;rintro e p⟨r,s,x,rfl,i,a,m⟩;have d:Ext w p:=((Ext.refl w).ay _).trans' m;obtain⟨y,z⟩:=wu m.b;rcases zU i a with⟨f,rfl,rfl,rfl⟩|⟨b,o,f,rfl⟩
 .have g:Hid (aJ T.dec c=[]):=f;clear f i a;go_wp2_with fail;refine(OB t T c _ (ht.aB d) l).mono ?_;rintro e A⟨rfl,j⟩;have k:Hid (qU T c= !ug T c):=by rw[h.out,g.out];rfl
  clear h g;go_wp2;go_ret;exact⟨aO (by rw[k.out]),d.trans' j⟩
 .have g:Hid (aJ T.dec c≠[]):=f;clear f i a;have k:Hid (qU T c=false):=by
   rw[h.out];have:(aJ T.dec c).isEmpty=false:=by simpa using g.out
   rw[this];rfl
  clear h g;go_wp2;go_ret;exact⟨aO (by rw[k.out]),d⟩
def hide(M:List Nat)(w:World):World:= {w with heap:=w.heap.mapIdx λi o=>if i∈M then .pending #[] 0 else o}
theorem Ip(M:List Nat)(w:World):(hide M w).heap.size=w.heap.size:=by simp[hide]
theorem qL(M:List Nat)(w:World)(p:Addr):(hide M w).cell? p=if p.block∈M then none else w.cell? p:=by
 unfold World.cell? hide;simp only[Array.getElem?_mapIdx];cases h:w.heap[p.block]? with
 |none=>simp
 |some o=>
  by_cases a:p.block∈M
  .simp[a]
  .simp[a]
structure Kp(M:List Nat)(w w':World):Prop where
 os:w'.os=w.os
 tape:w'.tape=w.tape
 output:w'.output=w.output
 size:w.heap.size<=w'.heap.size
 block:∀k,k<w.heap.size->k∉M->w'.heap[k]? =w.heap[k]?
theorem Kp.cell{M:List Nat}{w w':World}(h:Kp M w w'):∀p:Addr,p.block<w.heap.size->p.block∉M->w'.cell? p=w.cell? p:=λ_ a b=>World.cell?_of_block (h.block _ a b)
theorem Kp.frozen{M:List Nat}{w w':World}(h:Kp M w w'):∀p:Addr,p.block<w.heap.size->p.block∉M->w'.frozen? p=w.frozen? p:=λ_ a b=>World.frozen?_of_block (h.block _ a b)
theorem Kp.refl(M:List Nat)(w:World):Kp M w w:=⟨rfl,rfl,rfl,lr' _,λ_ _ _=>rfl⟩
theorem Kp.trans{M:List Nat}{a b c:World}(h:Kp M a b)(k:Kp M b c):Kp M a c:=
 ⟨k.os.trans h.os,k.tape.trans h.tape,k.output.trans h.output,Nat.le_trans h.size k.size,λp d f=>(k.block p (lt' d h.size) f).trans (h.block p d f)⟩
theorem Kp.mono{M M':List Nat}{w w':World}(h:Kp M w w')(f:∀b∈M,b∈M'\/w.heap.size<=b):Kp M' w w':=
 ⟨h.os,h.tape,h.output,h.size,λp a c=>h.block p a λd=>(f _ d).elim c (λh=>by omega)⟩
theorem Kp.dX{M:List Nat}{w w':World}(h:Ext w w'):Kp M w w':=⟨h.b.os,h.b.tape,h.b.output,h.b.size,λ_ a _=>h.b.block _ a⟩
theorem Kp.pJ{M:List Nat}{w w':World}{row:Option Nat}(h:w.grownBy w' row)(d:∀b,row=some b->b∈M):Kp M w w':=
 ⟨h.os,h.tape,h.output,h.size,λk a c=>h.block k a λe=>c (d _ e.symm)⟩
theorem Kp.setCell(M:List Nat)(w:World)(p:Addr)(v:Value)(c:p.block∈M):Kp M w (w.setCell p v):=by
 refine⟨rfl,rfl,rfl,by simp,λk _ b=>?_⟩;have a:p.block≠k:=λe=>b (e▸c)
 simp[World.setCell,Array.getElem?_modify,a]
theorem Own.kp{M:List Nat}{w w':World}{f n c:Nat}{e:TypeId}{size:Nat}{A:Option Addr}{o:List Value}(h:Own w f e size A n c o)(s:Kp M w w')(t:∀b,aF A=some b->b∉M):Own w' f e size A n c o:=by
 cases A with
 |none=>
  rcases h.2 with k|⟨g,i,j,d,_⟩
  .exact⟨h.1,.inl k⟩
  .cases d
 |some a=>
  have l:=(h.lt a.block rfl).2;have p:=s.block a.block l (t _ rfl);rcases h.2 with⟨d,_⟩|⟨g,i,j,d,q,k,r⟩
  .cases d
  .have m:a.block=g:=by injection d with d;injection d with d;rw[d]
   refine⟨h.1,.inr ⟨g,i,j,d,q,?_,r⟩⟩;rw[<- m,p,m];exact k
theorem yV{M M':List Nat}{w w':World}(h:Kp M w w')(f:∀b∈M,b∈M')(g:∀b∈M',b∈M\/w.heap.size<=b):∀p:Addr,p.block<(hide M w).heap.size->(hide M' w').cell? p=(hide M w).cell? p:=by
 intro p c;rw[Ip]at c;rw[qL,qL];by_cases a:p.block∈M
 .rw[pP' a,pP' (f _ a)]
 .rw[nN' a,nN' (λd=>(g _ d).elim a (λh=>by omega)),h.cell p c a]
theorem fU{M:List Nat}{w w':World}(h:Kp M w w'):∀p:Addr,p.block<(hide M w).heap.size->(hide M w').cell? p=(hide M w).cell? p:=yV h (λ_ h=>h) (λ_ h=>.inl h)
theorem vN{M:List Nat}{w:World}{p:Addr}{v:Value}(h:(hide M w).cell? p=some v):w.cell? p=some v:=by
 rw[qL]at h;by_cases a:p.block∈M
 .rw[pP' a]at h;cases h
 .rw[nN' a]at h;exact h
theorem aC.sub{w w':World}{s:SV}{l:List Int}(h:aC w s l)(f:∀p v,w.cell? p=some v->w'.cell? p=some v):aC w' s l:=
 ⟨h.1,λi x a=>by obtain⟨b,o,c,d⟩:=h.2 i x a;exact⟨b,o,c,f _ _ d⟩⟩
theorem bK.sub{w w':World}{s:SV}{l:List Sp}(h:bK w s l)(a:∀p v,w.cell? p=some v->w'.cell? p=some v):bK w' s l:=
 ⟨h.1,λi x c=>by obtain⟨b,o,d,f,g,j⟩:=h.2 i x c;exact⟨b,o,d,a _ _ f,a _ _ g,a _ _ j⟩⟩
theorem dh.sub{w w':World}{s:SV}{l:List Mp}(h:dh w s l)(a:∀p v,w.cell? p=some v->w'.cell? p=some v):dh w' s l:=
 ⟨h.1,λi x c=>by obtain⟨b,o,d,f,g,j,k,m,n⟩:=h.2 i x c;exact⟨b,o,d,f,g,j,a _ _ k,a _ _ m,n.sub a⟩⟩
def Bc(v n:Int):Int:=v % 18446744073709551616 % n
def dL(n:Int):List Int->Int
 |[]=>0
 |v::_=>Bc v n
theorem VZ(v:Int){n:Int}(h:0<n):0<=Bc v n/\Bc v n<n:=⟨Int.emod_nonneg _ (by omega),Int.emod_lt_of_pos _ h⟩
theorem vF(r:List Int){n:Int}(h:0<n):0<=dL n r/\dL n r<n:=by
 cases r with
 |nil=>exact⟨Int.le_refl 0,h⟩
 |cons v r=>exact VZ v h
theorem u64wrap(v:Int):IntKind.u64.wrap v=v % 18446744073709551616:=rfl
theorem aIU{v n:Int}(c:0<n)(d:n<=4611686018427387904):wrap64 ((IntKind.u64.wrap v).tmod n)=Bc v n:=by
 have a:0<=v % 18446744073709551616:=Int.emod_nonneg _ (by omega);have b:(v % 18446744073709551616).tmod n=Bc v n:=Int.tmod_eq_emod_of_nonneg a;rw[u64wrap,b];have:=VZ v c;unfold wrap64;omega
theorem dD'(v n:Int)(c:0<n)(a:n<=4611686018427387904)(w:World):
 cW' 17 #[.int .i64 v,.int .i64 n] w (.int .i64 (Bc v n)):=by
 have b:=ah (aIU (v:=v) c a);go_enter func17,ntmps17;go_wp2;go_ret;exact⟨aU b.out,rfl⟩
def Src(w0 w:World)(g:Nat)(r:List Int):Prop:=∃A n c L k,aC w0 ⟨A,n,c⟩ L/\w0.heap.size<=g/\w.cell? ⟨g,0,none⟩=some (.slice A n c)/\w.cell? ⟨g,1,none⟩=some (.int .i64 (k:Nat))/\w.frozen? ⟨g,1,none⟩=false/\k<=L.length/\r=L.drop k
theorem Src.kp{i w w':World}{g:Nat}{r:List Int}{M:List Nat}(h:Src i w g r)(b:Kp M w w')(d:g∉M):Src i w' g r:=by
 obtain⟨A,n,c,L,k,j,l,f,m,o,p,q⟩:=h;have a:=World.block_lt_of_cell? w _ f;exact⟨A,n,c,L,k,j,l,by rw[b.cell _ a d];exact f,by rw[b.cell ⟨g,1,none⟩ a d];exact m,by rw[b.frozen ⟨g,1,none⟩ a d];exact o,p,q⟩
theorem zQ'(l:List Int)(A:Option Addr)(n c:Nat)(w:World)(h:aC w ⟨A,n,c⟩ l):
 Calls prog 33 #[.slice A n c] w λe w'=>e=.returned (.pointer (some ⟨w.heap.size,0,none⟩))/\Src w w' w.heap.size l/\Ext w w':=by
 go_enter func33,ntmps33;go_wp2;go_ret;refine⟨rfl,⟨A,n,c,l,0,h,lr' _,?_,?_,?_,zl' _,rfl⟩,(Ext.refl w).ay _⟩
 .exact World.cell?_alloc_new w _ _ 0
 .exact World.cell?_alloc_new w _ _ 1
 .simp
theorem pI(j w:World)(g:Nat)(r:List Int)(m:Int)(hm:0<m)(F:m<=4611686018427387904)(hs:Src j w g r)(Q:Ext j w):
 Calls prog 34 #[.pointer (some ⟨g,0,none⟩),.int .i64 m] w λe w'=>e=.returned (.int .i64 (dL m r))/\Src j w' g r.tail/\Kp [g] w w'/\Ext j w':=by
 obtain⟨A,n,c,L,k,t,y,G,H,I,R,rfl⟩:=hs;obtain⟨S,_,_⟩:=t.len;subst S;have T:=z0' k;have J:=ah t;by_cases l:k<L.length
 .have z:=ah (drop_at L k l);obtain⟨b,o,U,K⟩:=t.at_ l;subst U;have V:=World.block_lt_of_cell? j _ K;generalize L[k]=x at*;have W:(k:Int)<(L.length:Int):=by omega
  have X:decide ((L.length:Int)<=(k:Int))=false:=dF';have B:decide (L.length<=k)=false:=dF';go_enter func34,ntmps34;go_wp2_with fail;go_region;go_wp2_with fail;obtain⟨d,a⟩:=eX' ((w.setCell ⟨g,1,none⟩ (.int .i64 ((k:Int)+1))).drew);rw[<- a];have f:Ext j d:=by rw[a];exact(Q.jP y _).dQ
  have C:Kp [g] w d:=by rw[a];exact Kp.trans (Kp.setCell _ _ _ _ (by simp)) (Kp.dX eR'.dQ)
  have Y:d.cell? ⟨g,0,none⟩=some (.slice (some ⟨b,o,none⟩) L.length c):=by rw[a];exact(World.cell?_setCell_other _ _ _ _ (by simp)).trans G
  have M:d.cell? ⟨g,1,none⟩=some (.int .i64 ((k:Int)+1)):=by rw[a];exact World.cell?_setCell_same _ _ _ H
  have Z:d.frozen? ⟨g,1,none⟩=false:=by rw[a];exact(World.frozen?_setCell _ _ _ _).trans I
  have cx:d.cell? ⟨b,o+k,none⟩=some (.int .i64 x):=aY (bg f) K;clear a;have N:∀q:aj d,q.w.cell? ⟨g,0,none⟩=some (.slice (some ⟨b,o,none⟩) L.length c):=bY Y;have O:∀q:aj d,q.w.cell? ⟨g,1,none⟩=some (.int .i64 ((k:Int)+1)):=bY M;have r2:∀q:aj d,q.w.cell? ⟨b,o+k,none⟩=some (.int .i64 x):=bY cx;have P:(k:Int)+1-1=(k:Int):=by omega
  refine rX' ?_
  repeat(go_big_quiet_step((go_at_call 17;exact iK (dD' x m hm F _))))
  refine wpQuiet_nil ?_;rintro _⟨i,rfl⟩;have D:Hid (dL m (L.drop k)=Bc x m):=ah (by rw[z.out];rfl);have E:Hid ((L.drop k).tail=L.drop (k+1)):=ah (by rw[z.out];rfl);have e0:=N i;have e1:=O i;have ef:i.w.frozen? ⟨g,1,none⟩=false:=by rw[i.h.b.frozen (p:=⟨g,1,none⟩) (World.block_lt_of_cell? d _ M)];exact Z
  clear N O r2 z;go_wp2;go_ret;exact⟨aU D.out.symm,⟨_,_,_,L,k+1,J.out,y,e0,by rw[e1];rfl,ef,by omega,E.out⟩,C.trans (Kp.dX i.h),f.trans' i.h⟩
 .have s:k=L.length:=by omega
  have X:decide ((L.length:Int)<=(k:Int))=true:=dT';have B:decide (L.length<=k)=true:=dT';go_enter func34,ntmps34;go_wp2_with fail;go_region;go_wp2_with fail;have D:Hid (dL m (L.drop k)=0):=ah (by rw[s,List.drop_length];rfl);have E:Hid ((L.drop k).tail=L.drop k):=ah (by rw[s,List.drop_length];rfl);go_ret;exact⟨aU D.out.symm,⟨_,_,_,L,k,J.out,y,G,H,I,R,E.out⟩,Kp.dX eR'.dQ,Q.dQ⟩
def gu:List Int:=[0xad,0xb7,0x301,0x308,0x323,0x345,0x375,0x3b1,0x3b2,0x3b3,0x430,0x5d0,0x5f3,0x628,0x629,0x660,0x6f0,0x94d,0x1e00,0x1e01,0x1e02,0x1e03,0x1e04,0x200c,0x200d,0x30fb,0x4e00,0x1f600]
structure Us where
 cat:Int
 cls:Int
 dD:Int
 bT:Int
 scr:Int
 aW:Int
deriving DecidableEq
def usV(c:Int):Us:=
 if(c==0xad||c==0x200c||c==0x200d)=true then⟨8,0,5,9,1,4⟩
 else if(c==0xb7||c==0x375||c==0x30fb)=true then⟨5,0,0,8,1,1⟩
 else if c=0x323 then⟨2,220,5,10,2,1⟩
 else if c=0x94d then⟨2,9,5,10,20,1⟩
 else if 0x301<=c/\c<=0x345 then⟨2,230,5,10,2,1⟩
 else if 0x3b1<=c/\c<=0x3b3 then⟨1,0,0,0,4,1⟩
 else if c=0x430 then⟨1,0,0,0,5,1⟩
 else if(c==0x5d0||c==0x5f3)=true then⟨1,0,0,1,11,1⟩
 else if(c==0x628||c==0x629)=true then⟨1,0,3,2,12,1⟩
 else if c=0x660 then⟨3,0,0,3,1,1⟩
 else if c=0x6f0 then⟨3,0,0,4,1,1⟩
 else if c=0x4e00 then⟨1,0,0,0,6,1⟩
 else if 0x1e00<=c/\c<=0x1e04 then⟨1,0,0,0,3,1⟩
 else⟨6,0,0,8,1,0⟩
abbrev Us.v(u:Us):Value:=.agg #[.int .i64 u.cat,.int .i64 u.cls,.int .i64 u.dD,.int .i64 u.bT,.int .i64 u.scr,.int .i64 u.aW]
theorem usual_spec(a:c∈gu)(w:World):Calls prog 36 #[.int .i64 c] w λe w'=>e=.returned (usV c).v/\Ext w w':=by
 simp only[gu,List.mem_cons,List.not_mem_nil,or_false]at a;rcases a with rfl|rfl|rfl|rfl|rfl|rfl|rfl|rfl|rfl|rfl|rfl|rfl|rfl|rfl|rfl|rfl|rfl|rfl|rfl|rfl|rfl|rfl|rfl|rfl|rfl|rfl|rfl|rfl
 all_goals
  go_enter func36,ntmps36;go_wp2_with fail;refine bodyPost_ret (v:=(usV _).v) ?_ rfl ⟨rfl,?_⟩
  .simp[results,Tryz.results36,go_sem];decide
  .exact(Ext.refl w).ay _
theorem uq(l:List Int)(t:TypeId)(h:l.length<=maxLen):aC (w.alloc (.cells (l.map (Value.int .i64)).toArray t)) ⟨some ⟨w.heap.size,0,none⟩,l.length,l.length⟩ l:=by
 refine⟨⟨rfl,lr' _,h⟩,λi x a=>⟨w.heap.size,0,rfl,?_⟩⟩;rw[Nat.zero_add,World.cell?_alloc_new];simp[a]
theorem aC.qP{w:World}{q o n c:Nat}{l:List Int}{M:List Nat}(h:aC w ⟨some ⟨q,o,none⟩,n,c⟩ l)(k:q∉M):aC (hide M w) ⟨some ⟨q,o,none⟩,n,c⟩ l:=by
 refine⟨h.1,λi x d=>?_⟩;obtain⟨b,f,a,g⟩:=h.2 i x d;refine⟨b,f,a,?_⟩;simp only[Option.some.injEq]at a;have j:q=b:=by injection a
 rw[qL,nN' (by rw[<- j];exact k)];exact g
theorem O7:Calls prog 35 #[] w λe w'=>e=.returned (.slice (some ⟨w.heap.size,0,none⟩) 28 28)/\aC w' ⟨some ⟨w.heap.size,0,none⟩,28,28⟩ gu/\Ext w w':=by
 go_enter func35,ntmps35;go_wp2;go_ret;exact⟨rfl,uq w gu _ (by decide),(Ext.refl w).ay _⟩
def fO(r:List Int)(vs:List Int):Int:=if 0<dL 3 r then vs.getD 0 0 else vs.getD (dL vs.length r.tail).toNat 0
def bD(r:List Int):List Int:=if 0<dL 3 r then r.tail else r.tail.tail
theorem choose_spec(j w:World)(g:Nat)(r vs:List Int)(A:Option Addr)(n c:Nat)(Y:Src j w g r)(Z:Ext j w)(H:aC (hide [g] w) ⟨A,n,c⟩ vs)(K:0<vs.length)(h1:vs.length<=1000):
 Calls prog 37 #[.pointer (some ⟨g,0,none⟩),.slice A n c] w λe w'=>e=.returned (.int .i64 (fO r vs))/\Src j w' g (bD r)/\Kp [g] w w'/\Ext j w':=by
 obtain⟨L,_,_⟩:=H.len;subst L;have M:=ah H;obtain⟨b,o,N,a⟩:=H.at_ K;subst N;simp only[Nat.add_zero]at a;have O:Hid (vs.getD 0 0=vs[0]):=getD_lt vs 0 0 K;generalize vs[0]=x at*;go_enter func37,ntmps37;go_wp2_with fail;refine(pI j w g r 3 (by decide) (by decide) Y Z).mono ?_;rintro e I⟨rfl,m,i,k⟩;have J:=ah m;by_cases f:0<dL 3 r
 .have P:decide (0<dL 3 r)=true:=by rw[au];exact f
  have p:Hid (fO r vs=x):=ah (by rw[fO,pP' f,O.out]);have s:Hid (bD r=r.tail):=ah (pP' f);have Q:I.cell? ⟨b,o,none⟩=some (.int .i64 x):=by
   rw[i.cell _ (by have:=World.block_lt_of_cell? _ _ a;rw[Ip]at this;exact this) (λt=>by rw[qL,pP' t]at a;cases a)];exact vN a
  clear f;go_wp2;go_ret;exact⟨aU p.out.symm,by rw[s.out];exact J.out,i,k⟩
 .have P:decide (0<dL 3 r)=false:=by rw[aA];exact f
  have z:=vF r.tail (n:=(vs.length:Int)) (by omega);obtain⟨q,B⟩:∃q:Nat,dL (vs.length:Int) r.tail=q:=⟨(dL (vs.length:Int) r.tail).toNat,by omega⟩;have l:q<vs.length:=by omega
  have p:Hid (fO r vs=vs[q]):=ah (by rw[fO,nN' f,B,Int.toNat_natCast];exact getD_lt vs q 0 l);have s:Hid (bD r=r.tail.tail):=ah (nN' f);obtain⟨b',o',C,d⟩:=M.out.at_ l;injection C with C;injection C with R S;subst R S;generalize vs[q]=y at*;have T:=ah B;have U:=z0' q;have V:(q:Int)<(vs.length:Int):=by omega
  clear f z B;go_wp2_with fail;refine(pI j I g r.tail vs.length (by omega) (by omega) J.out k).mono ?_;rintro e W⟨rfl,D,E,F⟩;rw[T.out];have G:=ah D;have h:=i.trans E;have X:W.cell? ⟨b,o+q,none⟩=some (.int .i64 y):=by
   rw[h.cell _ (by have:=World.block_lt_of_cell? _ _ d;rw[Ip]at this;exact this) (λt=>by rw[qL,pP' t]at d;cases d)];exact vN d
  go_wp2;go_ret;exact⟨aU p.out.symm,by rw[s.out];exact G.out,h,F⟩
def jA:List Int->List Int->Bool
 |[],[]=>true
 |x::r,y::s=>x==y&&jA r s
 |_,_=>false
theorem Fe:∀(l m:List Int),l.length≠m.length->jA l m=false
 |[],[],h=>absurd rfl h
 |[],_::_,_=>rfl
 |_::_,[],_=>rfl
 |x::r,y::s,h=>by
  simp only[jA,Fe r s (by simpa using h),Bool.and_false]
theorem W9:∀(l m:List Int),jA l m=true↔l=m
 |[],[]=>by simp[jA]
 |[],_::_=>by simp[jA]
 |_::_,[]=>by simp[jA]
 |x::r,y::s=>by simp[jA,W9 r s]
theorem Wh(l m:List Int)(A:Option Addr)(n c:Nat)(I:Option Addr)(J K:Nat)(w:World)(h:aC w ⟨A,n,c⟩ l)(L:aC w ⟨I,J,K⟩ m):
 cE' 32 #[.slice A n c,.slice I J K] w (.bool (jA l m)):=by
 obtain⟨M,_,_⟩:=h.len;obtain⟨t,_,_⟩:=L.len;subst M t;have N:=ah h;have O:=ah L;by_cases a:l.length=m.length
 .have P:((l.length:Int) != (m.length:Int))=false:=by rw[a];simp
  have D:=ah a;have Q:Hid ((m.length:Int)=(l.length:Int)):=ah (by rw[a]);clear a;go_enter func32,ntmps32;go_wp2;go_loopw[13] (λi wr=>∃(k:Nat),k<=l.length/\i=.int .i64 k/\Hid (jA l m=jA (l.drop k) (m.drop k))/\Ext w wr) (λi _=>l.length-(intOf i).toNat);exact⟨0,zl' _,rfl,rfl,eR'⟩;obtain⟨k,hk,rfl,r,f⟩:=hrel;by_cases j:k<l.length
  .have g:k<m.length:=by rw[<- D.out];exact j
   obtain⟨b,o,R,E⟩:=(N.out.ext f).at_ j;obtain⟨S,T,z,F⟩:=(O.out.ext f).at_ g;subst R z;have G:=ah (drop_at l k j);have H:=ah (drop_at m k g);generalize l[k]=x at*;generalize m[k]=y at*;have s:=aI r (show _=(x==y&&jA (l.drop (k+1)) (m.drop (k+1)))from by rw[G.out,H.out];rfl);clear r G H;have U:∀B:aj wr,B.w.cell? ⟨b,o+k,none⟩=some (.int .i64 x):=bY E;have V:∀B:aj wr,B.w.cell? ⟨S,T+k,none⟩=some (.int .i64 y):=bY F;have W:=z0' k;have X:(k:Int)<(l.length:Int):=(by omega);have Y:(k:Int)<(m.length:Int):=(by omega);go_wp2_with fail;refine rX' ?_
   repeat(go_big_quiet_step(fail))
   refine wpQuiet_nil ?_;rintro _⟨Z,rfl⟩;have q:=f.trans' Z.h;clear U V E F;by_cases d:x=y
   .have C:(x != y)=false:=(by rw[d];simp);have p:=aI s (show _=jA (l.drop (k+1)) (m.drop (k+1))from by rw[d];simp);clear s d;go_wp2;go_roundw;exact⟨k+1,by omega,by go_num,p,q⟩;simp[intOf];omega
   .have C:(x != y)=true:=bN' d;have p:=aI s (show _=false from by rw[beq_eq_false_iff_ne.2 d];rfl);clear s d;go_wp2;go_ret;exact⟨aO p.out.symm,q⟩
  .have p:=aI r (show _=true from by rw[bM l k (by omega),bM m k (by rw[<- D.out];omega)];rfl);clear r;go_wp2;go_ret;exact⟨aO p.out.symm,f⟩
 .have P:((l.length:Int) != (m.length:Int))=true:=by rw[bne_iff_ne];omega
  have p:=ah (Fe l m a);clear a;go_enter func32,ntmps32;go_wp2;go_ret;exact⟨aO p.out.symm,eR'⟩
structure KpW(M:List Nat)(w0:World) where
 w:World
 h:Kp M w0 w
instance (M:List Nat)(w0:World):Nonempty (KpW M w0):=⟨⟨w0,Kp.refl M w0⟩⟩
section
variable {P:Program}{ops:Array Oper}{Q:Exit→Act→World→Prop}
def wU(M:List Nat)(P:Program)(ops:Array Oper)(Q:Exit->Act->World->Prop):Nat->Array Bool->Act->World->Prop
 |0,listed,a,w=>Region.ready .any ops listed=[]/\Q .normal a w
 |fuel+1,listed,a,w=>(Region.ready .any ops listed=[]->Q .normal a w)/\
  ∀i∈Region.ready .any ops listed,wpOp P ops Q i (λa' w'=>Kp M w w'/\wU M P ops Q fuel (listed.setIfInBounds i true) a' w') a w
theorem Oq{M:List Nat}{Post:Act->World->Prop}(b:∀a w,Post a w->Q .normal a w):∀(fuel:Nat)(listed:Array Bool)(a:Act)(w:World),wU M P ops (kT Q Post) fuel listed a w->wpAny P .any ops Q fuel listed a w
 |0,_,_,_,h=>⟨h.1,b _ _ h.2⟩
 |fuel+1,_,_,_,h=>⟨λc=>b _ _ (h.1 c),λi d=>wpOp_mono (λf g j=>Oq b fuel _ f g j.2) (NR (h.2 i d))⟩
theorem Y0{M:List Nat}{o:Oper}{v:Value}{a:Act}{w w':World}(h:YieldsIf P ops (Kp M w) o v a)(c:Kp M w w'):YieldsIf P ops (Kp M w') o v a:=
 h.imp (λ⟨hw,hv⟩=>⟨hw,λx b=>hv x (c.trans b)⟩) id
theorem Yw{M:List Nat}{Post:Act->World->Prop}{i:Nat}{q:Oper}{v:Value}(G:ops[i]? =some q)(l:∀(j:Nat)(o:Oper)cs b,ops[j]? =some o->o.op≠ .select cs b):
 ∀(fuel:Nat)(listed:Array Bool)(a:Act)(w:World),
  (∀j oj,ops[j]? =some oj->j≠i->listed.getD j true=false->(∀e∈oj.after,Region.binds .any e=true->e.on≠i)->q.apart ops oj=true)->
  i∈Region.ready .any ops listed->YieldsIf P ops (Kp M w) q v a->
  wU M P ops (kT Q Post) fuel (listed.setIfInBounds i true) (a.put q.dst v) w->wU M P ops (kT Q Post) (fuel+1) listed a w:=by
 intro fuel
 induction fuel with
 |zero=>
  intro listed a w _ m z H;refine⟨λh=>(by rw[h]at m;cases m),λj A=>?_⟩;by_cases c:j=i
  .subst c;exact z.wpOp G (Kp.refl M w) ⟨Kp.refl M w,H⟩
  .have:=ready_mono A c;rw[H.1]at this;cases this
 |succ fuel ih=>
  intro listed a w d m z H;refine⟨λh=>(by rw[h]at m;cases m),λj A=>?_⟩;by_cases c:j=i
  .subst c;exact z.wpOp G (Kp.refl M w) ⟨Kp.refl M w,H⟩
  .have n:=H.2 j (ready_mono A c);obtain⟨g,oj,p,r⟩:=mem_ready.1 A;have s:∀e∈oj.after,Region.binds .any e=true->e.on≠i:=λe J K C=>by
    have n:=r e J K;have I:=(mem_ready.1 m).1;rw[C]at n;rcases Nat.lt_or_ge i listed.size with D|D
    .simp[D]at I n;rw[I]at n;cases n
    .simp[Array.getElem?_eq_none D]at n
   have L:=wpOp_putIf p (d j oj p c g s) (λcs b=>l i q cs b G) (λcs b=>l j oj cs b p) (λ_ _ _ h=>h) z n;have f:∀k t,ops[k]? =some t->k≠i->(listed.setIfInBounds j true).getD k true=false->
    (∀e∈t.after,Region.binds .any e=true->e.on≠i)->q.apart ops t=true:=λk t N E x F=>by
    refine d k t N E ?_ F;by_cases y:j=k
    .subst y;exact g
    .rw[getD_set_ne true y]at x;exact x
   refine wpOp_mono (λO R B=>⟨B.2.1,ih (listed.setIfInBounds j true) O R f (ready_mono m (Ne.symm c)) (Y0 B.1 B.2.1) ?_⟩) L;rw[Array.setIfInBounds_comm _ _ c];exact B.2.2
theorem Zd{M:List Nat}{Post:Act->World->Prop}{b:Array Bool}{a:Act}{w:World}(d:Region.ready .any ops b=[])(h:Post a w):∀fuel,wU M P ops (kT Q Post) fuel b a w
 |0=>⟨d,h⟩
 |fuel+1=>⟨λ_=>h,λi c=>by rw[d]at c;cases c⟩
def JR(M:List Nat)(w:World)(next:Act->World->Prop)(a':Act)(w':World):Prop:=Kp M w w'/\next a' w'
def wV(M:List Nat)(P:Program)(ops:Array Oper)(Q:Exit->Act->World->Prop)(Post:Act->World->Prop):List (List Nat×Nat)->List Nat->Act->World->Prop
 |[],last,a,w=>wpQuiet P ops (λw'=>∃x:KpW M w,w'=x.w) (λa'=>Post a' w) (opsOf ops last) a
 |(s,i)::r,last,a,w=>wpQuiet P ops (λw'=>∃x:KpW M w,w'=x.w) (λa'=>wpList P ops (kT Q (JR M w (wV M P ops Q Post r last))) (opsOf ops [i]) a' w) (opsOf ops s) a
theorem IC{M:List Nat}{Post:Act->World->Prop}{w:World}(p:Region.noSelect ops=true):∀(s:List Nat)(fuel:Nat)(listed:Array Bool)(a:Act),zX ops s listed=true->
 wpQuiet P ops (λw'=>∃x:KpW M w,w'=x.w) (λa'=>wU M P ops (kT Q Post) fuel (vH s listed) a' w) (opsOf ops s) a->wU M P ops (kT Q Post) (s.length+fuel) listed a w
 |[],fuel,listed,a,_,h=>by simpa[opsOf,wpQuiet,vH]using h
 |i::s,fuel,listed,a,hB,h=>by
  simp only[zX,aT]at hB;obtain⟨⟨⟨f,q⟩,b⟩,g⟩:=hB;cases c:ops[i]? with
  |none=>rw[c]at f;cases f
  |some o=>
   rw[c]at f;have j:opsOf ops (i::s)=o::opsOf ops s:=(by simp[opsOf,c]);rw[j]at h;unfold wpQuiet at h;have k:∃v,YieldsIf P ops (Kp M w) o v a/\wpQuiet P ops (λw'=>∃x:KpW M w,w'=x.w) (λa'=>wU M P ops (kT Q Post) fuel (vH s (listed.setIfInBounds i true)) a' w) (opsOf ops s) (a.put o.dst v):=by
    split at h
    .rename_i l;obtain⟨v,r,t⟩:=h;refine⟨v,.inl ⟨l,λw' m=>?_⟩,t⟩;have d:=r w' ⟨⟨w',m⟩,rfl⟩;unfold Oper.quietAt at d;cases b:(execOp a.eval o).run P w' with
     |ok n w2=>
      obtain⟨u,rfl⟩:=O5 f b;rw[b]at d;obtain⟨j,y⟩:=d;rw[j,y]
     |halt x w2=>rw[b]at d;exact d.elim
    .rename_i l;exact⟨undef,.inr ⟨by simpa using l,rfl⟩,h⟩
   obtain⟨v,z,A⟩:=k;rw[show(i::s).length+fuel=(s.length+fuel)+1 from by simp only[List.length_cons];omega];exact Yw c (Region.noSelect_spec p) (s.length+fuel) listed a w (Region.free_spec c q) (by simpa using b) z (IC p s fuel _ _ g A)
theorem OZ{M:List Nat}{Post:Act->World->Prop}(n:Region.noSelect ops=true):∀(ord:List (List Nat×Nat))(last:List Nat)(fuel:Nat)(listed:Array Bool)(a:Act)(w:World),yF ord last<=fuel->yE ops ord last listed=true->
 wV M P ops Q Post ord last a w->wU M P ops (kT Q Post) fuel listed a w
 |[],last,fuel,listed,a,w,hn,hB,h=>by
  simp only[yE,aT,au]at hB;simp only[yF]at hn;rw[show fuel=last.length+(fuel-last.length)from by omega];refine IC n last _ listed a hB.1 ?_;unfold wV at h;exact yY (λk c=>Zd hB.2 c _) _ _ h
 |(s,i)::r,last,fuel,listed,a,w,hn,hB,h=>by
  simp only[yE,aT,au]at hB;obtain⟨⟨⟨A,p⟩,q⟩,B⟩:=hB;simp only[yF]at hn;rw[show fuel=s.length+((fuel-s.length-1)+1)from by omega];refine IC n s _ listed a A ?_;unfold wV at h;refine yY (λk c=>?_) _ _ h;refine⟨λt=>(by rw[p]at t;cases t),λj x=>?_⟩;rw[p]at x;obtain rfl:j=i:=by simpa using x
  cases m:ops[j]? with
  |none=>rw[m]at q;cases q
  |some o=>
   have D:opsOf ops [j]=[o]:=(by simp[opsOf,m]);rw[D]at c;have y:∀d b,Kp M w b/\wV M P ops Q Post r last d b->Kp M w b/\wU M P ops (kT Q Post) (fuel-s.length-1) ((vH s listed).setIfInBounds j true) d b:=λd b z=>
    ⟨z.1,OZ n r last _ _ d b (by omega) B z.2⟩
   unfold wpOp;simp only[m];unfold wpList at c;split
   .rename_i f;rw[pP' f]at c;rcases c with c|c
    .exact .inl (O9 (Oper.wp_mono (λd b g=>y d b g) c))
    .exact .inr c
   .rename_i f;rw[nN' f]at c;exact y _ _ c
where
 yY {C:World->Prop} {K K':Act->Prop} (g:∀a,K a->K' a):∀(l:List Oper)(a:Act),wpQuiet P ops C K l a->wpQuiet P ops C K' l a
  |[],a,h=>g a h
  |o::l,a,h=>by
   unfold wpQuiet at*;split
   .rename_i f;rw[pP' f]at h;exact Oper.quiet_mono (λk c=>yY g l k c) h
   .rename_i f;rw[nN' f]at h;exact yY g l _ h
theorem region_xk(M:List Nat){d:Nat}{a:Act}{w:World}{l:List Oper}(b:List (List Nat×Nat))(last:List Nat)(f:P.follows .mixedOrders=true)
 (c:(Region.noSelect l.toArray&&yE l.toArray b last (Array.replicate l.length false)&&decide (yF b last<=l.length))=true)
 (h:wV M P l.toArray Q (λa' w'=>Q .normal a' w') b last a w.drew):(Code.region d l.toArray true).wp P Q a w:=by
 simp only[aT,au]at c;refine wp_region_any f (Oq (M:=M) (Post:=λa' w'=>Q .normal a' w') (λ_ _ h=>h) _ _ _ _ ?_);have:=OZ c.1.1 b last l.length (Array.replicate l.length false) a w.drew c.2 c.1.2 h;simpa using this
theorem aM5{M:List Nat}{Post:Act->World->Prop}{s:List Nat}{i:Nat}{r:List (List Nat×Nat)}{last:List Nat}{a:Act}{w:World}{l:List Oper}
 {b:List Oper} {o:Oper} (f:gI l s b) (g:dP l i o) (h:wpQuiet P l.toArray (λw'=>∃x:KpW M w,w'=x.w) (λa'=>wpList P l.toArray (kT Q (JR M w (wV M P l.toArray Q Post r last))) [o] a' w) b a):wV M P l.toArray Q Post ((s,i)::r) last a w:=by
 have c:=f.eq;have d:=(gI.cons g gI.nil).eq;subst c;unfold wV;rw[d];exact h
theorem aMs{M:List Nat}{Post:Act->World->Prop}{last:List Nat}{a:Act}{w:World}{l:List Oper}{b:List Oper}(d:gI l last b)(h:wpQuiet P l.toArray (λw'=>∃x:KpW M w,w'=x.w) (λa'=>Post a' w) b a):wV M P l.toArray Q Post [] last a w:=by
 have c:=d.eq;subst c;exact h
theorem qJ'{M:List Nat}{w w':World}{next:Act->World->Prop}{a:Act}(b:Kp M w w')(h:next a w'):JR M w next a w':=⟨b,h⟩
end
end Go.Proofs.YtljilcbobhmkgaaGreatDoor
