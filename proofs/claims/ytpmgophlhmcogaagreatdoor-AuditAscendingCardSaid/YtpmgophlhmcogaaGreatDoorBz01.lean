/- Part Bz01. -/
import Derived.Outline
import Derived.Test.YtpmgophlhmcogaaGreatDoorBz00
open Go.Proofs.Tryz
namespace Go.Proofs.YtpmgophlhmcogaaGreatDoor
set_option maxHeartbeats 25600000
set_option maxRecDepth 100000
open Go.RowKit
variable (t:TV)(T:aj)(c:Int)(w:World)
theorem AL:cW' 163 #[.int .i64 c] w (.bool (aX c)):=by
 go_enter func163,ntmps163;go_wp2
 all_goals(go_ret;refine⟨aJ ?_,rfl⟩;(first|(simp[aX, *];done)|(rw[Bool.eq_iff_iff];simp[aX];omega)|(simp[aX, *];omega)))
theorem qh:cW' 101 #[.int .i64 c] w (.int .i64 (utfLen c)):=by
 cases a:aX c
 .have H:=ah a;clear a;go_enter func101,ntmps101;go_wp2_with(go_at_call 163;refine(AL _ _).mono ?_;rintro e w'⟨rfl,rfl⟩;rw[H.out])
  all_goals(go_ret;refine⟨bG ?_,rfl⟩;simp[utfLen,H.out])
 .have H:=ah a;clear a;go_enter func101,ntmps101;go_wp2_with(go_at_call 163;refine(AL _ _).mono ?_;rintro e w'⟨rfl,rfl⟩;rw[H.out])
  all_goals(go_ret;refine⟨bG ?_,rfl⟩;simp[utfLen,H.out];try omega)
theorem y5:cW' 103 #[.int .i64 c] w (.bool (bW c)):=by
 go_enter func103,ntmps103;go_wp2
 all_goals(go_ret;refine⟨aJ ?_,rfl⟩;(first|(simp[bW, *];done)|(rw[Bool.eq_iff_iff];simp[bW];omega)|(simp[bW, *];omega)))
theorem Az:cW' 104 #[.int .i64 c] w (.bool (gW c)):=by
 go_enter func104,ntmps104;go_wp2
 all_goals(go_ret;refine⟨aJ ?_,rfl⟩;(first|(simp[gW, *];done)|(rw[Bool.eq_iff_iff];simp[gW];omega)|(simp[gW, *];omega)))
theorem KG:cW' 221 #[.int .i64 c] w (.bool (rW c)):=by
 go_enter func221,ntmps221;go_wp2
 all_goals(go_ret;refine⟨aJ ?_,rfl⟩;(first|(simp[rW, *];done)|(rw[Bool.eq_iff_iff];simp[rW];omega)|(simp[rW, *];omega)))
theorem NG:cW' 99 #[.int .i64 c] w (.bool (nameB c)):=by
 go_enter func99,ntmps99;go_wp2
 all_goals(go_ret;refine⟨aJ ?_,rfl⟩;(first|(simp[nameB, *];done)|(rw[Bool.eq_iff_iff];simp[nameB];omega)|(simp[nameB, *];omega)))
theorem Ad:cW' 162 #[.int .i64 c] w (.bool (kC c)):=by
 have H:Hid (kC c=(decide (0<=c)&&decide (c<=127)||rW c||bW c||gW c)):=rfl;go_enter func162,ntmps162
 go_wp2_with(first
  |(go_at_call 221;refine(KG _ _).mono ?_;rintro e w'⟨rfl,rfl⟩;cases a:rW c)
  |(go_at_call 103;refine(y5 _ _).mono ?_;rintro e w'⟨rfl,rfl⟩;cases b:bW c)
  |(go_at_call 104;refine(Az _ _).mono ?_;rintro e w'⟨rfl,rfl⟩;cases d:gW c))
 all_goals(go_ret;refine⟨aJ ?_,rfl⟩;rw[H.out];(first|(simp[*];done)|(simp[*];omega)))
theorem En(last c:Int)(w:World):cW' 98 #[.int .i64 last,.int .i64 c] w (.bool (qF last c)):=by
 have H:Hid (qF last c=(decide (last<c)&&decide (c<=1114111)&& !kC c)):=rfl;go_enter func98,ntmps98;go_wp2_with(go_at_call 162;refine(Ad _ _).mono ?_;rintro e w'⟨rfl,rfl⟩;cases a:kC c)
 all_goals(go_ret;refine⟨aJ ?_,rfl⟩;rw[H.out];(first|(simp[*];done)|(simp[*];omega)))
theorem Lp(A:Option Addr)(n c:Nat)(l:List Sp)(f g:Int)(w:World)(h:aT w ⟨A,n,c⟩ l):
 cE' 96 #[.slice A n c,.int .i64 f,.int .i64 g] w (.bool (qj f g l)):=by
 obtain⟨p,q,r⟩:=h.len;subst p;go_enter func96,ntmps96;go_wp2;go_loopw[7,12] (λs i wr=>∃(k:Nat)(last:Int),k<=l.length/\i=.int .i64 k/\s=.int .i64 last/\Hid (qj f g l=(chain f g last (l.drop k)&&decide ((l.length:Int)<=256)))/\Ext w wr) (λ_ i _=>l.length-(intOf i).toNat);exact⟨0,-1,zl' _,rfl,rfl,rfl,eR'⟩;obtain⟨k,last,D,rfl,rfl,j,d⟩:=hrel;by_cases a:k<l.length
 .obtain⟨b,o,t,y,z,B⟩:=(aT.ext h d).at_ a;subst t;have m:=ah (drop_at l k a);generalize l[k]=x at*;obtain⟨E,C,F⟩:=x;simp only at y z B;go_wp2
  all_goals first
   |(go_ret;exact⟨aJ (by rw[j.out,m.out,O6 (by simp only;omega)];rfl),d.aA _⟩)
   |(go_roundw
     case rel=>exact⟨k+1,C,by omega,by go_num,rfl,aF j (by rw[m.out,ED (by simp only;omega)]),d.aA _⟩
     case measure=>simp[intOf];omega)
 .go_wp2;go_ret;exact⟨aJ (by rw[j.out,bV l k (by omega)];simp[chain]),d⟩
theorem Ll(a d val:Int)(w:World)(G:Glob w):
 cE' 97 #[.agg #[.int .i64 a,.int .i64 d,.int .i64 val]] w (.bool (outsideB ⟨a,d,val⟩)):=by
 obtain⟨A,n,c,p,g⟩:=G;have s:=dh (w':=w.alloc (.cells #[.int .i64 a,.int .i64 d,.int .i64 val] 64)) (dG ((Ext.refl w).aA _)) p;have t:Hid (outsideB ⟨a,d,val⟩=mZ a d qE):=rfl;have h:qE.length=6:=rfl;generalize qE=l at*;obtain⟨y,z,B⟩:=g.len;subst y;have H:=ah h;clear h;go_enter func97,ntmps97;go_wp2;go_loopw[7] (λi wr=>∃(k:Nat),k<=l.length/\i=.int .i64 k/\Hid (outsideB ⟨a,d,val⟩=mZ a d (l.drop k))/\Ext (w.alloc (.cells #[.int .i64 a,.int .i64 d,.int .i64 val] 64)) wr) (λi _=>l.length-(intOf i).toNat);exact⟨0,zl' _,rfl,t,eR'⟩;obtain⟨k,I,rfl,q,m⟩:=hrel;have f:Ext w wr:=((Ext.refl w).aA _).trans' m;obtain⟨J,K⟩:=nZ m;by_cases j:k<l.length
 .obtain⟨b,o,C,D,E,F⟩:=(aT.ext g f).at_ j;subst C;have r:=ah (drop_at l k j);generalize l[k]=x at*;obtain⟨L,M,N⟩:=x;simp only at D E F;have O:w.heap.size<wr.heap.size:=by have:=m.b.size;simp at this;omega
  go_wp2
  all_goals first
   |(go_ret;exact⟨aJ (by rw[q.out,r.out,Jm (by simp only;omega)]),f.aA _⟩)
   |(go_roundw
     case rel=>exact⟨k+1,by omega,by go_num,aF q (by rw[r.out,xZ (by simp only;omega)]),m.aA _⟩
     case measure=>simp[intOf];omega)
 .go_wp2;go_ret;exact⟨aJ (by rw[q.out,bV l k (by omega)];simp[mZ]),f⟩
theorem Aj(f:FuncId)(d:Array Value)(n:Nat)(p:Nat->Bool)(w:World)(F:n<=4611686018427387904)
 (q:∀args w,(callFunc f args).run prog w=.ok (.enter f args) w)
 (t:∀i,i<n->∀w',Ext w w'->cE' f (#[.int .i64 i]++d) w' (.bool (p i))):
 Calls prog 166 #[.int .i64 n,.func (.func f) #[] d] w λe w'=>∃i:Nat,e=.returned (.int .i64 i)/\i<=n/\(i<n->p i=true)/\(0<i->p (i-1)=false)/\Ext w w':=by
 have x:=ah t;clear t;go_enter func166,ntmps166;go_wp2;go_loopw[5,6] (λa b wr=>∃(i j:Nat),i<=j/\j<=n/\a=.int .i64 i/\b=.int .i64 j/\Hid (j<n->p j=true)/\Hid (0<i->p (i-1)=false)/\Ext w wr) (λa b _=>(intOf b).toNat-(intOf a).toNat);exact⟨0,n,zl' _,lr' _,rfl,rfl,λh=>absurd h (by omega),λh=>absurd h (by omega),eR'⟩;obtain⟨i,j,y,z,rfl,rfl,r,s,k⟩:=hrel;by_cases A:i<j
 .go_wp2;obtain⟨m,B⟩:∃m:Nat,m=(i+j) / 2:=⟨_,rfl⟩;rw[show((i:Int)+j) / 2=(m:Int)from by omega];have C:i<=m:=by omega
  have D:m<j:=by omega
  clear B;refine(x.out m (by omega) wr k).mono ?_;rintro e E⟨rfl,l⟩;have g:=k.trans' l;cases c:p m
  .have o:=ah c;clear c;go_wp2;go_roundw;exact⟨m+1,j,by omega,z,by go_num,rfl,r,λ_=>by simpa using o.out,g⟩;simp[intOf];omega
  .have o:=ah c;clear c;go_wp2;go_roundw;exact⟨i,m,by omega,by omega,rfl,rfl,λ_=>o.out,s,g⟩;simp[intOf];omega
 .go_wp2;go_ret;exact⟨i,rfl,by omega,λh=>r.out (by omega)▸(by rw[show i=j from by omega]),s.out,k⟩
theorem MK(l:List Sp)(A:Option Addr)(n a:Nat)(i:Nat)(c:Int)(d f:Addr)(w:World)(r:i<l.length)
 (s:w.cell? d=some (.slice A n a)) (t:w.cell? f=some (.int .i64 c)) (g:aT w ⟨A,n,a⟩ l):
 cE' 274 (#[.int .i64 i]++ #[.pointer (some d),.pointer (some f)]) w (.bool (decide (c<=l[i].hi))):=by
 obtain⟨h,j,k⟩:=g.len;subst h;obtain⟨b,o,m,x,y,B⟩:=g.at_ r;subst m;have p:=z0' i;have q:(i:Int)<(l.length:Int):=by omega
 generalize l[i].hi=z at*;go_enter func274,ntmps274;go_wp2;go_quiet (fail);go_wp2;go_ret;exact⟨rfl,eR'.lS _⟩
theorem yu(l:List Sp)(A:Option Addr)(n f:Nat)(c:Int)(w:World)(t:aT w ⟨A,n,f⟩ l)(g:oU l)(y:l.length<=256):
 cE' 223 #[.slice A n f,.int .i64 c] w (.int .i64 (fG l c)):=by
 obtain⟨z,B,C⟩:=t.len;subst z;go_enter func223,ntmps223;go_wp2_with fail;refine(Aj 274 _ l.length (λi=>decide (c<=(l.getD i ⟨0,0,0⟩).hi)) _ (by omega) Tryz.call274 ?_).mono ?_
 .intro i p w' j;have a:Ext w w':=(((Ext.refl w).aA _).aA _).trans' j;rw[getD_lt l i _ p];exact MK l A l.length f i c _ _ w' p (dh (dG j) (Bh _ _ _ _)) (dh (dG j) (Bj _ _ _ _)) (t.ext a)
 .rintro e D⟨i,rfl,p,q,r,j⟩;have a:Ext w D:=(((Ext.refl w).aA _).aA _).trans' j;have s:=ah (KY g (c:=c) p (λh=>by have k:=q h;simp only[getD_lt l i _ h]at k;simpa using k) (λh=>by have k:=r h;simp only[getD_lt l (i-1) _ (by omega)]at k;simpa using k));obtain⟨J,K⟩:=nZ j.b;clear q r;by_cases d:i<l.length
  .have E:((i:Int)==(l.length:Int))=false:=bF';obtain⟨b,o,F,r,q,G⟩:=(t.ext a).at_ d;subst F;have m:Hid (fG l c=if c<l[i].lo then 0 else l[i].val):=(by have h:=s.out;rw[dif_pos d]at h;exact h);clear s;have H:=z0' i;have I:(i:Int)<(l.length:Int):=(by omega);generalize l[i]=x at*;obtain⟨L,M,N⟩:=x;simp only at r q G m;go_wp2;go_quiet (fail);go_wp2
   .go_ret;exact⟨bG (by rw[m.out,pP' (by assumption)]),a.lS _⟩
   .go_ret;exact⟨bG (by rw[m.out,nN' (by omega)]),a.lS _⟩
  .obtain rfl:i=l.length:=by omega
   have m:Hid (fG l c=0):=(by have h:=s.out;rw[dif_neg d]at h;exact h);clear s;go_wp2;go_quiet (fail);go_wp2;go_ret;exact⟨bG (by rw[m.out]),a.lS _⟩
theorem N7(l:List Mp)(A:Option Addr)(n a:Nat)(i:Nat)(c:Int)(d f:Addr)(w:World)(t:i<l.length)
 (x:w.cell? d=some (.slice A n a)) (y:w.cell? f=some (.int .i64 c)) (g:bn w ⟨A,n,a⟩ l):
 cE' 167 (#[.int .i64 i]++ #[.pointer (some d),.pointer (some f)]) w (.bool (decide (c<=l[i].lo))):=by
 obtain⟨h,j,k⟩:=g.len;subst h;obtain⟨b,o,B,C,D,m,E,p,q⟩:=g.at_ t;subst m;have r:=z0' i;have s:(i:Int)<(l.length:Int):=by omega
 clear p q;generalize l[i].lo=z at*;go_enter func167,ntmps167;go_wp2;go_quiet (fail);go_wp2;go_ret;exact⟨rfl,eR'.lS _⟩
theorem Ap{l:List Mp}{c:Int}(h:ng l c=false):∀i(hi:i<l.length),l[i].lo≠c:=by
 intro i hi a;simp only[ng,List.any_eq_false,aW]at h;exact h l[i] (by simp) a
theorem EP(l:List Mp)(A:Option Addr)(n k:Nat)(c:Int)(w:World)(B:Option Addr)(C D:Nat)(E:bn w ⟨A,n,k⟩ l)(m:qx l)(G:l.length<=256)
 (H:∀i b o(hi:i<l.length),A=some ⟨b,o,none⟩->l[i].lo=c->w.cell? ⟨b,o+i*2+1,none⟩=some (.slice B C D))
 (r:(∀i(hi:i<l.length),l[i].lo≠c)->B=none/\C=0/\D=0):
 cE' 106 #[.slice A n k,.int .i64 c] w (.slice B C D):=by
 obtain⟨I,J,K⟩:=E.len;subst I;have x:=ah H;have d:=ah r;clear H r;go_enter func106,ntmps106;go_wp2_with fail;refine(Aj 167 _ l.length (λi=>decide (c<=(l.getD i ⟨0,[]⟩).lo)) _ (by omega) Tryz.call167 ?_).mono ?_
 .intro i hi w' p;have a:Ext w w':=(((Ext.refl w).aA _).aA _).trans' p;rw[getD_lt l i _ hi];exact N7 l A l.length k i c _ _ w' hi (dh (dG p) (Bh _ _ _ _)) (dh (dG p) (Bj _ _ _ _)) (E.ext a)
 .rintro e L⟨i,rfl,hi,s,y,p⟩;have a:Ext w L:=(((Ext.refl w).aA _).aA _).trans' p;have t:=ah (KU m (c:=c) hi (λh=>by have q:=s h;simp only[getD_lt l i _ h]at q;simpa using q) (λh=>by have q:=y h;simp only[getD_lt l (i-1) _ (by omega)]at q;simpa using q)).2;obtain⟨U,V⟩:=nZ p.b;clear s y;by_cases f:i<l.length
  .have M:((i:Int)==(l.length:Int))=false:=bF';obtain⟨b,o,W,X,Y,F,y,s,N⟩:=(E.ext a).at_ f;have g:=ah λh=>dh (dG a) (x.out i b o f F h)
   subst F;have z:Hid (ng l c=decide (l[i].lo=c)):=(by have h:=t.out;rw[dif_pos f]at h;exact h);clear t x N;have O:=z0' i;have P:(i:Int)<(l.length:Int):=(by omega);generalize l[i].lo=xl at*;by_cases j:xl=c
   .subst j;have e:=s.symm.trans (g.out rfl);injection e with e;injection e with Q R S;subst Q R S;clear g z d;go_wp2;go_quiet (fail);go_wp2;go_ret;exact⟨rfl,a.lS _⟩
   .obtain⟨rfl,rfl,rfl⟩:=d.out (Ap (by rw[z.out];simpa using j));have T:(xl != c)=true:=bN' j;clear g z d;go_wp2;go_quiet (fail);go_wp2;go_ret;exact⟨rfl,a.lS _⟩
  .obtain rfl:i=l.length:=by omega
   obtain⟨rfl,rfl,rfl⟩:=d.out (Ap (by have h:=t.out;rw[dif_neg f]at h;exact h));clear t x d;go_wp2;go_quiet (fail);go_wp2;go_ret;exact⟨rfl,a.lS _⟩
theorem uf(l:List Mp)(A:Option Addr)(n f:Nat)(c:Int)(w:World)(B:bn w ⟨A,n,f⟩ l)(a:qx l)(g:l.length<=256):
 ∃za zn zc,au w ⟨za,zn,zc⟩ (aG l c)/\(ng l c=false->za=none/\zn=0/\zc=0)/\
  ∀w',Ext w w'->cE' 106 #[.slice A n f,.int .i64 c] w' (.slice za zn zc):=by
 cases x:ng l c
 .have C:=Ap x;have D:aG l c=[]:=vY λs y=>by
   obtain⟨j,k,rfl⟩:=List.getElem_of_mem y;exact C j k
  refine⟨none,0,0,by rw[D];exact au.nil_ w,λ_=>⟨rfl,rfl,rfl⟩,λw' t=>?_⟩;exact EP l A n f c w' none 0 0 (B.ext t) a g (λi b o p _ h=>absurd h (C i p)) λ_=>⟨rfl,rfl,rfl⟩
 .simp only[ng,List.any_eq_true,aW]at x;obtain⟨m,y,q⟩:=x;obtain⟨i,p,rfl⟩:=List.getElem_of_mem y;obtain⟨b,o,za,zn,zc,E,K,F,G⟩:=B.at_ p;have t:∀j(k:j<i),l[j].lo<c:=λj k=>by have:=a j i k p;omega
  refine⟨za,zn,zc,by rw[Dw i p q t];exact G,(λh=>by cases h),λw' r=>?_⟩;refine EP l A n f c w' za zn zc (B.ext r) a g (λj L M k d H=>?_) λz=>absurd q (z i p)
  obtain rfl:j=i:=by
   rcases Nat.lt_trichotomy j i with h|h|h
   .have:=t j h;omega
   .exact h
   .have:=a i j h k;omega
  rw[E]at d;injection d with d;injection d with I J;subst I J;exact dh (dG r) F
theorem find_spec(l:List Mp)(A:Option Addr)(n a:Nat)(c:Int)(w:World)(k:bn w ⟨A,n,a⟩ l)(b:qx l)(f:uz l)(d:l.length<=256):
 Calls prog 106 #[.slice A n a,.int .i64 c] w λe w'=>∃za zn zc,e=.returned (.slice za zn zc)/\au w' ⟨za,zn,zc⟩ (aG l c)/\(aG l c=[]->za=none/\zc=0)/\Ext w w':=by
 obtain⟨za,zn,zc,g,i,j⟩:=uf l A n a c w k b d;refine(j w (Ext.refl w)).mono λe w'⟨he,hb⟩=>⟨za,zn,zc,he,g.ext hb,λh=>?_,hb⟩
 have:=i (uX f h);exact⟨this.1,this.2.2⟩
theorem tC{w:World}{a:Option Addr}{d c:Nat}{l:List Int}(h:au w ⟨a,d,c⟩ l)(k:l=[]->a=none/\c=0):
 (l=[]/\a=none/\d=0/\c=0)\/∃b o,l≠[]/\a=some ⟨b,o,none⟩:=by
 cases l with
 |nil=>
  obtain⟨f,g⟩:=k rfl;exact .inl ⟨rfl,f,h.len.1,g⟩
 |cons x r=>
  obtain⟨b,o,j,_⟩:=h.at_ (i:=0) (by simp);exact .inr ⟨b,o,by simp,j⟩
theorem JM(l:List Int)(A:Option Addr)(n a:Nat)(i:Nat)(c:Int)(d f:Addr)(w:World)(r:i<l.length)
 (s:w.cell? d=some (.slice A n a)) (t:w.cell? f=some (.int .i64 c)) (g:au w ⟨A,n,a⟩ l):
 cE' 275 (#[.int .i64 i]++ #[.pointer (some d),.pointer (some f)]) w (.bool (decide (c<=l[i]))):=by
 obtain⟨h,j,k⟩:=g.len;subst h;obtain⟨b,o,m,x⟩:=g.at_ r;subst m;have p:=z0' i;have q:(i:Int)<(l.length:Int):=by omega
 generalize l[i]=z at*;go_enter func275,ntmps275;go_wp2;go_quiet (fail);go_wp2;go_ret;exact⟨rfl,eR'.lS _⟩
theorem Ko(l:List Int)(A:Option Addr)(n b:Nat)(c:Int)(w:World)(m:au w ⟨A,n,b⟩ l)(o:l.length<=256):
 Calls prog 224 #[.slice A n b,.int .i64 c] w λe w'=>∃i:Nat,e=.returned (.int .i64 i)/\i<=l.length/\(∀h:i<l.length,c<=l[i])/\(∀_:0<i,∀_:i-1<l.length,l[i-1]<c)/\Ext w w':=by
 obtain⟨p,q,r⟩:=m.len;subst p;go_enter func224,ntmps224;go_wp2_with fail;refine(Aj 275 _ l.length (λi=>decide (c<=l.getD i 0)) _ (by omega) Tryz.call275 ?_).mono ?_
 .intro i g w' d;have a:Ext w w':=(((Ext.refl w).aA _).aA _).trans' d;rw[getD_lt l i _ g];exact JM l A l.length b i c _ _ w' g (dh (dG d) (Bh _ _ _ _)) (dh (dG d) (Bj _ _ _ _)) (m.ext a)
 .rintro e s⟨i,rfl,g,j,k,d⟩;have a:Ext w s:=(((Ext.refl w).aA _).aA _).trans' d;have t:Hid (∀h:i<l.length,c<=l[i]):=λh=>by have f:=j h;simp only[getD_lt l i _ h]at f;simpa using f
  have x:Hid (∀_:0<i,∀_:i-1<l.length,l[i-1]<c):=λh y=>by have f:=k h;simp only[getD_lt l (i-1) _ y]at f;simpa using f
  clear j k;go_wp2;go_ret;exact⟨i,rfl,g,t.out,x.out,a⟩
theorem KP(c:Int)(w:World)(ht:aN w t T)(f:yE T.exc)(g:T.exc.length<=256):
 cE' 168 #[t.v,.int .i64 c] w (.bool (iZ T.exc c)):=by
 obtain⟨I,J,K,L,M,N,O,P,Q,R,⟨A,n,s⟩,x⟩:=t;have j:au w ⟨A,n,s⟩ T.exc:=ht.exc;clear ht;generalize T.exc=l at*;obtain⟨y,B,C⟩:=j.len;subst y;simp only[TV.v];go_enter func168,ntmps168;go_wp2_with fail;refine(Ko l _ _ _ c _ (j.ext ((Ext.refl w).aA _)) g).mono ?_;rintro e D⟨i,rfl,E,p,q,r⟩;have a:Ext w D:=((Ext.refl w).aA _).trans' r;have k:=ah (Lh f E p λh=>q h (by omega));clear p q;obtain⟨S,U⟩:=nZ r.b;by_cases d:i<l.length
 .obtain⟨b,o,F,j⟩:=(j.ext a).at_ d;subst F;have G:=z0' i;have H:(i:Int)<(l.length:Int):=by omega
  have m:Hid (iZ l c=decide (l[i]=c)):=by have h:=k.out;rw[dif_pos d]at h;exact h
  clear k;generalize l[i]=z at*;go_wp2;go_ret;exact⟨aJ (by rw[m.out,Bool.eq_iff_iff];simp),a⟩
 .obtain rfl:i=l.length:=by omega
  have m:Hid (iZ l c=false):=by have h:=k.out;rw[dif_neg d]at h;exact h
  clear k;go_wp2;go_ret;exact⟨aJ (by rw[m.out]),a⟩
def yZ(c:Int):Value:=.agg #[.int .i64 (zS c),.int .i64 (xu c),.int .i64 (tN c),.int .i64 (qJ c)]
theorem N8:cE' 222 #[.int .i64 c] w (yZ c):=by
 go_enter func222,ntmps222
 go_wp2_with(first
  |(go_at_call 103;refine(y5 _ _).mono ?_;rintro e w'⟨rfl,rfl⟩;cases a:bW c)
  |(go_at_call 104;refine(Az _ _).mono ?_;rintro e w'⟨rfl,rfl⟩;cases b:gW c))
 all_goals(refine bodyPost_ret (v:=yZ c) ?_ rfl ⟨rfl,?_⟩)
 all_goals first
  |(refine Ext.aA eR' _)
  |(simp[results,Tryz.results222,go_sem,yZ]
    try(simp only[bq',aP,ne_eq]at*)
    unfold zS xu tN qJ
    first
     |omega
     |(repeat(first|rw[pP' (by first|omega|assumption)]|rw[nN' (by first|omega|(simp[*];done))])
       simp))
theorem Lu(a b c d:Int)(w:World):cE' 338 #[.agg #[.int .i64 a,.int .i64 b,.int .i64 c,.int .i64 d]] w (.int .i64 c):=by
 go_enter func338,ntmps338;go_wp2;go_ret;exact⟨rfl,(Ext.refl w).aA _⟩
theorem LG(a b c d:Int)(w:World):cE' 165 #[.agg #[.int .i64 a,.int .i64 b,.int .i64 c,.int .i64 d]] w (.int .i64 d):=by
 go_enter func165,ntmps165;go_wp2;go_ret;exact⟨rfl,(Ext.refl w).aA _⟩
theorem yH(f:FuncId)(own:Int->Int)(l:List Sp)(A:Option Addr)(n i:Nat)(c:Int)(w:World)(k:aT w ⟨A,n,i⟩ l)(d:oU l)(j:l.length<=256)
 (q:∀args w,(callFunc f args).run prog w=.ok (.enter f args) w)
 (b:∀w,cE' f #[yZ c] w (.int .i64 (own c))):
 cE' 164 #[.slice A n i,.int .i64 c,.func (.func f) #[] #[]] w (.int .i64 (kV l own c)):=by
 have t:=ah b;clear b;cases r:utfLen c==0
 .have a:aX c=true:=by
   cases k:aX c
   .have:=(utfLen_eq_zero c).2 k;simp[this]at r
   .rfl
  cases g:kC c
  .have h:Hid (kV l own c=fG l c):=by unfold kV;rw[a,g];rfl
   have m:=ah g;clear g a;go_enter func164,ntmps164
   go_wp2_with(first
    |(go_at_call 101;refine(qh _ _).mono ?_;rintro e w'⟨rfl,rfl⟩)
    |(go_at_call 162;refine(Ad _ _).mono ?_;rintro e w'⟨rfl,rfl⟩;rw[m.out])
    |(go_at_call 223;refine(yu l _ _ _ _ _ k d j).mono ?_;rintro e s⟨rfl,o⟩))
   go_ret;exact⟨bG (by rw[h.out]),o⟩
  .have h:Hid (kV l own c=own c):=by unfold kV;rw[a,g];rfl
   have m:=ah g;clear g a;go_enter func164,ntmps164
   go_wp2_with(first
    |(go_at_call 101;refine(qh _ _).mono ?_;rintro e w'⟨rfl,rfl⟩)
    |(go_at_call 162;refine(Ad _ _).mono ?_;rintro e w'⟨rfl,rfl⟩;rw[m.out])
    |(go_at_call 222;refine(N8 _ _).mono ?_;rintro e s⟨rfl,o⟩))
   refine(t.out s).mono ?_;rintro e x⟨rfl,p⟩;go_wp2;go_ret;exact⟨bG (by rw[h.out]),o.trans' p⟩
 .have h:Hid (kV l own c=0):=by
   have:=(utfLen_eq_zero c).1 (by simpa using r);unfold kV;rw[this];rfl
  go_enter func164,ntmps164
  go_wp2_with(first
   |(go_at_call 101;refine(qh _ _).mono ?_;rintro e w'⟨rfl,rfl⟩))
  go_ret;exact⟨bG (by rw[h.out]),eR'⟩
structure bU(T:aj):Prop where
 cat:oU T.cat/\T.cat.length<=256
 cls:oU T.cls/\T.cls.length<=256
 dV:oU T.dV/\T.dV.length<=256
 dW:oU T.dW/\T.dW.length<=256
 scr:oU T.scr/\T.scr.length<=256
 bH:oU T.bH/\T.bH.length<=256
 cZ:oU T.cZ/\T.cZ.length<=256
 ext:qx T.ext/\T.ext.length<=256
 mps:qx T.mps/\T.mps.length<=256
 dec:qx T.dec/\T.dec.length<=256
 exc:yE T.exc/\T.exc.length<=256
 dn:qx T.dn/\T.dn.length<=256
structure iJ(T:aj):Prop where
 ext:uz T.ext
 mps:uz T.mps
 dec:uz T.dec
 dn:uz T.dn
theorem dL(c:Int)(w:World)(ht:aN w t T)(a:bU T):
 cE' 169 #[t.v,.int .i64 c] w (.int .i64 (aH T c)):=by
 have b:=ht.cls.ext ((Ext.refl w).aA (.cells t.v.cells 36));go_enter func169,ntmps169;go_wp2_with(go_at_call 223;refine(yu T.cls _ _ _ _ _ b a.cls.1 a.cls.2).mono ?_;rintro e f⟨rfl,d⟩);go_ret;exact⟨rfl,((Ext.refl w).aA _).trans' d⟩
theorem Af(c:Int)(w:World)(ht:aN w t T)(a:bU T):
 cE' 337 #[t.v,.int .i64 c] w (.int .i64 (jk T c)):=by
 have b:=ht.dV.ext ((Ext.refl w).aA (.cells t.v.cells 36));go_enter func337,ntmps337;go_wp2_with(go_at_call 223;refine(yu T.dV _ _ _ _ _ b a.dV.1 a.dV.2).mono ?_;rintro e f⟨rfl,d⟩);go_ret;exact⟨rfl,((Ext.refl w).aA _).trans' d⟩
theorem Ef(c:Int)(w:World)(ht:aN w t T)(a:bU T):
 cE' 171 #[t.v,.int .i64 c] w (.bool (uo T c)):=by
 have b:=ht.cZ.ext ((Ext.refl w).aA (.cells t.v.cells 36));go_enter func171,ntmps171;go_wp2_with(go_at_call 223;refine(yu T.cZ _ _ _ _ _ b a.cZ.1 a.cZ.2).mono ?_;rintro e f⟨rfl,d⟩);go_ret;exact⟨rfl,((Ext.refl w).aA _).trans' d⟩
theorem yA(c:Int)(w:World)(ht:aN w t T)(a:bU T):
 cE' 102 #[t.v,.int .i64 c] w (.int .i64 (dM T c)):=by
 have b:=ht.bH.ext ((Ext.refl w).aA (.cells t.v.cells 36));go_enter func102,ntmps102;go_wp2_with(go_at_call 164;refine(yH 165 qJ T.bH _ _ _ _ _ b a.bH.1 a.bH.2 Tryz.call165 (λ_=>LG _ _ _ _ _)).mono ?_;rintro e f⟨rfl,d⟩);go_ret;exact⟨rfl,((Ext.refl w).aA _).trans' d⟩
theorem y8(c:Int)(w:World)(ht:aN w t T)(a:bU T):
 cE' 328 #[t.v,.int .i64 c] w (.int .i64 (lJ T c)):=by
 have b:=ht.scr.ext ((Ext.refl w).aA (.cells t.v.cells 36));go_enter func328,ntmps328;go_wp2_with(go_at_call 164;refine(yH 338 tN T.scr _ _ _ _ _ b a.scr.1 a.scr.2 Tryz.call338 (λ_=>Lu _ _ _ _ _)).mono ?_;rintro e f⟨rfl,d⟩);go_ret;exact⟨rfl,((Ext.refl w).aA _).trans' d⟩
theorem Em(c:Int)(w:World)(ht:aN w t T)(l:bU T)(q:iJ T):
 cE' 108 #[t.v,.int .i64 c] w (.bool (qw T c)):=by
 have n:=ht.dec.ext ((Ext.refl w).aA (.cells t.v.cells 36));have h:Hid (qw T c=((aG T.dec c).isEmpty&& !uo T c)):=rfl;go_enter func108,ntmps108;go_wp2_with fail;refine(find_spec T.dec _ _ _ c _ n l.dec.1 q.dec l.dec.2).mono ?_;rintro e p⟨r,s,x,rfl,i,a,m⟩;have d:Ext w p:=((Ext.refl w).aA _).trans' m;obtain⟨y,z⟩:=nZ m.b;rcases tC i a with⟨f,rfl,rfl,rfl⟩|⟨b,o,f,rfl⟩
 .have g:Hid (aG T.dec c=[]):=f;clear f i a;go_wp2_with fail;refine(Ef t T c _ (ht.ay d) l).mono ?_;rintro e A⟨rfl,j⟩;have k:Hid (qw T c= !uo T c):=by rw[h.out,g.out];rfl
  clear h g;go_wp2;go_ret;exact⟨aJ (by rw[k.out]),d.trans' j⟩
 .have g:Hid (aG T.dec c≠[]):=f;clear f i a;have k:Hid (qw T c=false):=by
   rw[h.out];have:(aG T.dec c).isEmpty=false:=by simpa using g.out
   rw[this];rfl
  clear h g;go_wp2;go_ret;exact⟨aJ (by rw[k.out]),d⟩
end Go.Proofs.YtpmgophlhmcogaaGreatDoor
