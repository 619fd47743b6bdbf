/- Part Bz08. -/
import Derived.WalkMore
import Derived.Test.YtpmgophlhmcogaaGreatDoorBz06
open Go.Proofs.Tryz
namespace Go.Proofs.YtpmgophlhmcogaaGreatDoor
set_option maxHeartbeats 25600000
set_option maxRecDepth 100000
open Go.RowKit
variable (t:TV)(T:aj)(l:List Int)(A:Option Addr)(n c:Nat)(w:World)
def oZ(T:aj):Nat->List Int->Int
 |_,[]=> -1
 |k,x::r=>if jk T x=5 then oZ T (k+1) r else k
def rJ(T:aj):List Int->Int
 |[]=> -1
 |x::r=>if jk T x=5 then rJ T r else r.length
def fH(T:aj)(l:List Int)(i:Nat)(up:Bool):Int:=if up=true then oZ T (i+1) (l.drop (i+1))else rJ T (l.take i).reverse
def iy(T:aj)(l:List Int)(i side:Int):Bool:=if i<0 then false else(jk T (l.getD i.toNat 0)==side||jk T (l.getD i.toNat 0)==3)
def ji(T:aj)(l:List Int)(i:Nat):Bool:=
 if(!(l.getD i 0==8204)&& !(l.getD i 0==8205))=true then true
 else if(decide (0<i)&&aH T (l.getD (i-1) 0)==9)=true then true
 else l.getD i 0==8204&&iy T l (fH T l i false) 1&&iy T l (fH T l i true) 2
def vC(T:aj)(l:List Int):Nat->Nat->Int×Int
 |0,_=>(0,0)
 |n+1,i=>if ji T l i=true then vC T l n (i+1)else(i,17)
def fV(T:aj)(l:List Int):Int×Int:=if aS T l=0 then vC T l l.length 0 else(0,aS T l)
theorem F8(T:aj):∀(l:List Int)(k:Nat),oZ T k l<(k+l.length:Nat)/\(oZ T k l= -1\/(k:Int)<=oZ T k l)
 |[],k=>⟨by simp[oZ];omega,.inl rfl⟩
 |x::r,k=>by
  simp only[oZ,List.length_cons];by_cases h:jk T x=5
  .rw[pP' h];obtain⟨b,a⟩:=F8 T r (k+1);exact⟨by omega,a.imp id (by omega)⟩
  .rw[nN' h];omega
theorem EM(T:aj):∀(l:List Int),rJ T l<(l.length:Int)/\ -1<=rJ T l
 |[]=>by simp[rJ]
 |x::r=>by
  simp only[rJ,List.length_cons];by_cases h:jk T x=5
  .rw[pP' h];obtain⟨a,b⟩:=EM T r;omega
  .rw[nN' h];omega
theorem DJ(i:Nat)(h:i<l.length)(a:Bool):fH T l i a<(l.length:Int)/\ -1<=fH T l i a:=by
 cases a
 .have:=EM T (l.take i).reverse;simp only[List.length_reverse,List.length_take]at this;simp only[fH,Bool.false_eq_true,if_false];omega
 .have:=F8 T (l.drop (i+1)) (i+1);simp only[List.length_drop]at this;simp only[fH,if_true];omega
theorem tY{t:TV}{w b w':World}(a:b=(tW' w t))(c:Ext b w'):∀k:Nat,w'.cell? ⟨w.heap.size,k,none⟩=t.v.cells[k]? :=by
 subst a;exact aO c
theorem KH(k:Nat)(h:k<l.length):(l.take (k+1)).reverse=l[k]::(l.take k).reverse:=by
 rw[tS' h];simp
theorem EN{T:aj}{l:List Int}(h:aS T l=0):bC T=true/\l.length<=4096:=by
 unfold aS at h;cases a:bC T
 .rw[a]at h;simp at h
 .rw[a]at h;simp only[Bool.true_eq_false,if_false]at h;by_cases b:4096<(l.length:Int)
  .rw[pP' b]at h;omega
  .exact⟨rfl,by omega⟩
theorem vk(i:Nat)(w:World)(ht:aN w t T)(O:bU T)(h:au w ⟨A,n,c⟩ l)(Q:i<l.length):
 cE' 321 #[t.v,.slice A n c,.int .i64 i,.int .i64 1] w (.int .i64 (fH T l i true)):=by
 obtain⟨F,_,_⟩:=h.len;subst F;have G:=ah ht;have H:=ah h;have m:Ext w (w.alloc (.cells t.v.cells 36)):=eR'.aA _;have I:Hid (fH T l i true=oZ T (i+1) (l.drop (i+1))):=rfl;go_enter func321,ntmps321;go_wp2_with fail;go_step3;go_wp2_with fail;go_step3;go_wp2;go_loopw[2,9] (λj f wr=>∃(k:Nat),k<=l.length/\j=.int .i64 k/\f=.int .i64 (-1)/\Hid (fH T l i true=oZ T k (l.drop k))/\Ext (w.alloc (.cells t.v.cells 36)) wr) (λj _ _=>l.length-(intOf j).toNat);exact⟨i+1,by omega,by go_num,rfl,I,eR'⟩;obtain⟨k,P,rfl,rfl,s,a⟩:=hrel;have d:=m.trans' a;have J:=z0' k;by_cases p:k<l.length
 .have D:=ah (drop_at l k p);obtain⟨b,o,K,E⟩:=(H.out.ext d).at_ p;subst K;generalize l[k]=x at*;have y:=aF s (show _=if jk T x=5 then oZ T (k+1) (l.drop (k+1))else(k:Int)from by rw[D.out];rfl);have L:=λz:ak wr=>bT' t (a.trans' z.h)
  have M:∀z:ak wr,z.w.cell? ⟨b,o+k,none⟩=some (.int .i64 x):=dJ E;have B:(k:Int)<(l.length:Int):=by omega
  clear s D E;go_wp2_with fail;refine rX' ?_
  repeat(go_big_quiet_step((go_at_call 337;exact aI (Af t T x _ (G.out.ay (d.trans' (ak.h _))) O))))
  refine wpQuiet_nil ?_;rintro _⟨N,rfl⟩;have q:=a.trans' N.h;clear L M;by_cases g:jk T x=5
  .have C:(jk T x==5)=true:=by rw[bq'];exact g
   have r:=aF y (pP' g);clear y g;go_wp2;go_roundw;exact⟨k+1,by omega,by go_num,rfl,r,q⟩;simp[intOf];omega
  .have C:(jk T x==5)=false:=by rw[aP];exact g
   have r:=aF y (nN' g);clear y g;go_wp2_with fail;rw[Exit.noGoto_ret];go_ret;exact⟨bG r.out.symm,m.trans' q⟩
 .have r:=aF s (show _= -1 from by rw[bV l k (by omega)];rfl);have B:¬(k:Int)<(l.length:Int):=by omega
  clear s;go_wp2;go_ret;exact⟨bG r.out.symm,d⟩
theorem vg(i:Nat)(w:World)(ht:aN w t T)(R:bU T)(h:au w ⟨A,n,c⟩ l)(U:i<l.length):
 cE' 321 #[t.v,.slice A n c,.int .i64 i,.int .i64 (-1)] w (.int .i64 (fH T l i false)):=by
 obtain⟨J,_,_⟩:=h.len;subst J;have K:=ah ht;have L:=ah h;have p:Ext w (w.alloc (.cells t.v.cells 36)):=eR'.aA _;have M:Hid (fH T l i false=rJ T (l.take i).reverse):=rfl;go_enter func321,ntmps321;go_wp2_with fail;go_step3;go_wp2_with fail;go_step3;go_wp2;go_loopw[2,9] (λj f wr=>∃(k:Nat),k<=l.length/\j=.int .i64 ((k:Int)-1)/\f=.int .i64 (-1)/\Hid (fH T l i false=rJ T (l.take k).reverse)/\Ext (w.alloc (.cells t.v.cells 36)) wr) (λj _ _=>(intOf j+1).toNat);exact⟨i,by omega,by go_num,rfl,M,eR'⟩;obtain⟨k,S,rfl,rfl,B,a⟩:=hrel;have d:=p.trans' a;rcases Nat.eq_zero_or_pos k with g|g
 .subst g;have r:=aF B (show _= -1 from rfl);have D:¬(0:Int)<=((0:Nat):Int)-1:=by omega
  clear B;go_wp2;go_ret;exact⟨bG r.out.symm,d⟩
 .obtain⟨k,rfl⟩:=gS' k;have s:k<l.length:=by omega
  have E:((k+1:Nat):Int)-1=(k:Int):=by omega
  rw[E];have g:=z0' k;have H:Hid ((l.take (k+1)).reverse=l[k]::(l.take k).reverse):=KH l k s;have y:Hid (((l.take k).reverse.length:Int)=(k:Int)):=ah (by simp;omega);obtain⟨b,o,N,I⟩:=(L.out.ext d).at_ s;subst N;generalize l[k]=x at*;have C:=aF B (show _=if jk T x=5 then rJ T (l.take k).reverse else(k:Int)from by rw[H.out,<- y.out];rfl);have O:=λF:ak wr=>bT' t (a.trans' F.h)
  have P:∀F:ak wr,F.w.cell? ⟨b,o+k,none⟩=some (.int .i64 x):=dJ I;have D:(k:Int)<(l.length:Int):=by omega
  clear B H I y;go_wp2_with fail;refine rX' ?_
  repeat(go_big_quiet_step((go_at_call 337;exact aI (Af t T x _ (K.out.ay (d.trans' (ak.h _))) R))))
  refine wpQuiet_nil ?_;rintro _⟨Q,rfl⟩;have z:=a.trans' Q.h;clear O P;by_cases m:jk T x=5
  .have G:(jk T x==5)=true:=by rw[bq'];exact m
   have r:=aF C (pP' m);clear C m;go_wp2;go_roundw;exact⟨k,by omega,by trivial,rfl,r,z⟩;simp[intOf];omega
  .have G:(jk T x==5)=false:=by rw[aP];exact m
   have r:=aF C (nN' m);clear C m;go_wp2_with fail;rw[Exit.noGoto_ret];go_ret;exact⟨bG r.out.symm,p.trans' z⟩
theorem nO(i d:Int)(w:World)(ht:aN w t T)(L:bU T)(h:au w ⟨A,n,c⟩ l)(M:i<(l.length:Int)):
 cE' 320 #[t.v,.slice A n c,.int .i64 i,.int .i64 d] w (.bool (iy T l i d)):=by
 obtain⟨B,_,_⟩:=h.len;subst B;have C:=ah ht;have D:=ah h;obtain⟨j,g⟩:=eX' (w.alloc (.cells #[.slice t.s0.a t.s0.n t.s0.c,.slice t.s1.a t.s1.n t.s1.c,.slice t.s2.a t.s2.n t.s2.c,.slice t.s3.a t.s3.n t.s3.c,.slice t.s4.a t.s4.n t.s4.c,.slice t.s5.a t.s5.n t.s5.c,.slice t.s6.a t.s6.n t.s6.c,.slice t.s7.a t.s7.n t.s7.c,.slice t.s8.a t.s8.n t.s8.c,.slice t.s9.a t.s9.n t.s9.c,.slice t.s10.a t.s10.n t.s10.c,.slice t.s11.a t.s11.n t.s11.c] 36));have f:Ext w j:=by rw[g];exact eR'.aA _
 by_cases s:i<0
 .have m:Hid (iy T l i d=false):=ah (by simp[iy,s]);go_enter func320,ntmps320;go_wp2;go_ret;exact⟨aJ m.out.symm,by rw[g]at f;exact f⟩
 .obtain⟨k,rfl⟩:=iN' i;have p:k<l.length:=by omega
  have y:Hid (l.getD k 0=l[k]):=getD_lt l k 0 p;obtain⟨b,o,E,z⟩:=(D.out.ext f).at_ p;subst E;generalize l[k]=x at*;have m:Hid (iy T l k d=(jk T x==d||jk T x==3)):=ah (by unfold iy;rw[nN' s,Int.toNat_natCast,y.out]);have F:∀q:ak j,∀k:Nat,q.w.cell? ⟨w.heap.size,k,none⟩=t.v.cells[k]? :=λq=>tY g q.h
  have G:∀q:ak j,q.w.cell? ⟨b,o+k,none⟩=some (.int .i64 x):=dJ z;have H:=z0' k;clear y z;go_enter func320,ntmps320;go_wp2_with fail;rw[<- g];refine rX' ?_
  repeat(go_big_quiet_step((go_at_call 337;exact aI (Af t T x _ (C.out.ay (f.trans' (ak.h _))) L))))
  refine wpQuiet_nil ?_;rintro _⟨I,rfl⟩;have r:=f.trans' I.h;clear F G g f;generalize J:(jk T x==d)=b1 at m;generalize K:(jk T x==3)=b2 at m;cases b1<;>cases b2
  all_goals
   go_wp2;go_ret;exact⟨aJ m.out.symm,r⟩
theorem DT(i:Nat)(w:World)(ht:aN w t T)(q:bU T)(h:au w ⟨A,n,c⟩ l)(D:i<l.length):
 cE' 289 #[t.v,.slice A n c,.int .i64 i] w (.bool (ji T l i)):=by
 obtain⟨hn,_,_⟩:=h.len;subst hn;have m:=ah ht;have r:=ah h;obtain⟨M,f⟩:=eX' (w.alloc (.cells #[.slice t.s0.a t.s0.n t.s0.c,.slice t.s1.a t.s1.n t.s1.c,.slice t.s2.a t.s2.n t.s2.c,.slice t.s3.a t.s3.n t.s3.c,.slice t.s4.a t.s4.n t.s4.c,.slice t.s5.a t.s5.n t.s5.c,.slice t.s6.a t.s6.n t.s6.c,.slice t.s7.a t.s7.n t.s7.c,.slice t.s8.a t.s8.n t.s8.c,.slice t.s9.a t.s9.n t.s9.c,.slice t.s10.a t.s10.n t.s10.c,.slice t.s11.a t.s11.n t.s11.c] 36));have g:Ext w M:=by rw[f];exact eR'.aA _
 have HD:Hid (l.getD i 0=l[i]):=getD_lt l i 0 D;obtain⟨b,o,ha,V⟩:=(r.out.ext g).at_ D;subst ha;have E:=ah (DJ T l i D false);have F:=ah (DJ T l i D true);generalize l[i]=x at*
 have R:Hid (ji T l i=if(!(x==8204)&& !(x==8205))=true then true else if(decide (0<i)&&aH T (l.getD (i-1) 0)==9)=true then true
  else x==8204&&iy T l (fH T l i false) 1&&iy T l (fH T l i true) 2):=ah (by unfold ji;rw[HD.out])
 have S:∀j:ak M,∀k:Nat,j.w.cell? ⟨w.heap.size,k,none⟩=t.v.cells[k]? :=λj=>tY f j.h
 have L:∀j:ak M,j.w.cell? ⟨b,o+i,none⟩=some (.int .i64 x):=dJ V;have a9:=z0' i;have aa:(i:Int)<(l.length:Int):=by omega
 clear HD;have J:(w.alloc (.cells #[.slice t.s0.a t.s0.n t.s0.c,.slice t.s1.a t.s1.n t.s1.c,.slice t.s2.a t.s2.n t.s2.c,.slice t.s3.a t.s3.n t.s3.c,.slice t.s4.a t.s4.n t.s4.c,.slice t.s5.a t.s5.n t.s5.c,.slice t.s6.a t.s6.n t.s6.c,.slice t.s7.a t.s7.n t.s7.c,.slice t.s8.a t.s8.n t.s8.c,.slice t.s9.a t.s9.n t.s9.c,.slice t.s10.a t.s10.n t.s10.c,.slice t.s11.a t.s11.n t.s11.c] 36)).cell? ⟨b,o+i,none⟩=some (.int .i64 x):=by rw[<- f];exact V
 clear V;by_cases G:x=8204\/x=8205
 .have U:Hid (∀W,(decide (0<i)&&aH T (l.getD (i-1) 0)==9)=W->ji T l i=if W=true then true else(x==8204&&iy T l (fH T l i false) 1&&iy T l (fH T l i true) 2)):=ah (by
   intro W h
   rw[R.out,h,nN' (by rcases G with rfl|rfl<;>decide)])
  clear R
  have X:Hid (0<i->∃y,l.getD (i-1) 0=y/\M.cell? ⟨b,o+(i-1),none⟩=some (.int .i64 y)):=ah (λh0=>by
   obtain⟨b',o',Y,h2⟩:=(r.out.ext g).at_ (i:=i-1) (by omega);injection Y with Y;injection Y with e1 e2;subst e1 e2
   exact⟨_,getD_lt l (i-1) 0 (by omega),h2⟩)
  rcases Nat.eq_zero_or_pos i with K|K
  .have hd:decide ((0:Int)<(i:Int))=false:=dF';have P:decide (0<i)=false:=dF';have B:Hid (ji T l i=(x==8204&&iy T l (fH T l i false) 1&&iy T l (fH T l i true) 2)):=ah (by rw[U.out false (by simp[K])];rfl);clear U X K;rcases G with rfl|rfl
   .have C:Hid (ji T l i=(iy T l (fH T l i false) 1&&iy T l (fH T l i true) 2)):=ah (by rw[B.out];simp);clear B;go_enter func289,ntmps289;go_wp2_with fail;rw[<- f];refine rX' ?_
    repeat(go_big_quiet_step(fail))
    refine wpQuiet_nil ?_;rintro _⟨s,rfl⟩;have d:=g.trans' s.h;have Z:∀j:ak s.w,∀k:Nat,j.w.cell? ⟨w.heap.size,k,none⟩=t.v.cells[k]? :=λj=>tY f (s.h.trans' j.h)
    have N:∀j:ak s.w,j.w.cell? ⟨b,o+i,none⟩=some (.int .i64 8204):=dJ (L s);clear S L J f g;cases hJ:iy T l (fH T l i false) 1
    .have p:Hid (ji T l i=false):=ah (by rw[C.out,hJ];rfl);clear C;go_wp2_with fail;refine rX' ?_
     repeat(go_big_quiet_step((first|(go_at_call 321;first|with_reducible exact aI (vg t T l _ _ c i _ (m.out.ay (d.trans' (ak.h _))) q (r.out.ext (d.trans' (ak.h _))) D)|with_reducible exact aI (vk t T l _ _ c i _ (m.out.ay (d.trans' (ak.h _))) q (r.out.ext (d.trans' (ak.h _))) D))|(go_at_call 320;first|with_reducible exact aI (nO t T l _ _ c _ _ _ (m.out.ay (d.trans' (ak.h _))) q (r.out.ext (d.trans' (ak.h _))) E.out.1)|with_reducible exact aI (nO t T l _ _ c _ _ _ (m.out.ay (d.trans' (ak.h _))) q (r.out.ext (d.trans' (ak.h _))) F.out.1)))))
     refine wpQuiet_nil ?_;rintro _⟨H,rfl⟩;have z:=d.trans' H.h;go_wp2;go_ret;exact⟨aJ p.out.symm,z⟩
    .have p:Hid (ji T l i=iy T l (fH T l i true) 2):=ah (by rw[C.out,hJ];rfl);clear C;go_wp2_with fail;refine rX' ?_
     repeat(go_big_quiet_step((first|(go_at_call 321;first|with_reducible exact aI (vg t T l _ _ c i _ (m.out.ay (d.trans' (ak.h _))) q (r.out.ext (d.trans' (ak.h _))) D)|with_reducible exact aI (vk t T l _ _ c i _ (m.out.ay (d.trans' (ak.h _))) q (r.out.ext (d.trans' (ak.h _))) D))|(go_at_call 320;first|with_reducible exact aI (nO t T l _ _ c _ _ _ (m.out.ay (d.trans' (ak.h _))) q (r.out.ext (d.trans' (ak.h _))) E.out.1)|with_reducible exact aI (nO t T l _ _ c _ _ _ (m.out.ay (d.trans' (ak.h _))) q (r.out.ext (d.trans' (ak.h _))) F.out.1)))))
     refine wpQuiet_nil ?_;rintro _⟨H,rfl⟩;have z:=d.trans' H.h;go_wp2;go_ret;exact⟨aJ p.out.symm,z⟩
   .have p:Hid (ji T l i=false):=ah (by rw[B.out];rfl);clear B;go_enter func289,ntmps289;go_wp2_with fail;rw[<- f];refine rX' ?_
    repeat(go_big_quiet_step(fail))
    refine wpQuiet_nil ?_;rintro _⟨s,rfl⟩;have d:=g.trans' s.h;have Z:∀j:ak s.w,∀k:Nat,j.w.cell? ⟨w.heap.size,k,none⟩=t.v.cells[k]? :=λj=>tY f (s.h.trans' j.h)
    have N:∀j:ak s.w,j.w.cell? ⟨b,o+i,none⟩=some (.int .i64 8205):=dJ (L s);clear S L J f g;go_wp2_with fail;refine rX' ?_
    repeat(go_big_quiet_step((first|(go_at_call 321;first|with_reducible exact aI (vg t T l _ _ c i _ (m.out.ay (d.trans' (ak.h _))) q (r.out.ext (d.trans' (ak.h _))) D)|with_reducible exact aI (vk t T l _ _ c i _ (m.out.ay (d.trans' (ak.h _))) q (r.out.ext (d.trans' (ak.h _))) D))|(go_at_call 320;first|with_reducible exact aI (nO t T l _ _ c _ _ _ (m.out.ay (d.trans' (ak.h _))) q (r.out.ext (d.trans' (ak.h _))) E.out.1)|with_reducible exact aI (nO t T l _ _ c _ _ _ (m.out.ay (d.trans' (ak.h _))) q (r.out.ext (d.trans' (ak.h _))) F.out.1)))))
    refine wpQuiet_nil ?_;rintro _⟨H,rfl⟩;have z:=d.trans' H.h;go_wp2;go_ret;exact⟨aJ p.out.symm,z⟩
  .obtain⟨y,hy,O⟩:=X.out K;obtain⟨k,hk⟩:∃k,i=k+1:=⟨i-1,by omega⟩;have hd:decide ((0:Int)<(i:Int))=true:=dT';have P:decide (0<i)=true:=dT';have a5:(i:Int)-1=(k:Int):=(by omega);have Q:i-1=k:=(by omega);rw[Q]at O;have rY:∀j:ak M,j.w.cell? ⟨b,o+k,none⟩=some (.int .i64 y):=dJ O;have Rh:=z0' k;have Ri:(k:Int)<(l.length:Int):=(by omega);have I:=U.out _ rfl;rw[hy,P]at I;clear U X O hk Q;cases hv:(aH T y==9)
   .have B:Hid (ji T l i=(x==8204&&iy T l (fH T l i false) 1&&iy T l (fH T l i true) 2)):=ah (by rw[I,hv];rfl);clear I;rcases G with rfl|rfl
    .have C:Hid (ji T l i=(iy T l (fH T l i false) 1&&iy T l (fH T l i true) 2)):=ah (by rw[B.out];simp);clear B;go_enter func289,ntmps289;go_wp2_with fail;rw[<- f];refine rX' ?_
     repeat(go_big_quiet_step((go_at_call 169;with_reducible exact aI (dL t T y _ (m.out.ay (g.trans' (ak.h _))) q))))
     refine wpQuiet_nil ?_;rintro _⟨s,rfl⟩;have d:=g.trans' s.h;have Z:∀j:ak s.w,∀k:Nat,j.w.cell? ⟨w.heap.size,k,none⟩=t.v.cells[k]? :=λj=>tY f (s.h.trans' j.h)
     have N:∀j:ak s.w,j.w.cell? ⟨b,o+i,none⟩=some (.int .i64 8204):=dJ (L s);clear S L J f g;cases hJ:iy T l (fH T l i false) 1
     .have p:Hid (ji T l i=false):=ah (by rw[C.out,hJ];rfl);clear C;go_wp2_with fail;refine rX' ?_
      repeat(go_big_quiet_step((first|(go_at_call 321;first|with_reducible exact aI (vg t T l _ _ c i _ (m.out.ay (d.trans' (ak.h _))) q (r.out.ext (d.trans' (ak.h _))) D)|with_reducible exact aI (vk t T l _ _ c i _ (m.out.ay (d.trans' (ak.h _))) q (r.out.ext (d.trans' (ak.h _))) D))|(go_at_call 320;first|with_reducible exact aI (nO t T l _ _ c _ _ _ (m.out.ay (d.trans' (ak.h _))) q (r.out.ext (d.trans' (ak.h _))) E.out.1)|with_reducible exact aI (nO t T l _ _ c _ _ _ (m.out.ay (d.trans' (ak.h _))) q (r.out.ext (d.trans' (ak.h _))) F.out.1)))))
      refine wpQuiet_nil ?_;rintro _⟨H,rfl⟩;have z:=d.trans' H.h;go_wp2;go_ret;exact⟨aJ p.out.symm,z⟩
     .have p:Hid (ji T l i=iy T l (fH T l i true) 2):=ah (by rw[C.out,hJ];rfl);clear C;go_wp2_with fail;refine rX' ?_
      repeat(go_big_quiet_step((first|(go_at_call 321;first|with_reducible exact aI (vg t T l _ _ c i _ (m.out.ay (d.trans' (ak.h _))) q (r.out.ext (d.trans' (ak.h _))) D)|with_reducible exact aI (vk t T l _ _ c i _ (m.out.ay (d.trans' (ak.h _))) q (r.out.ext (d.trans' (ak.h _))) D))|(go_at_call 320;first|with_reducible exact aI (nO t T l _ _ c _ _ _ (m.out.ay (d.trans' (ak.h _))) q (r.out.ext (d.trans' (ak.h _))) E.out.1)|with_reducible exact aI (nO t T l _ _ c _ _ _ (m.out.ay (d.trans' (ak.h _))) q (r.out.ext (d.trans' (ak.h _))) F.out.1)))))
      refine wpQuiet_nil ?_;rintro _⟨H,rfl⟩;have z:=d.trans' H.h;go_wp2;go_ret;exact⟨aJ p.out.symm,z⟩
    .have p:Hid (ji T l i=false):=ah (by rw[B.out];rfl);clear B;go_enter func289,ntmps289;go_wp2_with fail;rw[<- f];refine rX' ?_
     repeat(go_big_quiet_step((go_at_call 169;with_reducible exact aI (dL t T y _ (m.out.ay (g.trans' (ak.h _))) q))))
     refine wpQuiet_nil ?_;rintro _⟨s,rfl⟩;have d:=g.trans' s.h;have Z:∀j:ak s.w,∀k:Nat,j.w.cell? ⟨w.heap.size,k,none⟩=t.v.cells[k]? :=λj=>tY f (s.h.trans' j.h)
     have N:∀j:ak s.w,j.w.cell? ⟨b,o+i,none⟩=some (.int .i64 8205):=dJ (L s);clear S L J f g;go_wp2_with fail;refine rX' ?_
     repeat(go_big_quiet_step((first|(go_at_call 321;first|with_reducible exact aI (vg t T l _ _ c i _ (m.out.ay (d.trans' (ak.h _))) q (r.out.ext (d.trans' (ak.h _))) D)|with_reducible exact aI (vk t T l _ _ c i _ (m.out.ay (d.trans' (ak.h _))) q (r.out.ext (d.trans' (ak.h _))) D))|(go_at_call 320;first|with_reducible exact aI (nO t T l _ _ c _ _ _ (m.out.ay (d.trans' (ak.h _))) q (r.out.ext (d.trans' (ak.h _))) E.out.1)|with_reducible exact aI (nO t T l _ _ c _ _ _ (m.out.ay (d.trans' (ak.h _))) q (r.out.ext (d.trans' (ak.h _))) F.out.1)))))
     refine wpQuiet_nil ?_;rintro _⟨H,rfl⟩;have z:=d.trans' H.h;go_wp2;go_ret;exact⟨aJ p.out.symm,z⟩
   .have p:Hid (ji T l i=true):=ah (by rw[I,hv];rfl);clear I;have a0:Hid (x=8204\/x=8205):=G;clear G;rcases a0.out with rfl|rfl
    all_goals
     go_enter func289,ntmps289;go_wp2_with fail;rw[<- f];refine rX' ?_
     repeat(go_big_quiet_step((go_at_call 169;with_reducible exact aI (dL t T y _ (m.out.ay (g.trans' (ak.h _))) q))))
     refine wpQuiet_nil ?_;rintro _⟨s,rfl⟩;have d:=g.trans' s.h;go_wp2;go_ret;exact⟨aJ p.out.symm,d⟩
 .have a1:Hid (ji T l i=true):=ah (by rw[R.out,pP' (by simp only[not_or]at G;simp[G.1,G.2])]);have e1:(x != 8204)=true:=by rw[bne_iff_ne];exact λh=>G (.inl h)
  have e2:(x != 8205)=true:=by rw[bne_iff_ne];exact λh=>G (.inr h)
  clear G R;go_enter func289,ntmps289;go_wp2;go_ret;exact⟨aJ a1.out.symm,by rw[f]at g;exact g⟩
theorem Ji(ht:aN w t T)(h:au w ⟨A,n,c⟩ l):
 cE' 237 #[t.v,.slice A n c] w (.tuple #[.int .i64 (fV T l).1,.int .i64 (fV T l).2]):=by
 obtain⟨C,_,_⟩:=h.len;subst C;have s:=ah ht;have x:=ah h;have b:=dI w t;go_enter func237,ntmps237;go_wp2_with fail;refine(qo t T l A _ c _ (s.out.ay b) (x.out.ext b)).mono ?_;rintro e G⟨v,rfl,o,_⟩;have D:=b.trans' o;by_cases d:aS T l=0
 .have B:=ah (iR (EN d).1);have y:Hid (fV T l=vC T l (l.length-0) 0):=ah (by simp[fV,d]);rw[d];clear d;go_wp2;go_loopw[20] (λj wr=>∃(k:Nat),k<=l.length/\j=.int .i64 k/\Hid (fV T l=vC T l (l.length-k) k)/\Ext (tW' w t) wr) (λj _=>l.length-(intOf j).toNat);exact⟨0,zl' _,rfl,y,o⟩;obtain⟨k,H,rfl,q,f⟩:=hrel;have a:=b.trans' f;have I:=bT' t f;by_cases p:k<l.length
  .have r:=aF q (show _=if ji T l k=true then vC T l (l.length-(k+1)) (k+1)else((k:Int),(17:Int))from by
    rw[show l.length-k=(l.length-(k+1))+1 from by omega];rfl)
   clear q y;cases m:ji T l k
   .have g:=aF r (show _=((k:Int),(17:Int))from by rw[m];simp);have z:=ah m;clear r m;go_wp2_with(go_at_call 289;refine(DT t T l A _ c k _ (s.out.ay a) B.out (x.out.ext a) p).mono ?_;rintro e E⟨rfl,i⟩;rw[z.out]);go_ret2;exact⟨by rw[g.out];rfl,a.trans' i⟩
   .have g:=aF r (show _=vC T l (l.length-(k+1)) (k+1)from by rw[m];simp);have z:=ah m;clear r m;go_wp2_with(go_at_call 289;refine(DT t T l A _ c k _ (s.out.ay a) B.out (x.out.ext a) p).mono ?_;rintro e E⟨rfl,i⟩;rw[z.out]);go_roundw;exact⟨k+1,by omega,by go_num,g,f.trans' i⟩;simp[intOf];omega
  .have g:=aF q (show _=((0:Int),(0:Int))from by rw[show l.length-k=0 from by omega];rfl);clear q y;go_wp2;go_ret2;exact⟨by rw[g.out];rfl,a⟩
 .have F:(aS T l==0)=false:=by rw[aP];exact d
  have g:Hid (fV T l=(0,aS T l)):=ah (by simp[fV,d]);clear d;go_wp2;go_ret2;exact⟨by rw[g.out];rfl,D⟩
end Go.Proofs.YtpmgophlhmcogaaGreatDoor
