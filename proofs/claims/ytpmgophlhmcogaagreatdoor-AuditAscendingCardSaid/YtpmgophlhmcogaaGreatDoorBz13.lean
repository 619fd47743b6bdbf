/- Part Bz13. -/
import Derived.Deep.LoopGhost
import Derived.Test.YtpmgophlhmcogaaGreatDoorBz12
open Go.Proofs.Tryz
namespace Go.Proofs.YtpmgophlhmcogaaGreatDoor
set_option maxHeartbeats 25600000
set_option maxRecDepth 100000
variable (t:TV)(T:aj)(l:List Int)(A:Option Addr)(n c:Nat)(w:World)
def enc1(c:Int):List Int:=
 if c<=127 then[c]else if c<=2047 then[192+c / 64,128+c % 64]
 else if c<=65535 then[224+c / 4096,128+c / 64 % 64,128+c % 64]
 else[240+c / 262144,128+c / 4096 % 64,128+c / 64 % 64,128+c % 64]
def kY(l:List Int):List Int:=l.flatMap enc1
def jT(b:Int):Bool:=decide (128<=b)&&decide (b<=191)
def gV:List Int->Int×Nat
 |[]=>(0,0)
 |a::r=>
  if a<=127 then(a,1)
  else if 192<=a/\a<=223 then match r with
   |b::_=>if jT b=true/\utfLen ((a-192)*64+(b-128))=2 then((a-192)*64+(b-128),2)else(0,0)
   |_=>(0,0)
  else if 224<=a/\a<=239 then match r with
   |b::c::_=>if jT b=true/\jT c=true/\utfLen (((a-224)*64+(b-128))*64+(c-128))=3 then(((a-224)*64+(b-128))*64+(c-128),3)else(0,0)
   |_=>(0,0)
  else if 240<=a/\a<=247 then match r with
   |b::c::d::_=>if jT b=true/\jT c=true/\jT d=true/\utfLen ((((a-240)*64+(b-128))*64+(c-128))*64+(d-128))=4 then((((a-240)*64+(b-128))*64+(c-128))*64+(d-128),4)else(0,0)
   |_=>(0,0)
  else(0,0)
theorem uw{c:Int}(h:aX c=true):0<=c/\c<=1114111:=by
 simp only[aX,aQ,aW]at h;exact h.1
def pO:Nat->List Int->List Int×Nat
 |0,_=>([],0)
 |f+1,l=>if(gV l).2=0 then([],0)else let d:=pO f (l.drop (gV l).2);((gV l).1::d.1,(gV l).2+d.2)
def ig(l:List Int):List Int×Nat:=pO l.length l
theorem EJ:(gV l).2<=l.length:=by
 unfold gV;split
 .simp
 .split
  .simp
  .split
   .split
    .split<;>simp
    .simp
   .split
    .split
     .split<;>simp
     .simp
    .split
     .split
      .split<;>simp
      .simp
     .simp
theorem Ey:∀(f g:Nat)(l:List Int),l.length<=f->l.length<=g->pO f l=pO g l
 |0,0,_,_,_=>rfl
 |0,g+1,l,h,_=>by
  have:l=[]:=List.eq_nil_of_length_eq_zero (by omega);subst this;simp[pO,gV]
 |f+1,0,l,_,h=>by
  have:l=[]:=List.eq_nil_of_length_eq_zero (by omega);subst this;simp[pO,gV]
 |f+1,g+1,l,h1,h2=>by
  unfold pO;by_cases a:(gV l).2=0
  .simp[a]
  .rw[nN' a,nN' a];have b:(l.drop (gV l).2).length=l.length-(gV l).2:=List.length_drop;rw[Ey f g _ (by omega) (by omega)]
theorem Ld{l:List Int}(h:(gV l).2≠0):ig l=((gV l).1::(ig (l.drop (gV l).2)).1,(gV l).2+(ig (l.drop (gV l).2)).2):=by
 have b:=EJ l;unfold ig;obtain⟨n,a⟩:∃n,l.length=n+1:=⟨l.length-1,by omega⟩;rw[a,pO,nN' h,Ey n (l.drop (gV l).2).length _ (by rw[List.length_drop];omega) (lr' _)]
theorem Le{l:List Int}(h:(gV l).2=0):ig l=([],0):=by
 unfold ig;cases a:l.length with
 |zero=>rfl
 |succ n=>rw[pO,pP' h]
open Go.RowKit
def hd8(a:Int):Nat×Int:=
 if a<=127 then(1,a)else if 192<=a/\a<=223 then(2,a-192)else if 224<=a/\a<=239 then(3,a-224)else if 240<=a/\a<=247 then(4,a-240)else(0,0)
theorem LJ{a b c d:Int}(h:a=c)(k:b=d):Ending.returned (.tuple #[.int .i64 a,.int .i64 b])=.returned (.tuple #[.int .i64 c,.int .i64 d]):=by rw[h,k]
theorem JU(a:Int)(h:0<=a/\a<256)(w:World):cW' 281 #[.int .u8 a] w (.tuple #[.int .i64 (hd8 a).1,.int .i64 (hd8 a).2]):=by
 go_enter func281,ntmps281;go_wp2
 all_goals(go_ret2;refine⟨LJ ?_ ?_,rfl⟩<;>unfold hd8<;>(repeat' split)<;>first|rfl|omega|(simp only[];omega))
theorem LK{a:Int}(h:0<=a/\a<256):(hd8 a).1<=4/\0<=(hd8 a).2/\(hd8 a).2<128:=by
 unfold hd8
 repeat' split
 all_goals(simp only[];omega)
def mD:Int->List Int->Option Int
 |c,[]=>some c
 |c,b::r=>if jT b=true then mD (c*64+(b-128)) r else none
theorem Lj{l:List Int}{a:Int}{r:List Int}(o:l=a::r)(h:0<=a):gV l=
 if(hd8 a).1=0\/l.length<(hd8 a).1 then(0,0)else match mD (hd8 a).2 (r.take ((hd8 a).1-1))with
  |none=>(0,0)
  |some c=>if utfLen c=(hd8 a).1 then(c,(hd8 a).1)else(0,0):=by
 subst o;have m:0<=a->a<=127->utfLen a=1:=by
  intro f g;unfold utfLen;have:aX a=true:=by simp[aX];omega
  rw[this];simp[g]
 unfold gV hd8;by_cases f:a<=127
 .simp[f,mD,m h f]
 by_cases g:192<=a/\a<=223
 .simp only[nN' f,pP' g]
  match r with
  |[]=>simp
  |b::r=>
   simp only[List.take,mD];cases j:jT b<;>simp
   omega
 by_cases i:224<=a/\a<=239
 .simp only[nN' f,nN' g,pP' i]
  match r with
  |[]=>simp
  |[b]=>simp
  |b::c::r=>
   simp only[List.take,mD];cases j:jT b<;>cases n:jT c<;>simp
   omega
 by_cases k:240<=a/\a<=247
 .simp only[nN' f,nN' g,nN' i,pP' k]
  match r with
  |[]=>simp
  |[b]=>simp
  |[b,c]=>simp
  |b::c::d::r=>
   simp only[List.take,mD];cases j:jT b<;>cases n:jT c<;>cases p:jT d<;>simp
   omega
 .simp[f,g,i,k]
theorem EO(n:Int)(a:0<=n)(b:n<2 ^ 31):IntKind.i64.wrap n=n:=by rw[IntKind.wrap_i64];omega
theorem uy(i:Nat)(x y:Int)(f:0<=x)(a:x % 2 ^ i=0)(b:x<2147483648)(g:0<=y)(c:y<2 ^ i)(d:y<2147483648):bits .or .i64 x y=x+y:=
 bits_join .i64 31 (by decide) EO i x y f a b g c d
theorem Bc(x:Int)(a:0<=x)(b:x<2147483648):bits .and .i64 x 63=x % 64:=bits_mask .i64 31 (by decide) EO 6 (by decide) x a b
def LM(w:World)(c0:Int)(bs:List Int)(g:Nat)(s7 s36:Value)(wx:World):Prop:=
 ∃(k:Nat)(c:Int),g+k=bs.length/\s36=.int .i64 k/\s7=.int .i64 c/\0<=c/\c<128*64 ^ k/\Hid (mD c0 bs=mD c (bs.drop k))/\wx=w
theorem Lm(x:IsB l)(k:Nat)(N:k<l.length)(hm:l.length<=1099511627776)(w:World):
 cE' 227 #[.string (sB l),.int .i64 k] w (.tuple #[.int .i64 (gV (l.drop k)).1,.int .i64 (gV (l.drop k)).2]):=by
 have R:=AY (w:=w) x N;have z:=x _ (gM' N);have g:=ah (Lj (drop_at l k N) z.1);have S:=ah x;have O:=LK z;have A:=ah (JU l[k] z w);rw[List.length_drop]at g;generalize l[k]=a at*;generalize hd8 a=p at*;obtain⟨n,P⟩:=p;simp only at g O A;generalize gV (l.drop k)=V at*;clear x;go_enter func227,ntmps227;go_wp2_with fail;refine A.out.mono ?_;rintro e w'⟨rfl,rfl⟩;clear R A;by_cases T:n=0
 .rw[pP' (.inl T)]at g;go_wp2;go_ret2;exact⟨by rw[g.out];rfl,eR'⟩
 have e1:((n:Int)==0)=false:=bF';by_cases B:l.length-k<n
 .rw[pP' (.inr B)]at g;have U:decide ((l.length:Int)-k<n)=true:=dT';go_wp2;go_ret2;exact⟨by rw[g.out];rfl,eR'⟩
 have U:decide ((l.length:Int)-k<n)=false:=dF';rw[nN' (by omega)]at g;have i:=Ew (w:=w) (l:=l) (k:=k+1) (m:=k+n) (by omega) (by omega);rw[show k+n-(k+1)=n-1 by omega]at i
 push_cast at i
 have Q:=ah (yN (wV S.out (k+1)) (n-1));have W:((l.drop (k+1)).take (n-1)).length=n-1:=by rw[List.length_take,List.length_drop];omega
 generalize(l.drop (k+1)).take (n-1)=bs at*;obtain⟨cc,X,C,o,q,_⟩:=yO (w:=w) Q.out (by omega);have D:=ah o;have r:=ah q;go_wp2_with fail;clear i C o q;go_loopg[7,36] bs.length (λY Z E wx=>LM X P bs Y Z E wx);exact⟨0,P,by omega,rfl,rfl,O.2.1,by omega,ah rfl,rfl⟩;obtain⟨j,c,hg,rfl,rfl,a1,F,s,rfl⟩:=hrel;by_cases G:j<bs.length
 .obtain⟨H,rfl⟩:=gS' gk;obtain⟨b',o',I,J⟩:=D.out.at_ G;injection I with I;injection I with e5 e6;subst e5 e6;rw[Nat.zero_add]at J;have a5:=Q.out _ (gM' G);have K:Hid (bs.drop j=bs[j]::bs.drop (j+1)):=drop_at bs j G;generalize bs[j]=y at*;cases d:jT y
  .have b:Hid (V=(0,0)):=ah (by rw[g.out,s.out,K.out];simp[mD,d]);have f:=r.out;by_cases h1:y<128
   .go_wp2;go_ret2;exact⟨by rw[b.out];rfl,f⟩
   .have h2:191<y:=(by simp only[jT,aF',bf]at d;omega);go_wp2;go_ret2;exact⟨by rw[b.out];rfl,f⟩
  .have h2:128<=y/\y<=191:=by simp only[jT,aQ,aW]at d;exact d
   have L:=aF s (show mD c (bs.drop j)=mD (c*64+(y-128)) (bs.drop (j+1))from by rw[K.out,mD,pP' d]);have a7:c<524288:=by
    rcases(show j=0\/j=1\/j=2 by omega)with h|h|h<;>(rw[h]at F;omega)
   have a8:bits .or .i64 (c*64) (y % 64)=c*64+(y-128):=(by rw[uy 6 _ _ (by omega) (by omega) (by omega) (by omega) (by omega) (by omega)];omega);have M:c*64+(y-128)<128*64 ^ (j+1):=(by rw[Int.pow_succ];omega);clear s K;go_wp2;go_roundg H;exact⟨j+1,_,by omega,by go_num,rfl,by omega,M,L,rfl⟩;omega
 .have hd:bs.drop j=[]:=bV bs j (by omega);have b:Hid (V=if utfLen c=n then(c,n)else(0,0)):=ah (by rw[g.out,s.out,hd];simp[mD]);have f:=r.out;clear g s;go_wp2_with fail;refine(qh _ _).mono ?_;rintro e w'⟨rfl,rfl⟩;generalize utfLen c=u at*;by_cases t:u=n
  .rw[pP' t]at b;have e3:(u != (n:Int))=false:=(by rw[t];simp);go_wp2;go_ret2;exact⟨by rw[b.out];rfl,f⟩
  .rw[nN' t]at b;have e3:(u != (n:Int))=true:=(by rw[bne_iff_ne];exact t);go_wp2;go_ret2;exact⟨by rw[b.out];rfl,f⟩
def QF(w:World)(l:List Int)(g:Nat)(s4 s5:Value)(wx:World):Prop:=
 ∃(A:Option Addr)(c k:Nat)(acc:List Int),g+k=l.length/\s4=.slice A acc.length c/\s5=.int .i64 k/\aB wx w.heap.size A acc.length c acc/\Ext w wx/\acc.length<=k/\Hid (ig l=(acc++(ig (l.drop k)).1,k+(ig (l.drop k)).2))
theorem LP(D:IsB l)(U:l.length<=1099511600000)(w:World):
 Calls prog 176 #[.string (sB l)] w λe w'=>∃A n c,e=.returned (.tuple #[.slice A n c,.int .i64 (ig l).2])/\au w' ⟨A,n,c⟩ (ig l).1/\Ext w w':=by
 have E:=ah D;clear D;go_enter func176,ntmps176;go_wp2;go_loopg[4,5] l.length (λF G H I=>QF w l F G H I);exact⟨none,0,0,[],by omega,rfl,rfl,Own.nil_ _ _ _ _,eR',lr' _,ah (by simp)⟩;obtain⟨A,c,k,b,R,rfl,rfl,d,y,J,q⟩:=hrel;have z:=ah d;have B:=ah y;clear d y;by_cases K:k<l.length
 .go_wp2_with fail;refine(Lm l E.out k K (by omega) wr).mono ?_;rintro e S⟨rfl,f⟩;have r:=ah (@Ld (l.drop k));have s:=ah (@Le (l.drop k));have g:=EJ (l.drop k);rw[List.drop_drop]at r;rw[List.length_drop]at g;generalize gV (l.drop k)=p at*;obtain⟨x,n⟩:=p;simp only at r s g;have h:=ah (B.out.trans' f);have i:=ah (Own.ext z.out f);clear f;by_cases C:n=0
  .have j:Hid (ig l=(b,k)):=ah (by rw[q.out,s.out C];simp);have L:((n:Int)==0)=true:=(by rw[bq'];omega);go_wp2;go_ret2;exact⟨A,_,c,by rw[j.out];rfl,by rw[j.out];exact aB.ints i.out,h.out⟩
  .have L:((n:Int)==0)=false:=bF';have t:=aF q (show _=((b++[x])++(ig (l.drop (k+n))).1,(k+n:Nat)+(ig (l.drop (k+n))).2)from by rw[r.out C];simp[Nat.add_assoc]);obtain⟨M,N,T,m,a,o,_⟩:=yU i.out h.out x (by omega);have O:=ah a;have P:=ah o;clear q r s a o;go_wp2_with(at_builtin;refine bP rfl _ _ _ rfl _ _ rfl rfl _ _ m ?_);go_roundg (l.length-(k+n));exact⟨M,N,k+n,b++[x],by omega,by simp,by go_num,by simpa using O.out,P.out,by simp;omega,t⟩;omega
 .have Q:l.drop k=[]:=bV l k (by omega);have j:Hid (ig l=(b,k)):=ah (by rw[q.out,Q];simp[ig,pO]);go_wp2;go_ret2;exact⟨A,_,c,by rw[j.out];rfl,by rw[j.out];exact aB.ints z.out,B.out⟩
def fC(l:List Int):List Int×Int×Int:=if 4096<l.length then([],0,7)else if(ig l).2<l.length then([],((ig l).2:Int),9)else((ig l).1,0,0)
def Hq(w:World)(d:List Int×Int×Int)(e:Ending)(w':World):Prop:=∃A n c,e=.returned (.tuple #[.slice A n c,.int .i64 d.2.1,.int .i64 d.2.2])/\au w' ⟨A,n,c⟩ d.1/\Ext w w'
theorem udec_spec(k:IsB l)(w:World):Calls prog 112 #[.string (sB l)] w (Hq w (fC l)):=by
 have a:Hid (fC l=(if 4096<l.length then([],0,7)else if(ig l).2<l.length then([],((ig l).2:Int),9)else((ig l).1,0,0):List Int×Int×Int)):=rfl;generalize fC l=D at*;have o:=ah k;clear k;by_cases b:4096<l.length
 .rw[pP' b]at a;go_enter func112,ntmps112;go_wp2;go_ret3;exact⟨none,0,0,by rw[a.out];rfl,by rw[a.out];exact au.nil_ w,eR'⟩
 rw[nN' b]at a;go_enter func112,ntmps112;go_wp2_with fail;refine(LP l o.out (by omega) w).mono ?_;rintro e p⟨A,n,c,rfl,f,g⟩;have h:=ah f;have i:=ah g;clear f g;generalize ig l=d at*;obtain⟨q,m⟩:=d;simp only at a h;by_cases j:m<l.length
 .rw[pP' j]at a;go_wp2;go_ret3;exact⟨none,0,0,by rw[a.out];rfl,by rw[a.out];exact au.nil_ _,i.out⟩
 .rw[nN' j]at a;go_wp2;go_ret3;exact⟨A,n,c,by rw[a.out];rfl,by rw[a.out];exact h.out,i.out⟩
def ET(w0:World)(l:List Int)(e:Ending)(w':World):Prop:=∃A n c,e=.returned (.slice A n c)/\n=l.length/\OwnB w' w0.heap.size A n c l/\Ext w0 w'
theorem uput_spec(q w:World)(A:Option Addr)(n c:Nat)(l:List Int)(x:Int)(r:aX x=true)(h:OwnB w q.heap.size A n c l)(B:Ext q w)(C:n=l.length)(M:n<=1099511000000):
 Calls prog 175 #[.slice A n c,.int .i64 x] w (ET q (l++enc1 x)):=by
 have D:=uw r;have g:utfLen x=if x<=127 then 1 else if x<=2047 then 2 else if x<=65535 then 3 else 4:=by unfold utfLen;rw[r];simp
 have f:Hid (enc1 x=if x<=127 then[x]else if x<=2047 then[192+x / 64,128+x % 64]else if x<=65535 then[224+x / 4096,128+x / 64 % 64,128+x % 64]else[240+x / 262144,128+x / 4096 % 64,128+x / 64 % 64,128+x % 64]):=rfl;have k:=ah h;have m:=ah B;have o:=ah C;clear h B r C;generalize enc1 x=E at*;go_enter func175,ntmps175;go_wp2_with fail;refine(qh _ _).mono ?_;rintro e F⟨rfl,rfl⟩;by_cases s:x<=127
 .rw[pP' s]at g f;rw[g];obtain⟨i,j,p,b,a,d,_⟩:=qU k.out m.out #[.int .u8 x] [x] 1 rfl rfl (by omega) (by omega);go_wp2_with(at_builtin;refine bP rfl _ _ _ rfl _ _ rfl rfl _ _ b ?_);go_ret;exact⟨i,_,j,rfl,by rw[f.out];simp[o.out],by rw[f.out];exact a,d⟩
 rw[nN' s]at g f;have G:=Bc x (by omega) (by omega);have H:bits .or .i64 128 (x % 64)=128+x % 64:=uy 6 _ _ (by omega) (by omega) (by omega) (by omega) (by omega) (by omega);by_cases t:x<=2047
 .rw[pP' t]at g f;rw[g];have y:bits .or .i64 192 (x / 64)=192+x / 64:=uy 6 _ _ (by omega) (by omega) (by omega) (by omega) (by omega) (by omega);obtain⟨i,j,p,b,a,d,_⟩:=qU k.out m.out #[.int .u8 (192+x / 64),.int .u8 (128+x % 64)] [192+x / 64,128+x % 64] 2 rfl rfl (by omega) (by omega);go_wp2_with(at_builtin;refine bP rfl _ _ _ rfl _ _ rfl rfl _ _ b ?_);go_ret;exact⟨i,_,j,rfl,by rw[f.out];simp[o.out],by rw[f.out];exact a,d⟩
 rw[nN' t]at g f;have I:=Bc (x / 64) (by omega) (by omega);have J:bits .or .i64 128 (x / 64 % 64)=128+x / 64 % 64:=uy 6 _ _ (by omega) (by omega) (by omega) (by omega) (by omega) (by omega);by_cases z:x<=65535
 .rw[pP' z]at g f;rw[g];have y:bits .or .i64 224 (x / 4096)=224+x / 4096:=uy 4 _ _ (by omega) (by omega) (by omega) (by omega) (by omega) (by omega);obtain⟨i,j,p,b,a,d,_⟩:=qU k.out m.out #[.int .u8 (224+x / 4096),.int .u8 (128+x / 64 % 64),.int .u8 (128+x % 64)] [224+x / 4096,128+x / 64 % 64,128+x % 64] 3 rfl rfl (by omega) (by omega);go_wp2_with(at_builtin;refine bP rfl _ _ _ rfl _ _ rfl rfl _ _ b ?_);go_ret;exact⟨i,_,j,rfl,by rw[f.out];simp[o.out],by rw[f.out];exact a,d⟩
 .rw[nN' z]at g f;rw[g];have y:bits .or .i64 240 (x / 262144)=240+x / 262144:=uy 4 _ _ (by omega) (by omega) (by omega) (by omega) (by omega) (by omega);have K:=Bc (x / 4096) (by omega) (by omega);have L:bits .or .i64 128 (x / 4096 % 64)=128+x / 4096 % 64:=uy 6 _ _ (by omega) (by omega) (by omega) (by omega) (by omega) (by omega);obtain⟨i,j,p,b,a,d,_⟩:=qU k.out m.out #[.int .u8 (240+x / 262144),.int .u8 (128+x / 4096 % 64),.int .u8 (128+x / 64 % 64),.int .u8 (128+x % 64)] [240+x / 262144,128+x / 4096 % 64,128+x / 64 % 64,128+x % 64] 4 rfl rfl (by omega) (by omega);go_wp2_with(at_builtin;refine bP rfl _ _ _ rfl _ _ rfl rfl _ _ b ?_);go_ret;exact⟨i,_,j,rfl,by rw[f.out];simp[o.out],by rw[f.out];exact a,d⟩
def jU(l:List Int):List Int×Int:=if 4096<l.length then([],7)else if l.any (λc=> !aX c)then([],3)else(kY l,0)
def xk(w:World)(d:List Int×Int)(e:Ending)(w':World):Prop:=e=.returned (.tuple #[.string (sB d.1),.int .i64 d.2])/\Ext w w'
theorem LQ(c:Int):(enc1 c).length<=4:=by unfold enc1;split;simp;split;simp;split<;>simp
def LZ(w:World)(l:List Int)(g:Nat)(s4 s12:Value)(wx:World):Prop:=
 ∃(A:Option Addr)(n c k:Nat),g+k=l.length/\s12=.int .i64 k/\s4=.slice A n c/\n=(kY (l.take k)).length/\n<=4*k/\OwnB wx w.heap.size A n c (kY (l.take k))/\Ext w wx/\Hid ((l.take k).any (λc=> !aX c)=false)
theorem uenc_spec(K:au w ⟨A,n,c⟩ l):Calls prog 110 #[.slice A n c] w (xk w (jU l)):=by
 have j:Hid (jU l=if 4096<l.length then([],7)else if l.any (λc=> !aX c)then([],3)else(kY l,0)):=rfl;generalize jU l=D at*;have O:=K.len.1;subst O;have P:=ah K;clear K;by_cases L:4096<l.length
 .rw[pP' L]at j;go_enter func110,ntmps110;go_wp2;go_ret2;exact⟨by rw[j.out];rfl,eR'⟩
 rw[nN' L]at j;go_enter func110,ntmps110;go_wp2;go_loopg[4,12] l.length (λQ R z S=>LZ w l Q R z S);exact⟨none,0,0,0,by omega,rfl,rfl,rfl,by omega,Own.nil_ _ _ _ _,eR',rfl⟩;obtain⟨B,m,d,k,hg,rfl,rfl,M,T,h,i,p⟩:=hrel;have s:=ah h;have t:=ah i;have C:=ah M;clear h i M;by_cases y:k<l.length
 .obtain⟨b,o,U,V⟩:=(P.out.ext t.out).at_ y;subst U;have q:=ah (xq (f:=λc=> !aX c) y);have r:=ah (anyM (f:=λc=> !aX c) y);have E:Hid (kY (l.take (k+1))=kY (l.take k)++enc1 l[k]):=ah (by rw[tS' y];unfold kY;rw[List.flatMap_append];simp);generalize l[k]=x at*;go_wp2_with fail;refine(AL _ _).mono ?_;rintro e w'⟨rfl,rfl⟩;cases F:aX x
  .have G:Hid (D=([],3)):=ah (by rw[j.out,pP' (r.out (by simp[F]))]);have i:=t.out;go_wp2;go_ret2;exact⟨by rw[G.out];rfl,i⟩
  .have H:Hid ((l.take (k+1)).any (λc=> !aX c)=false):=ah (by rw[q.out,p.out];simp[F]);go_wp2_with fail;refine(uput_spec w wr B m d _ x F s.out t.out C.out (by omega)).mono ?_;rintro e w2⟨W,N,X,rfl,g,a,I⟩;have h4:=LQ x;rw[<- E.out]at g a;have h5:N<=m+4:=(by rw[g,E.out,lA',C.out];omega);have J:=ah g;clear g p q r E;go_wp2;go_roundg (l.length-(k+1));exact⟨W,N,X,k+1,by omega,by go_num,rfl,J.out,by omega,a,I,H⟩;omega
 .have Y:l.take k=l:=tL' (by omega);rw[Y]at s p;have G:Hid (D=(kY l,0)):=ah (by rw[j.out,nN' (by rw[p.out];simp)]);have Z:=wU (OwnB.AX s.out);have i:=t.out;clear s C p;go_wp2;go_ret2;exact⟨by rw[G.out];rfl,i⟩
end Go.Proofs.YtpmgophlhmcogaaGreatDoor
