/- Part Bw08. -/
import Derived.Deep.LoopGhost
import Derived.WalkMore
import Derived.Test.YtljilcbobhmkgaaGreatDoorBw06
open Go.Proofs.Tryz
namespace Go.Proofs.YtljilcbobhmkgaaGreatDoor
set_option maxHeartbeats 25600000
set_option maxRecDepth 100000
variable (t:TV)(T:ak)(l:List Int)(A:Option Addr)(n c:Nat)(w:World)
def enc1(c:Int):List Int:=
 if c<=127 then[c]else if c<=2047 then[192+c / 64,128+c % 64]
 else if c<=65535 then[224+c / 4096,128+c / 64 % 64,128+c % 64]
 else[240+c / 262144,128+c / 4096 % 64,128+c / 64 % 64,128+c % 64]
def lN(l:List Int):List Int:=l.flatMap enc1
def iF(b:Int):Bool:=decide (128<=b)&&decide (b<=191)
def dI:List Int->Int×Nat
 |[]=>(0,0)
 |a::r=>
  if a<=127 then(a,1)
  else if 192<=a/\a<=223 then match r with
   |b::_=>if iF b=true/\utfLen ((a-192)*64+(b-128))=2 then((a-192)*64+(b-128),2)else(0,0)
   |_=>(0,0)
  else if 224<=a/\a<=239 then match r with
   |b::c::_=>if iF b=true/\iF c=true/\utfLen (((a-224)*64+(b-128))*64+(c-128))=3 then(((a-224)*64+(b-128))*64+(c-128),3)else(0,0)
   |_=>(0,0)
  else if 240<=a/\a<=247 then match r with
   |b::c::d::_=>if iF b=true/\iF c=true/\iF d=true/\utfLen ((((a-240)*64+(b-128))*64+(c-128))*64+(d-128))=4 then((((a-240)*64+(b-128))*64+(c-128))*64+(d-128),4)else(0,0)
   |_=>(0,0)
  else(0,0)
theorem Y6{c:Int}(h:bn c=true):((enc1 c).length:Int)=utfLen c:=by
 unfold enc1 utfLen;rw[h];simp only[Bool.true_eq_false,if_false];split
 .rfl
 .split
  .rfl
  .split<;>rfl
theorem uT{c:Int}(h:bn c=true):0<=c/\c<=1114111:=by
 simp only[bn,aT,au]at h;exact h.1
theorem Y2{c:Int}(h:bn c=true)(r:List Int):dI (enc1 c++r)=(c,(enc1 c).length):=by
 have l:=uT h;have b:utfLen c=if c<=127 then 1 else if c<=2047 then 2 else if c<=65535 then 3 else 4:=by unfold utfLen;rw[h];simp
 unfold enc1;by_cases a:c<=127
 .simp[a,dI]
 by_cases d:c<=2047
 .rw[nN' a,pP' d];have e:(192+c / 64-192)*64+(128+c % 64-128)=c:=by omega
  have k:iF (128+c % 64)=true:=by simp[iF];omega
  rw[nN' a,pP' d]at b;show dI ((192+c / 64)::(128+c % 64)::r)=_
  simp only[dI];rw[nN' (by omega),pP' (by omega)];simp only[e];rw[pP' ⟨k,b⟩];rfl
 by_cases f:c<=65535
 .rw[nN' a,nN' d,pP' f];have e:((224+c / 4096-224)*64+(128+c / 64 % 64-128))*64+(128+c % 64-128)=c:=by omega
  have g:iF (128+c / 64 % 64)=true:=by simp[iF];omega
  have i:iF (128+c % 64)=true:=by simp[iF];omega
  rw[nN' a,nN' d,pP' f]at b;show dI ((224+c / 4096)::(128+c / 64 % 64)::(128+c % 64)::r)=_
  simp only[dI];rw[nN' (by omega),nN' (by omega),pP' (by omega)];simp only[e];rw[pP' ⟨g,i,b⟩];rfl
 .rw[nN' a,nN' d,nN' f];have e:(((240+c / 262144-240)*64+(128+c / 4096 % 64-128))*64+(128+c / 64 % 64-128))*64+(128+c % 64-128)=c:=by omega
  have g:iF (128+c / 4096 % 64)=true:=by simp[iF];omega
  have i:iF (128+c / 64 % 64)=true:=by simp[iF];omega
  have j:iF (128+c % 64)=true:=by simp[iF];omega
  rw[nN' a,nN' d,nN' f]at b;show dI ((240+c / 262144)::(128+c / 4096 % 64)::(128+c / 64 % 64)::(128+c % 64)::r)=_
  simp only[dI];rw[nN' (by omega),nN' (by omega),nN' (by omega),pP' (by omega)];simp only[e];rw[pP' ⟨g,i,j,b⟩];rfl
def wF:Nat->List Int->List Int×Nat
 |0,_=>([],0)
 |f+1,l=>if(dI l).2=0 then([],0)else let d:=wF f (l.drop (dI l).2);((dI l).1::d.1,(dI l).2+d.2)
def jd(l:List Int):List Int×Nat:=wF l.length l
theorem FZ:(dI l).2<=l.length:=by
 unfold dI;split
 .simp
 .split
  .simp
  .split
   .split
    .split<;>simp
    .simp
   .split
    .split
     .split<;>simp
     .simp
    .split
     .split
      .split<;>simp
      .simp
     .simp
theorem OY:∀(f g:Nat)(l:List Int),l.length<=f->l.length<=g->wF f l=wF g l
 |0,0,_,_,_=>rfl
 |0,g+1,l,h,_=>by
  have:l=[]:=List.eq_nil_of_length_eq_zero (by omega);subst this;simp[wF,dI]
 |f+1,0,l,_,h=>by
  have:l=[]:=List.eq_nil_of_length_eq_zero (by omega);subst this;simp[wF,dI]
 |f+1,g+1,l,h1,h2=>by
  unfold wF;by_cases a:(dI l).2=0
  .simp[a]
  .rw[nN' a,nN' a];have b:(l.drop (dI l).2).length=l.length-(dI l).2:=List.length_drop;rw[OY f g _ (by omega) (by omega)]
theorem Pn{l:List Int}(h:(dI l).2≠0):jd l=((dI l).1::(jd (l.drop (dI l).2)).1,(dI l).2+(jd (l.drop (dI l).2)).2):=by
 have b:=FZ l;unfold jd;obtain⟨n,a⟩:∃n,l.length=n+1:=⟨l.length-1,by omega⟩;rw[a,wF,nN' h,OY n (l.drop (dI l).2).length _ (by rw[List.length_drop];omega) (lr' _)]
theorem PE{l:List Int}(h:(dI l).2=0):jd l=([],0):=by
 unfold jd;cases a:l.length with
 |zero=>rfl
 |succ n=>rw[wF,pP' h]
open Go.RowKit
def hd8(a:Int):Nat×Int:=
 if a<=127 then(1,a)else if 192<=a/\a<=223 then(2,a-192)else if 224<=a/\a<=239 then(3,a-224)else if 240<=a/\a<=247 then(4,a-240)else(0,0)
theorem Yr{a b c d:Int}(h:a=c)(k:b=d):Ending.returned (.tuple #[.int .i64 a,.int .i64 b])=.returned (.tuple #[.int .i64 c,.int .i64 d]):=by rw[h,k]
theorem Xk(a:Int)(h:0<=a/\a<256)(w:World):cW' 284 #[.int .u8 a] w (.tuple #[.int .i64 (hd8 a).1,.int .i64 (hd8 a).2]):=by
 go_enter func284,ntmps284;go_wp2
 all_goals(go_ret2;refine⟨Yr ?_ ?_,rfl⟩<;>unfold hd8<;>(repeat' split)<;>first|rfl|omega|(simp only[];omega))
theorem Yt{a:Int}(h:0<=a/\a<256):(hd8 a).1<=4/\0<=(hd8 a).2/\(hd8 a).2<128:=by
 unfold hd8
 repeat' split
 all_goals(simp only[];omega)
def uh:Int->List Int->Option Int
 |c,[]=>some c
 |c,b::r=>if iF b=true then uh (c*64+(b-128)) r else none
theorem Y7{l:List Int}{a:Int}{r:List Int}(o:l=a::r)(h:0<=a):dI l=
 if(hd8 a).1=0\/l.length<(hd8 a).1 then(0,0)else match uh (hd8 a).2 (r.take ((hd8 a).1-1))with
  |none=>(0,0)
  |some c=>if utfLen c=(hd8 a).1 then(c,(hd8 a).1)else(0,0):=by
 subst o;have m:0<=a->a<=127->utfLen a=1:=by
  intro f g;unfold utfLen;have:bn a=true:=by simp[bn];omega
  rw[this];simp[g]
 unfold dI hd8;by_cases f:a<=127
 .simp[f,uh,m h f]
 by_cases g:192<=a/\a<=223
 .simp only[nN' f,pP' g]
  match r with
  |[]=>simp
  |b::r=>
   simp only[List.take,uh];cases j:iF b<;>simp
   omega
 by_cases i:224<=a/\a<=239
 .simp only[nN' f,nN' g,pP' i]
  match r with
  |[]=>simp
  |[b]=>simp
  |b::c::r=>
   simp only[List.take,uh];cases j:iF b<;>cases n:iF c<;>simp
   omega
 by_cases k:240<=a/\a<=247
 .simp only[nN' f,nN' g,nN' i,pP' k]
  match r with
  |[]=>simp
  |[b]=>simp
  |[b,c]=>simp
  |b::c::d::r=>
   simp only[List.take,uh];cases j:iF b<;>cases n:iF c<;>cases p:iF d<;>simp
   omega
 .simp[f,g,i,k]
theorem PK(n:Int)(a:0<=n)(b:n<2 ^ 31):IntKind.i64.wrap n=n:=by rw[IntKind.wrap_i64];omega
theorem Ar(i:Nat)(x y:Int)(f:0<=x)(a:x % 2 ^ i=0)(b:x<2147483648)(g:0<=y)(c:y<2 ^ i)(d:y<2147483648):bits .or .i64 x y=x+y:=
 bits_join .i64 31 (by decide) PK i x y f a b g c d
theorem JF(x:Int)(a:0<=x)(b:x<2147483648):bits .and .i64 x 63=x % 64:=bits_mask .i64 31 (by decide) PK 6 (by decide) x a b
def Yu(w:World)(c0:Int)(bs:List Int)(g:Nat)(s7 s36:Value)(wx:World):Prop:=
 ∃(k:Nat)(c:Int),g+k=bs.length/\s36=.int .i64 k/\s7=.int .i64 c/\0<=c/\c<128*64 ^ k/\Hid (uh c0 bs=uh c (bs.drop k))/\wx=w
theorem Ya(x:IsB l)(k:Nat)(N:k<l.length)(hm:l.length<=1099511627776)(w:World):
 cE' 235 #[.string (sB l),.int .i64 k] w (.tuple #[.int .i64 (dI (l.drop k)).1,.int .i64 (dI (l.drop k)).2]):=by
 have R:=Jv (w:=w) x N;have z:=x _ (gM' N);have g:=ah (Y7 (drop_at l k N) z.1);have S:=ah x;have O:=Yt z;have A:=ah (Xk l[k] z w);rw[List.length_drop]at g;generalize l[k]=a at*;generalize hd8 a=p at*;obtain⟨n,P⟩:=p;simp only at g O A;generalize dI (l.drop k)=V at*;clear x;go_enter func235,ntmps235;go_wp2_with fail;refine A.out.mono ?_;rintro e w'⟨rfl,rfl⟩;clear R A;by_cases T:n=0
 .rw[pP' (.inl T)]at g;go_wp2;go_ret2;exact⟨by rw[g.out];rfl,eR'⟩
 have e1:((n:Int)==0)=false:=bF';by_cases B:l.length-k<n
 .rw[pP' (.inr B)]at g;have U:decide ((l.length:Int)-k<n)=true:=dT';go_wp2;go_ret2;exact⟨by rw[g.out];rfl,eR'⟩
 have U:decide ((l.length:Int)-k<n)=false:=dF';rw[nN' (by omega)]at g;have i:=OX (w:=w) (l:=l) (k:=k+1) (m:=k+n) (by omega) (by omega);rw[show k+n-(k+1)=n-1 by omega]at i
 push_cast at i
 have Q:=ah (wX (zB S.out (k+1)) (n-1));have W:((l.drop (k+1)).take (n-1)).length=n-1:=by rw[List.length_take,List.length_drop];omega
 generalize(l.drop (k+1)).take (n-1)=bs at*;obtain⟨cc,X,C,o,q,_⟩:=FT (w:=w) Q.out (by omega);have D:=ah o;have r:=ah q;go_wp2_with fail;clear i C o q;go_loopg[7,36] bs.length (λY Z E wx=>Yu X P bs Y Z E wx);exact⟨0,P,by omega,rfl,rfl,O.2.1,by omega,ah rfl,rfl⟩;obtain⟨j,c,hg,rfl,rfl,a1,F,s,rfl⟩:=hrel;by_cases G:j<bs.length
 .obtain⟨H,rfl⟩:=gS' gk;obtain⟨b',o',I,J⟩:=D.out.at_ G;injection I with I;injection I with e5 e6;subst e5 e6;rw[Nat.zero_add]at J;have a5:=Q.out _ (gM' G);have K:Hid (bs.drop j=bs[j]::bs.drop (j+1)):=drop_at bs j G;generalize bs[j]=y at*;cases d:iF y
  .have b:Hid (V=(0,0)):=ah (by rw[g.out,s.out,K.out];simp[uh,d]);have f:=r.out;by_cases h1:y<128
   .go_wp2;go_ret2;exact⟨by rw[b.out];rfl,f⟩
   .have h2:191<y:=(by simp only[iF,aF',aA]at d;omega);go_wp2;go_ret2;exact⟨by rw[b.out];rfl,f⟩
  .have h2:128<=y/\y<=191:=by simp only[iF,aT,au]at d;exact d
   have L:=aI s (show uh c (bs.drop j)=uh (c*64+(y-128)) (bs.drop (j+1))from by rw[K.out,uh,pP' d]);have a7:c<524288:=by
    rcases(show j=0\/j=1\/j=2 by omega)with h|h|h<;>(rw[h]at F;omega)
   have a8:bits .or .i64 (c*64) (y % 64)=c*64+(y-128):=(by rw[Ar 6 _ _ (by omega) (by omega) (by omega) (by omega) (by omega) (by omega)];omega);have M:c*64+(y-128)<128*64 ^ (j+1):=(by rw[Int.pow_succ];omega);clear s K;go_wp2;go_roundg H;exact⟨j+1,_,by omega,by go_num,rfl,by omega,M,L,rfl⟩;omega
 .have hd:bs.drop j=[]:=bM bs j (by omega);have b:Hid (V=if utfLen c=n then(c,n)else(0,0)):=ah (by rw[g.out,s.out,hd];simp[uh]);have f:=r.out;clear g s;go_wp2_with fail;refine(xI _ _).mono ?_;rintro e w'⟨rfl,rfl⟩;generalize utfLen c=u at*;by_cases t:u=n
  .rw[pP' t]at b;have e3:(u != (n:Int))=false:=(by rw[t];simp);go_wp2;go_ret2;exact⟨by rw[b.out];rfl,f⟩
  .rw[nN' t]at b;have e3:(u != (n:Int))=true:=(by rw[bne_iff_ne];exact t);go_wp2;go_ret2;exact⟨by rw[b.out];rfl,f⟩
def UY(w:World)(l:List Int)(g:Nat)(s4 s5:Value)(wx:World):Prop:=
 ∃(A:Option Addr)(c k:Nat)(acc:List Int),g+k=l.length/\s4=.slice A acc.length c/\s5=.int .i64 k/\aK wx w.heap.size A acc.length c acc/\Ext w wx/\acc.length<=k/\Hid (jd l=(acc++(jd (l.drop k)).1,k+(jd (l.drop k)).2))
theorem Yv(D:IsB l)(U:l.length<=1099511600000)(w:World):
 Calls prog 182 #[.string (sB l)] w λe w'=>∃A n c,e=.returned (.tuple #[.slice A n c,.int .i64 (jd l).2])/\aC w' ⟨A,n,c⟩ (jd l).1/\Ext w w':=by
 have E:=ah D;clear D;go_enter func182,ntmps182;go_wp2;go_loopg[4,5] l.length (λF G H I=>UY w l F G H I);exact⟨none,0,0,[],by omega,rfl,rfl,Own.nil_ _ _ _ _,eR',lr' _,ah (by simp)⟩;obtain⟨A,c,k,b,R,rfl,rfl,d,y,J,q⟩:=hrel;have z:=ah d;have B:=ah y;clear d y;by_cases K:k<l.length
 .go_wp2_with fail;refine(Ya l E.out k K (by omega) wr).mono ?_;rintro e S⟨rfl,f⟩;have r:=ah (@Pn (l.drop k));have s:=ah (@PE (l.drop k));have g:=FZ (l.drop k);rw[List.drop_drop]at r;rw[List.length_drop]at g;generalize dI (l.drop k)=p at*;obtain⟨x,n⟩:=p;simp only at r s g;have h:=ah (B.out.trans' f);have i:=ah (Own.ext z.out f);clear f;by_cases C:n=0
  .have j:Hid (jd l=(b,k)):=ah (by rw[q.out,s.out C];simp);have L:((n:Int)==0)=true:=(by rw[bq'];omega);go_wp2;go_ret2;exact⟨A,_,c,by rw[j.out];rfl,by rw[j.out];exact aK.ints i.out,h.out⟩
  .have L:((n:Int)==0)=false:=bF';have t:=aI q (show _=((b++[x])++(jd (l.drop (k+n))).1,(k+n:Nat)+(jd (l.drop (k+n))).2)from by rw[r.out C];simp[Nat.add_assoc]);obtain⟨M,N,T,m,a,o,_⟩:=xA i.out h.out x (by omega);have O:=ah a;have P:=ah o;clear q r s a o;go_wp2_with(at_builtin;refine dA rfl _ _ _ rfl _ _ rfl rfl _ _ m ?_);go_roundg (l.length-(k+n));exact⟨M,N,k+n,b++[x],by omega,by simp,by go_num,by simpa using O.out,P.out,by simp;omega,t⟩;omega
 .have Q:l.drop k=[]:=bM l k (by omega);have j:Hid (jd l=(b,k)):=ah (by rw[q.out,Q];simp[jd,wF]);go_wp2;go_ret2;exact⟨A,_,c,by rw[j.out];rfl,by rw[j.out];exact aK.ints z.out,B.out⟩
def gG(l:List Int):List Int×Int×Int:=if 4096<l.length then([],0,7)else if(jd l).2<l.length then([],((jd l).2:Int),9)else((jd l).1,0,0)
def H6(w:World)(d:List Int×Int×Int)(e:Ending)(w':World):Prop:=∃A n c,e=.returned (.tuple #[.slice A n c,.int .i64 d.2.1,.int .i64 d.2.2])/\aC w' ⟨A,n,c⟩ d.1/\Ext w w'
theorem udec_spec(k:IsB l)(w:World):Calls prog 116 #[.string (sB l)] w (H6 w (gG l)):=by
 have a:Hid (gG l=(if 4096<l.length then([],0,7)else if(jd l).2<l.length then([],((jd l).2:Int),9)else((jd l).1,0,0):List Int×Int×Int)):=rfl;generalize gG l=D at*;have o:=ah k;clear k;by_cases b:4096<l.length
 .rw[pP' b]at a;go_enter func116,ntmps116;go_wp2;go_ret3;exact⟨none,0,0,by rw[a.out];rfl,by rw[a.out];exact aC.nil_ w,eR'⟩
 rw[nN' b]at a;go_enter func116,ntmps116;go_wp2_with fail;refine(Yv l o.out (by omega) w).mono ?_;rintro e p⟨A,n,c,rfl,f,g⟩;have h:=ah f;have i:=ah g;clear f g;generalize jd l=d at*;obtain⟨q,m⟩:=d;simp only at a h;by_cases j:m<l.length
 .rw[pP' j]at a;go_wp2;go_ret3;exact⟨none,0,0,by rw[a.out];rfl,by rw[a.out];exact aC.nil_ _,i.out⟩
 .rw[nN' j]at a;go_wp2;go_ret3;exact⟨A,n,c,by rw[a.out];rfl,by rw[a.out];exact h.out,i.out⟩
def Q9(w0:World)(l:List Int)(e:Ending)(w':World):Prop:=∃A n c,e=.returned (.slice A n c)/\n=l.length/\OwnB w' w0.heap.size A n c l/\Ext w0 w'
theorem uput_spec(q w:World)(A:Option Addr)(n c:Nat)(l:List Int)(x:Int)(r:bn x=true)(h:OwnB w q.heap.size A n c l)(B:Ext q w)(C:n=l.length)(M:n<=1099511000000):
 Calls prog 181 #[.slice A n c,.int .i64 x] w (Q9 q (l++enc1 x)):=by
 have D:=uT r;have g:utfLen x=if x<=127 then 1 else if x<=2047 then 2 else if x<=65535 then 3 else 4:=by unfold utfLen;rw[r];simp
 have f:Hid (enc1 x=if x<=127 then[x]else if x<=2047 then[192+x / 64,128+x % 64]else if x<=65535 then[224+x / 4096,128+x / 64 % 64,128+x % 64]else[240+x / 262144,128+x / 4096 % 64,128+x / 64 % 64,128+x % 64]):=rfl;have k:=ah h;have m:=ah B;have o:=ah C;clear h B r C;generalize enc1 x=E at*;go_enter func181,ntmps181;go_wp2_with fail;refine(xI _ _).mono ?_;rintro e F⟨rfl,rfl⟩;by_cases s:x<=127
 .rw[pP' s]at g f;rw[g];obtain⟨i,j,p,b,a,d,_⟩:=yG k.out m.out #[.int .u8 x] [x] 1 rfl rfl (by omega) (by omega);go_wp2_with(at_builtin;refine dA rfl _ _ _ rfl _ _ rfl rfl _ _ b ?_);go_ret;exact⟨i,_,j,rfl,by rw[f.out];simp[o.out],by rw[f.out];exact a,d⟩
 rw[nN' s]at g f;have G:=JF x (by omega) (by omega);have H:bits .or .i64 128 (x % 64)=128+x % 64:=Ar 6 _ _ (by omega) (by omega) (by omega) (by omega) (by omega) (by omega);by_cases t:x<=2047
 .rw[pP' t]at g f;rw[g];have y:bits .or .i64 192 (x / 64)=192+x / 64:=Ar 6 _ _ (by omega) (by omega) (by omega) (by omega) (by omega) (by omega);obtain⟨i,j,p,b,a,d,_⟩:=yG k.out m.out #[.int .u8 (192+x / 64),.int .u8 (128+x % 64)] [192+x / 64,128+x % 64] 2 rfl rfl (by omega) (by omega);go_wp2_with(at_builtin;refine dA rfl _ _ _ rfl _ _ rfl rfl _ _ b ?_);go_ret;exact⟨i,_,j,rfl,by rw[f.out];simp[o.out],by rw[f.out];exact a,d⟩
 rw[nN' t]at g f;have I:=JF (x / 64) (by omega) (by omega);have J:bits .or .i64 128 (x / 64 % 64)=128+x / 64 % 64:=Ar 6 _ _ (by omega) (by omega) (by omega) (by omega) (by omega) (by omega);by_cases z:x<=65535
 .rw[pP' z]at g f;rw[g];have y:bits .or .i64 224 (x / 4096)=224+x / 4096:=Ar 4 _ _ (by omega) (by omega) (by omega) (by omega) (by omega) (by omega);obtain⟨i,j,p,b,a,d,_⟩:=yG k.out m.out #[.int .u8 (224+x / 4096),.int .u8 (128+x / 64 % 64),.int .u8 (128+x % 64)] [224+x / 4096,128+x / 64 % 64,128+x % 64] 3 rfl rfl (by omega) (by omega);go_wp2_with(at_builtin;refine dA rfl _ _ _ rfl _ _ rfl rfl _ _ b ?_);go_ret;exact⟨i,_,j,rfl,by rw[f.out];simp[o.out],by rw[f.out];exact a,d⟩
 .rw[nN' z]at g f;rw[g];have y:bits .or .i64 240 (x / 262144)=240+x / 262144:=Ar 4 _ _ (by omega) (by omega) (by omega) (by omega) (by omega) (by omega);have K:=JF (x / 4096) (by omega) (by omega);have L:bits .or .i64 128 (x / 4096 % 64)=128+x / 4096 % 64:=Ar 6 _ _ (by omega) (by omega) (by omega) (by omega) (by omega) (by omega);obtain⟨i,j,p,b,a,d,_⟩:=yG k.out m.out #[.int .u8 (240+x / 262144),.int .u8 (128+x / 4096 % 64),.int .u8 (128+x / 64 % 64),.int .u8 (128+x % 64)] [240+x / 262144,128+x / 4096 % 64,128+x / 64 % 64,128+x % 64] 4 rfl rfl (by omega) (by omega);go_wp2_with(at_builtin;refine dA rfl _ _ _ rfl _ _ rfl rfl _ _ b ?_);go_ret;exact⟨i,_,j,rfl,by rw[f.out];simp[o.out],by rw[f.out];exact a,d⟩
def mQ(l:List Int):List Int×Int:=if 4096<l.length then([],7)else if l.any (λc=> !bn c)then([],3)else(lN l,0)
def xB(w:World)(d:List Int×Int)(e:Ending)(w':World):Prop:=e=.returned (.tuple #[.string (sB d.1),.int .i64 d.2])/\Ext w w'
theorem PN(c:Int):(enc1 c).length<=4:=by unfold enc1;split;simp;split;simp;split<;>simp
def YD(w:World)(l:List Int)(g:Nat)(s4 s12:Value)(wx:World):Prop:=
 ∃(A:Option Addr)(n c k:Nat),g+k=l.length/\s12=.int .i64 k/\s4=.slice A n c/\n=(lN (l.take k)).length/\n<=4*k/\OwnB wx w.heap.size A n c (lN (l.take k))/\Ext w wx/\Hid ((l.take k).any (λc=> !bn c)=false)
theorem uenc_spec(K:aC w ⟨A,n,c⟩ l):Calls prog 114 #[.slice A n c] w (xB w (mQ l)):=by
 have j:Hid (mQ l=if 4096<l.length then([],7)else if l.any (λc=> !bn c)then([],3)else(lN l,0)):=rfl;generalize mQ l=D at*;have O:=K.len.1;subst O;have P:=ah K;clear K;by_cases L:4096<l.length
 .rw[pP' L]at j;go_enter func114,ntmps114;go_wp2;go_ret2;exact⟨by rw[j.out];rfl,eR'⟩
 rw[nN' L]at j;go_enter func114,ntmps114;go_wp2;go_loopg[4,12] l.length (λQ R z S=>YD w l Q R z S);exact⟨none,0,0,0,by omega,rfl,rfl,rfl,by omega,Own.nil_ _ _ _ _,eR',rfl⟩;obtain⟨B,m,d,k,hg,rfl,rfl,M,T,h,i,p⟩:=hrel;have s:=ah h;have t:=ah i;have C:=ah M;clear h i M;by_cases y:k<l.length
 .obtain⟨b,o,U,V⟩:=(P.out.ext t.out).at_ y;subst U;have q:=ah (xC (f:=λc=> !bn c) y);have r:=ah (anyM (f:=λc=> !bn c) y);have E:Hid (lN (l.take (k+1))=lN (l.take k)++enc1 l[k]):=ah (by rw[tS' y];unfold lN;rw[List.flatMap_append];simp);generalize l[k]=x at*;go_wp2_with fail;refine(Je _ _).mono ?_;rintro e w'⟨rfl,rfl⟩;cases F:bn x
  .have G:Hid (D=([],3)):=ah (by rw[j.out,pP' (r.out (by simp[F]))]);have i:=t.out;go_wp2;go_ret2;exact⟨by rw[G.out];rfl,i⟩
  .have H:Hid ((l.take (k+1)).any (λc=> !bn c)=false):=ah (by rw[q.out,p.out];simp[F]);go_wp2_with fail;refine(uput_spec w wr B m d _ x F s.out t.out C.out (by omega)).mono ?_;rintro e w2⟨W,N,X,rfl,g,a,I⟩;have h4:=PN x;rw[<- E.out]at g a;have h5:N<=m+4:=(by rw[g,E.out,lA',C.out];omega);have J:=ah g;clear g p q r E;go_wp2;go_roundg (l.length-(k+1));exact⟨W,N,X,k+1,by omega,by go_num,rfl,J.out,by omega,a,I,H⟩;omega
 .have Y:l.take k=l:=tL' (by omega);rw[Y]at s p;have G:Hid (D=(lN l,0)):=ah (by rw[j.out,nN' (by rw[p.out];simp)]);have Z:=BO (OwnB.Ju s.out);have i:=t.out;clear s C p;go_wp2;go_ret2;exact⟨by rw[G.out];rfl,i⟩
def oO(T:ak):Nat->List Int->Int
 |_,[]=> -1
 |k,x::r=>if jQ T x=5 then oO T (k+1) r else k
def qp(T:ak):List Int->Int
 |[]=> -1
 |x::r=>if jQ T x=5 then qp T r else r.length
def jh(T:ak)(l:List Int)(i:Nat)(up:Bool):Int:=if up=true then oO T (i+1) (l.drop (i+1))else qp T (l.take i).reverse
def rQ(T:ak)(l:List Int)(i:Int):Bool:=aV T l==0&&decide (0<=i)&&decide (i<(l.length:Int))
def leftV(T:ak)(l:List Int)(i:Int):Int:=if rQ T l i=true then jh T l i.toNat false else -1
def wK(T:ak)(l:List Int)(i:Int):Int:=if rQ T l i=true then jh T l i.toNat true else -1
def fG(T:ak)(l:List Int)(i side:Int):Bool:=if i<0 then false else(jQ T (l.getD i.toNat 0)==side||jQ T (l.getD i.toNat 0)==3)
def lF(T:ak)(l:List Int)(i:Nat):Bool:=
 if(!(l.getD i 0==8204)&& !(l.getD i 0==8205))=true then true
 else if(decide (0<i)&&aG T (l.getD (i-1) 0)==9)=true then true
 else l.getD i 0==8204&&fG T l (jh T l i false) 1&&fG T l (jh T l i true) 2
def vI(T:ak)(l:List Int)(i:Int):Bool:=rQ T l i&&lF T l i.toNat
def wR(T:ak)(l:List Int):Nat->Nat->Int×Int
 |0,_=>(0,0)
 |n+1,i=>if lF T l i=true then wR T l n (i+1)else(i,17)
def fD(T:ak)(l:List Int):Int×Int:=if aV T l=0 then wR T l l.length 0 else(0,aV T l)
theorem QB(T:ak):∀(l:List Int)(k:Nat),oO T k l<(k+l.length:Nat)/\(oO T k l= -1\/(k:Int)<=oO T k l)
 |[],k=>⟨by simp[oO];omega,.inl rfl⟩
 |x::r,k=>by
  simp only[oO,List.length_cons];by_cases h:jQ T x=5
  .rw[pP' h];obtain⟨b,a⟩:=QB T r (k+1);exact⟨by omega,a.imp id (by omega)⟩
  .rw[nN' h];omega
theorem PG(T:ak):∀(l:List Int),qp T l<(l.length:Int)/\ -1<=qp T l
 |[]=>by simp[qp]
 |x::r=>by
  simp only[qp,List.length_cons];by_cases h:jQ T x=5
  .rw[pP' h];obtain⟨a,b⟩:=PG T r;omega
  .rw[nN' h];omega
theorem Fp(i:Nat)(h:i<l.length)(a:Bool):jh T l i a<(l.length:Int)/\ -1<=jh T l i a:=by
 cases a
 .have:=PG T (l.take i).reverse;simp only[List.length_reverse,List.length_take]at this;simp only[jh,Bool.false_eq_true,if_false];omega
 .have:=QB T (l.drop (i+1)) (i+1);simp only[List.length_drop]at this;simp only[jh,if_true];omega
theorem Ad{t:TV}{w b w':World}(a:b=(tW' w t))(c:Ext b w'):∀k:Nat,w'.cell? ⟨w.heap.size,k,none⟩=t.v.cells[k]? :=by
 subst a;exact aP c
theorem OT(k:Nat)(h:k<l.length):(l.take (k+1)).reverse=l[k]::(l.take k).reverse:=by
 rw[tS' h];simp
theorem JD{T:ak}{l:List Int}(h:aV T l=0):bV T=true/\l.length<=4096:=by
 unfold aV at h;cases a:bV T
 .rw[a]at h;simp at h
 .rw[a]at h;simp only[Bool.true_eq_false,if_false]at h;by_cases b:4096<(l.length:Int)
  .rw[pP' b]at h;omega
  .exact⟨rfl,by omega⟩
theorem BH(i:Nat)(w:World)(ht:aS w t T)(O:fP T)(h:aC w ⟨A,n,c⟩ l)(Q:i<l.length):
 cE' 322 #[t.v,.slice A n c,.int .i64 i,.int .i64 1] w (.int .i64 (jh T l i true)):=by
 obtain⟨F,_,_⟩:=h.len;subst F;have G:=ah ht;have H:=ah h;have m:Ext w (w.alloc (.cells t.v.cells 26)):=eR'.ay _;have I:Hid (jh T l i true=oO T (i+1) (l.drop (i+1))):=rfl;go_enter func322,ntmps322;go_wp2_with fail;go_step3;go_wp2_with fail;go_step3;go_wp2;go_loopw[2,9] (λj f wr=>∃(k:Nat),k<=l.length/\j=.int .i64 k/\f=.int .i64 (-1)/\Hid (jh T l i true=oO T k (l.drop k))/\Ext (w.alloc (.cells t.v.cells 26)) wr) (λj _ _=>l.length-(intOf j).toNat);exact⟨i+1,by omega,by go_num,rfl,I,eR'⟩;obtain⟨k,P,rfl,rfl,s,a⟩:=hrel;have d:=m.trans' a;have J:=z0' k;by_cases p:k<l.length
 .have D:=ah (drop_at l k p);obtain⟨b,o,K,E⟩:=(H.out.ext d).at_ p;subst K;generalize l[k]=x at*;have y:=aI s (show _=if jQ T x=5 then oO T (k+1) (l.drop (k+1))else(k:Int)from by rw[D.out];rfl);have L:=λz:aj wr=>bT' t (a.trans' z.h)
  have M:∀z:aj wr,z.w.cell? ⟨b,o+k,none⟩=some (.int .i64 x):=bY E;have B:(k:Int)<(l.length:Int):=by omega
  clear s D E;go_wp2_with fail;refine rX' ?_
  repeat(go_big_quiet_step((go_at_call 336;exact aQ (Iu t T x _ (G.out.aB (d.trans' (aj.h _))) O))))
  refine wpQuiet_nil ?_;rintro _⟨N,rfl⟩;have q:=a.trans' N.h;clear L M;by_cases g:jQ T x=5
  .have C:(jQ T x==5)=true:=by rw[bq'];exact g
   have r:=aI y (pP' g);clear y g;go_wp2;go_roundw;exact⟨k+1,by omega,by go_num,rfl,r,q⟩;simp[intOf];omega
  .have C:(jQ T x==5)=false:=by rw[aH];exact g
   have r:=aI y (nN' g);clear y g;go_wp2_with fail;rw[Exit.noGoto_ret];go_ret;exact⟨aU r.out.symm,m.trans' q⟩
 .have r:=aI s (show _= -1 from by rw[bM l k (by omega)];rfl);have B:¬(k:Int)<(l.length:Int):=by omega
  clear s;go_wp2;go_ret;exact⟨aU r.out.symm,d⟩
theorem BG(i:Nat)(w:World)(ht:aS w t T)(R:fP T)(h:aC w ⟨A,n,c⟩ l)(U:i<l.length):
 cE' 322 #[t.v,.slice A n c,.int .i64 i,.int .i64 (-1)] w (.int .i64 (jh T l i false)):=by
 obtain⟨J,_,_⟩:=h.len;subst J;have K:=ah ht;have L:=ah h;have p:Ext w (w.alloc (.cells t.v.cells 26)):=eR'.ay _;have M:Hid (jh T l i false=qp T (l.take i).reverse):=rfl;go_enter func322,ntmps322;go_wp2_with fail;go_step3;go_wp2_with fail;go_step3;go_wp2;go_loopw[2,9] (λj f wr=>∃(k:Nat),k<=l.length/\j=.int .i64 ((k:Int)-1)/\f=.int .i64 (-1)/\Hid (jh T l i false=qp T (l.take k).reverse)/\Ext (w.alloc (.cells t.v.cells 26)) wr) (λj _ _=>(intOf j+1).toNat);exact⟨i,by omega,by go_num,rfl,M,eR'⟩;obtain⟨k,S,rfl,rfl,B,a⟩:=hrel;have d:=p.trans' a;rcases Nat.eq_zero_or_pos k with g|g
 .subst g;have r:=aI B (show _= -1 from rfl);have D:¬(0:Int)<=((0:Nat):Int)-1:=by omega
  clear B;go_wp2;go_ret;exact⟨aU r.out.symm,d⟩
 .obtain⟨k,rfl⟩:=gS' k;have s:k<l.length:=by omega
  have E:((k+1:Nat):Int)-1=(k:Int):=by omega
  rw[E];have g:=z0' k;have H:Hid ((l.take (k+1)).reverse=l[k]::(l.take k).reverse):=OT l k s;have y:Hid (((l.take k).reverse.length:Int)=(k:Int)):=ah (by simp;omega);obtain⟨b,o,N,I⟩:=(L.out.ext d).at_ s;subst N;generalize l[k]=x at*;have C:=aI B (show _=if jQ T x=5 then qp T (l.take k).reverse else(k:Int)from by rw[H.out,<- y.out];rfl);have O:=λF:aj wr=>bT' t (a.trans' F.h)
  have P:∀F:aj wr,F.w.cell? ⟨b,o+k,none⟩=some (.int .i64 x):=bY I;have D:(k:Int)<(l.length:Int):=by omega
  clear B H I y;go_wp2_with fail;refine rX' ?_
  repeat(go_big_quiet_step((go_at_call 336;exact aQ (Iu t T x _ (K.out.aB (d.trans' (aj.h _))) R))))
  refine wpQuiet_nil ?_;rintro _⟨Q,rfl⟩;have z:=a.trans' Q.h;clear O P;by_cases m:jQ T x=5
  .have G:(jQ T x==5)=true:=by rw[bq'];exact m
   have r:=aI C (pP' m);clear C m;go_wp2;go_roundw;exact⟨k,by omega,by trivial,rfl,r,z⟩;simp[intOf];omega
  .have G:(jQ T x==5)=false:=by rw[aH];exact m
   have r:=aI C (nN' m);clear C m;go_wp2_with fail;rw[Exit.noGoto_ret];go_ret;exact⟨aU r.out.symm,p.trans' z⟩
theorem vJ(i d:Int)(w:World)(ht:aS w t T)(L:fP T)(h:aC w ⟨A,n,c⟩ l)(M:i<(l.length:Int)):
 cE' 321 #[t.v,.slice A n c,.int .i64 i,.int .i64 d] w (.bool (fG T l i d)):=by
 obtain⟨B,_,_⟩:=h.len;subst B;have C:=ah ht;have D:=ah h;obtain⟨j,g⟩:=eX' (w.alloc (.cells #[.slice t.s0.a t.s0.n t.s0.c,.slice t.s1.a t.s1.n t.s1.c,.slice t.s2.a t.s2.n t.s2.c,.slice t.s3.a t.s3.n t.s3.c,.slice t.s4.a t.s4.n t.s4.c,.slice t.s5.a t.s5.n t.s5.c,.slice t.s6.a t.s6.n t.s6.c,.slice t.s7.a t.s7.n t.s7.c,.slice t.s8.a t.s8.n t.s8.c,.slice t.s9.a t.s9.n t.s9.c,.slice t.s10.a t.s10.n t.s10.c,.slice t.s11.a t.s11.n t.s11.c] 26));have f:Ext w j:=by rw[g];exact eR'.ay _
 by_cases s:i<0
 .have m:Hid (fG T l i d=false):=ah (by simp[fG,s]);go_enter func321,ntmps321;go_wp2;go_ret;exact⟨aO m.out.symm,by rw[g]at f;exact f⟩
 .obtain⟨k,rfl⟩:=iN' i;have p:k<l.length:=by omega
  have y:Hid (l.getD k 0=l[k]):=getD_lt l k 0 p;obtain⟨b,o,E,z⟩:=(D.out.ext f).at_ p;subst E;generalize l[k]=x at*;have m:Hid (fG T l k d=(jQ T x==d||jQ T x==3)):=ah (by unfold fG;rw[nN' s,Int.toNat_natCast,y.out]);have F:∀q:aj j,∀k:Nat,q.w.cell? ⟨w.heap.size,k,none⟩=t.v.cells[k]? :=λq=>Ad g q.h
  have G:∀q:aj j,q.w.cell? ⟨b,o+k,none⟩=some (.int .i64 x):=bY z;have H:=z0' k;clear y z;go_enter func321,ntmps321;go_wp2_with fail;rw[<- g];refine rX' ?_
  repeat(go_big_quiet_step((go_at_call 336;exact aQ (Iu t T x _ (C.out.aB (f.trans' (aj.h _))) L))))
  refine wpQuiet_nil ?_;rintro _⟨I,rfl⟩;have r:=f.trans' I.h;clear F G g f;generalize J:(jQ T x==d)=b1 at m;generalize K:(jQ T x==3)=b2 at m;cases b1<;>cases b2
  all_goals
   go_wp2;go_ret;exact⟨aO m.out.symm,r⟩
theorem O6(i:Nat)(w:World)(ht:aS w t T)(q:fP T)(h:aC w ⟨A,n,c⟩ l)(D:i<l.length):
 cE' 292 #[t.v,.slice A n c,.int .i64 i] w (.bool (lF T l i)):=by
 obtain⟨hn,_,_⟩:=h.len;subst hn;have m:=ah ht;have r:=ah h;obtain⟨M,f⟩:=eX' (w.alloc (.cells #[.slice t.s0.a t.s0.n t.s0.c,.slice t.s1.a t.s1.n t.s1.c,.slice t.s2.a t.s2.n t.s2.c,.slice t.s3.a t.s3.n t.s3.c,.slice t.s4.a t.s4.n t.s4.c,.slice t.s5.a t.s5.n t.s5.c,.slice t.s6.a t.s6.n t.s6.c,.slice t.s7.a t.s7.n t.s7.c,.slice t.s8.a t.s8.n t.s8.c,.slice t.s9.a t.s9.n t.s9.c,.slice t.s10.a t.s10.n t.s10.c,.slice t.s11.a t.s11.n t.s11.c] 26));have g:Ext w M:=by rw[f];exact eR'.ay _
 have HD:Hid (l.getD i 0=l[i]):=getD_lt l i 0 D;obtain⟨b,o,ha,V⟩:=(r.out.ext g).at_ D;subst ha;have E:=ah (Fp T l i D false);have F:=ah (Fp T l i D true);generalize l[i]=x at*
 have R:Hid (lF T l i=if(!(x==8204)&& !(x==8205))=true then true else if(decide (0<i)&&aG T (l.getD (i-1) 0)==9)=true then true
  else x==8204&&fG T l (jh T l i false) 1&&fG T l (jh T l i true) 2):=ah (by unfold lF;rw[HD.out])
 have S:∀j:aj M,∀k:Nat,j.w.cell? ⟨w.heap.size,k,none⟩=t.v.cells[k]? :=λj=>Ad f j.h
 have L:∀j:aj M,j.w.cell? ⟨b,o+i,none⟩=some (.int .i64 x):=bY V;have a9:=z0' i;have aa:(i:Int)<(l.length:Int):=by omega
 clear HD;have J:(w.alloc (.cells #[.slice t.s0.a t.s0.n t.s0.c,.slice t.s1.a t.s1.n t.s1.c,.slice t.s2.a t.s2.n t.s2.c,.slice t.s3.a t.s3.n t.s3.c,.slice t.s4.a t.s4.n t.s4.c,.slice t.s5.a t.s5.n t.s5.c,.slice t.s6.a t.s6.n t.s6.c,.slice t.s7.a t.s7.n t.s7.c,.slice t.s8.a t.s8.n t.s8.c,.slice t.s9.a t.s9.n t.s9.c,.slice t.s10.a t.s10.n t.s10.c,.slice t.s11.a t.s11.n t.s11.c] 26)).cell? ⟨b,o+i,none⟩=some (.int .i64 x):=by rw[<- f];exact V
 clear V;by_cases G:x=8204\/x=8205
 .have U:Hid (∀W,(decide (0<i)&&aG T (l.getD (i-1) 0)==9)=W->lF T l i=if W=true then true else(x==8204&&fG T l (jh T l i false) 1&&fG T l (jh T l i true) 2)):=ah (by
   intro W h
   rw[R.out,h,nN' (by rcases G with rfl|rfl<;>decide)])
  clear R
  have X:Hid (0<i->∃y,l.getD (i-1) 0=y/\M.cell? ⟨b,o+(i-1),none⟩=some (.int .i64 y)):=ah (λh0=>by
   obtain⟨b',o',Y,h2⟩:=(r.out.ext g).at_ (i:=i-1) (by omega);injection Y with Y;injection Y with e1 e2;subst e1 e2
   exact⟨_,getD_lt l (i-1) 0 (by omega),h2⟩)
  rcases Nat.eq_zero_or_pos i with K|K
  .have hd:decide ((0:Int)<(i:Int))=false:=dF';have P:decide (0<i)=false:=dF';have B:Hid (lF T l i=(x==8204&&fG T l (jh T l i false) 1&&fG T l (jh T l i true) 2)):=ah (by rw[U.out false (by simp[K])];rfl);clear U X K;rcases G with rfl|rfl
   .have C:Hid (lF T l i=(fG T l (jh T l i false) 1&&fG T l (jh T l i true) 2)):=ah (by rw[B.out];simp);clear B;go_enter func292,ntmps292;go_wp2_with fail;rw[<- f];refine rX' ?_
    repeat(go_big_quiet_step(fail))
    refine wpQuiet_nil ?_;rintro _⟨s,rfl⟩;have d:=g.trans' s.h;have Z:∀j:aj s.w,∀k:Nat,j.w.cell? ⟨w.heap.size,k,none⟩=t.v.cells[k]? :=λj=>Ad f (s.h.trans' j.h)
    have N:∀j:aj s.w,j.w.cell? ⟨b,o+i,none⟩=some (.int .i64 8204):=bY (L s);clear S L J f g;cases hJ:fG T l (jh T l i false) 1
    .have p:Hid (lF T l i=false):=ah (by rw[C.out,hJ];rfl);clear C;go_wp2_with fail;refine rX' ?_
     repeat(go_big_quiet_step((first|(go_at_call 322;first|with_reducible exact aQ (BG t T l _ _ c i _ (m.out.aB (d.trans' (aj.h _))) q (r.out.ext (d.trans' (aj.h _))) D)|with_reducible exact aQ (BH t T l _ _ c i _ (m.out.aB (d.trans' (aj.h _))) q (r.out.ext (d.trans' (aj.h _))) D))|(go_at_call 321;first|with_reducible exact aQ (vJ t T l _ _ c _ _ _ (m.out.aB (d.trans' (aj.h _))) q (r.out.ext (d.trans' (aj.h _))) E.out.1)|with_reducible exact aQ (vJ t T l _ _ c _ _ _ (m.out.aB (d.trans' (aj.h _))) q (r.out.ext (d.trans' (aj.h _))) F.out.1)))))
     refine wpQuiet_nil ?_;rintro _⟨H,rfl⟩;have z:=d.trans' H.h;go_wp2;go_ret;exact⟨aO p.out.symm,z⟩
    .have p:Hid (lF T l i=fG T l (jh T l i true) 2):=ah (by rw[C.out,hJ];rfl);clear C;go_wp2_with fail;refine rX' ?_
     repeat(go_big_quiet_step((first|(go_at_call 322;first|with_reducible exact aQ (BG t T l _ _ c i _ (m.out.aB (d.trans' (aj.h _))) q (r.out.ext (d.trans' (aj.h _))) D)|with_reducible exact aQ (BH t T l _ _ c i _ (m.out.aB (d.trans' (aj.h _))) q (r.out.ext (d.trans' (aj.h _))) D))|(go_at_call 321;first|with_reducible exact aQ (vJ t T l _ _ c _ _ _ (m.out.aB (d.trans' (aj.h _))) q (r.out.ext (d.trans' (aj.h _))) E.out.1)|with_reducible exact aQ (vJ t T l _ _ c _ _ _ (m.out.aB (d.trans' (aj.h _))) q (r.out.ext (d.trans' (aj.h _))) F.out.1)))))
     refine wpQuiet_nil ?_;rintro _⟨H,rfl⟩;have z:=d.trans' H.h;go_wp2;go_ret;exact⟨aO p.out.symm,z⟩
   .have p:Hid (lF T l i=false):=ah (by rw[B.out];rfl);clear B;go_enter func292,ntmps292;go_wp2_with fail;rw[<- f];refine rX' ?_
    repeat(go_big_quiet_step(fail))
    refine wpQuiet_nil ?_;rintro _⟨s,rfl⟩;have d:=g.trans' s.h;have Z:∀j:aj s.w,∀k:Nat,j.w.cell? ⟨w.heap.size,k,none⟩=t.v.cells[k]? :=λj=>Ad f (s.h.trans' j.h)
    have N:∀j:aj s.w,j.w.cell? ⟨b,o+i,none⟩=some (.int .i64 8205):=bY (L s);clear S L J f g;go_wp2_with fail;refine rX' ?_
    repeat(go_big_quiet_step((first|(go_at_call 322;first|with_reducible exact aQ (BG t T l _ _ c i _ (m.out.aB (d.trans' (aj.h _))) q (r.out.ext (d.trans' (aj.h _))) D)|with_reducible exact aQ (BH t T l _ _ c i _ (m.out.aB (d.trans' (aj.h _))) q (r.out.ext (d.trans' (aj.h _))) D))|(go_at_call 321;first|with_reducible exact aQ (vJ t T l _ _ c _ _ _ (m.out.aB (d.trans' (aj.h _))) q (r.out.ext (d.trans' (aj.h _))) E.out.1)|with_reducible exact aQ (vJ t T l _ _ c _ _ _ (m.out.aB (d.trans' (aj.h _))) q (r.out.ext (d.trans' (aj.h _))) F.out.1)))))
    refine wpQuiet_nil ?_;rintro _⟨H,rfl⟩;have z:=d.trans' H.h;go_wp2;go_ret;exact⟨aO p.out.symm,z⟩
  .obtain⟨y,hy,O⟩:=X.out K;obtain⟨k,hk⟩:∃k,i=k+1:=⟨i-1,by omega⟩;have hd:decide ((0:Int)<(i:Int))=true:=dT';have P:decide (0<i)=true:=dT';have a5:(i:Int)-1=(k:Int):=(by omega);have Q:i-1=k:=(by omega);rw[Q]at O;have rY:∀j:aj M,j.w.cell? ⟨b,o+k,none⟩=some (.int .i64 y):=bY O;have af:=z0' k;have ag:(k:Int)<(l.length:Int):=(by omega);have I:=U.out _ rfl;rw[hy,P]at I;clear U X O hk Q;cases hv:(aG T y==9)
   .have B:Hid (lF T l i=(x==8204&&fG T l (jh T l i false) 1&&fG T l (jh T l i true) 2)):=ah (by rw[I,hv];rfl);clear I;rcases G with rfl|rfl
    .have C:Hid (lF T l i=(fG T l (jh T l i false) 1&&fG T l (jh T l i true) 2)):=ah (by rw[B.out];simp);clear B;go_enter func292,ntmps292;go_wp2_with fail;rw[<- f];refine rX' ?_
     repeat(go_big_quiet_step((go_at_call 175;with_reducible exact aQ (iI t T y _ (m.out.aB (g.trans' (aj.h _))) q))))
     refine wpQuiet_nil ?_;rintro _⟨s,rfl⟩;have d:=g.trans' s.h;have Z:∀j:aj s.w,∀k:Nat,j.w.cell? ⟨w.heap.size,k,none⟩=t.v.cells[k]? :=λj=>Ad f (s.h.trans' j.h)
     have N:∀j:aj s.w,j.w.cell? ⟨b,o+i,none⟩=some (.int .i64 8204):=bY (L s);clear S L J f g;cases hJ:fG T l (jh T l i false) 1
     .have p:Hid (lF T l i=false):=ah (by rw[C.out,hJ];rfl);clear C;go_wp2_with fail;refine rX' ?_
      repeat(go_big_quiet_step((first|(go_at_call 322;first|with_reducible exact aQ (BG t T l _ _ c i _ (m.out.aB (d.trans' (aj.h _))) q (r.out.ext (d.trans' (aj.h _))) D)|with_reducible exact aQ (BH t T l _ _ c i _ (m.out.aB (d.trans' (aj.h _))) q (r.out.ext (d.trans' (aj.h _))) D))|(go_at_call 321;first|with_reducible exact aQ (vJ t T l _ _ c _ _ _ (m.out.aB (d.trans' (aj.h _))) q (r.out.ext (d.trans' (aj.h _))) E.out.1)|with_reducible exact aQ (vJ t T l _ _ c _ _ _ (m.out.aB (d.trans' (aj.h _))) q (r.out.ext (d.trans' (aj.h _))) F.out.1)))))
      refine wpQuiet_nil ?_;rintro _⟨H,rfl⟩;have z:=d.trans' H.h;go_wp2;go_ret;exact⟨aO p.out.symm,z⟩
     .have p:Hid (lF T l i=fG T l (jh T l i true) 2):=ah (by rw[C.out,hJ];rfl);clear C;go_wp2_with fail;refine rX' ?_
      repeat(go_big_quiet_step((first|(go_at_call 322;first|with_reducible exact aQ (BG t T l _ _ c i _ (m.out.aB (d.trans' (aj.h _))) q (r.out.ext (d.trans' (aj.h _))) D)|with_reducible exact aQ (BH t T l _ _ c i _ (m.out.aB (d.trans' (aj.h _))) q (r.out.ext (d.trans' (aj.h _))) D))|(go_at_call 321;first|with_reducible exact aQ (vJ t T l _ _ c _ _ _ (m.out.aB (d.trans' (aj.h _))) q (r.out.ext (d.trans' (aj.h _))) E.out.1)|with_reducible exact aQ (vJ t T l _ _ c _ _ _ (m.out.aB (d.trans' (aj.h _))) q (r.out.ext (d.trans' (aj.h _))) F.out.1)))))
      refine wpQuiet_nil ?_;rintro _⟨H,rfl⟩;have z:=d.trans' H.h;go_wp2;go_ret;exact⟨aO p.out.symm,z⟩
    .have p:Hid (lF T l i=false):=ah (by rw[B.out];rfl);clear B;go_enter func292,ntmps292;go_wp2_with fail;rw[<- f];refine rX' ?_
     repeat(go_big_quiet_step((go_at_call 175;with_reducible exact aQ (iI t T y _ (m.out.aB (g.trans' (aj.h _))) q))))
     refine wpQuiet_nil ?_;rintro _⟨s,rfl⟩;have d:=g.trans' s.h;have Z:∀j:aj s.w,∀k:Nat,j.w.cell? ⟨w.heap.size,k,none⟩=t.v.cells[k]? :=λj=>Ad f (s.h.trans' j.h)
     have N:∀j:aj s.w,j.w.cell? ⟨b,o+i,none⟩=some (.int .i64 8205):=bY (L s);clear S L J f g;go_wp2_with fail;refine rX' ?_
     repeat(go_big_quiet_step((first|(go_at_call 322;first|with_reducible exact aQ (BG t T l _ _ c i _ (m.out.aB (d.trans' (aj.h _))) q (r.out.ext (d.trans' (aj.h _))) D)|with_reducible exact aQ (BH t T l _ _ c i _ (m.out.aB (d.trans' (aj.h _))) q (r.out.ext (d.trans' (aj.h _))) D))|(go_at_call 321;first|with_reducible exact aQ (vJ t T l _ _ c _ _ _ (m.out.aB (d.trans' (aj.h _))) q (r.out.ext (d.trans' (aj.h _))) E.out.1)|with_reducible exact aQ (vJ t T l _ _ c _ _ _ (m.out.aB (d.trans' (aj.h _))) q (r.out.ext (d.trans' (aj.h _))) F.out.1)))))
     refine wpQuiet_nil ?_;rintro _⟨H,rfl⟩;have z:=d.trans' H.h;go_wp2;go_ret;exact⟨aO p.out.symm,z⟩
   .have p:Hid (lF T l i=true):=ah (by rw[I,hv];rfl);clear I;have a0:Hid (x=8204\/x=8205):=G;clear G;rcases a0.out with rfl|rfl
    all_goals
     go_enter func292,ntmps292;go_wp2_with fail;rw[<- f];refine rX' ?_
     repeat(go_big_quiet_step((go_at_call 175;with_reducible exact aQ (iI t T y _ (m.out.aB (g.trans' (aj.h _))) q))))
     refine wpQuiet_nil ?_;rintro _⟨s,rfl⟩;have d:=g.trans' s.h;go_wp2;go_ret;exact⟨aO p.out.symm,d⟩
 .have a1:Hid (lF T l i=true):=ah (by rw[R.out,pP' (by simp only[not_or]at G;simp[G.1,G.2])]);have e1:(x != 8204)=true:=by rw[bne_iff_ne];exact λh=>G (.inl h)
  have e2:(x != 8205)=true:=by rw[bne_iff_ne];exact λh=>G (.inr h)
  clear G R;go_enter func292,ntmps292;go_wp2;go_ret;exact⟨aO a1.out.symm,by rw[f]at g;exact g⟩
theorem WA(ht:aS w t T)(h:aC w ⟨A,n,c⟩ l):
 cE' 245 #[t.v,.slice A n c] w (.tuple #[.int .i64 (fD T l).1,.int .i64 (fD T l).2]):=by
 obtain⟨C,_,_⟩:=h.len;subst C;have s:=ah ht;have x:=ah h;have b:=cO w t;go_enter func245,ntmps245;go_wp2_with fail;refine(xJ t T l A _ c _ (s.out.aB b) (x.out.ext b)).mono ?_;rintro e G⟨v,rfl,o,_⟩;have D:=b.trans' o;by_cases d:aV T l=0
 .have B:=ah (mG (JD d).1);have y:Hid (fD T l=wR T l (l.length-0) 0):=ah (by simp[fD,d]);rw[d];clear d;go_wp2;go_loopw[20] (λj wr=>∃(k:Nat),k<=l.length/\j=.int .i64 k/\Hid (fD T l=wR T l (l.length-k) k)/\Ext (tW' w t) wr) (λj _=>l.length-(intOf j).toNat);exact⟨0,zl' _,rfl,y,o⟩;obtain⟨k,H,rfl,q,f⟩:=hrel;have a:=b.trans' f;have I:=bT' t f;by_cases p:k<l.length
  .have r:=aI q (show _=if lF T l k=true then wR T l (l.length-(k+1)) (k+1)else((k:Int),(17:Int))from by
    rw[show l.length-k=(l.length-(k+1))+1 from by omega];rfl)
   clear q y;cases m:lF T l k
   .have g:=aI r (show _=((k:Int),(17:Int))from by rw[m];simp);have z:=ah m;clear r m;go_wp2_with(go_at_call 292;refine(O6 t T l A _ c k _ (s.out.aB a) B.out (x.out.ext a) p).mono ?_;rintro e E⟨rfl,i⟩;rw[z.out]);go_ret2;exact⟨by rw[g.out];rfl,a.trans' i⟩
   .have g:=aI r (show _=wR T l (l.length-(k+1)) (k+1)from by rw[m];simp);have z:=ah m;clear r m;go_wp2_with(go_at_call 292;refine(O6 t T l A _ c k _ (s.out.aB a) B.out (x.out.ext a) p).mono ?_;rintro e E⟨rfl,i⟩;rw[z.out]);go_roundw;exact⟨k+1,by omega,by go_num,g,f.trans' i⟩;simp[intOf];omega
  .have g:=aI q (show _=((0:Int),(0:Int))from by rw[show l.length-k=0 from by omega];rfl);clear q y;go_wp2;go_ret2;exact⟨by rw[g.out];rfl,a⟩
 .have F:(aV T l==0)=false:=by rw[aH];exact d
  have g:Hid (fD T l=(0,aV T l)):=ah (by simp[fD,d]);clear d;go_wp2;go_ret2;exact⟨by rw[g.out];rfl,D⟩
end Go.Proofs.YtljilcbobhmkgaaGreatDoor
