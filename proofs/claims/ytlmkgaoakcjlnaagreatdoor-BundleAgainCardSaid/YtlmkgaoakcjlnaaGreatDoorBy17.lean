/- Part By17. -/
import Derived.Deep.LoopGhost
import Derived.Test.YtlmkgaoakcjlnaaGreatDoorBy16
import Derived.Shelf.Spec.SlicesInsertGrow
open Go.Proofs.Tryz
namespace Go.Proofs.YtlmkgaoakcjlnaaGreatDoor
set_option maxHeartbeats 25600000
set_option maxRecDepth 100000
variable (t:TV)(T:aj)(l:List Int)(A:Option Addr)(n c:Nat)(w:World)
def enc1(c:Int):List Int:=
 if c<=127 then[c]else if c<=2047 then[192+c / 64,128+c % 64]
 else if c<=65535 then[224+c / 4096,128+c / 64 % 64,128+c % 64]
 else[240+c / 262144,128+c / 4096 % 64,128+c / 64 % 64,128+c % 64]
def jm(l:List Int):List Int:=l.flatMap enc1
def jc(b:Int):Bool:=decide (128<=b)&&decide (b<=191)
def dX:List Int->Int×Nat
 |[]=>(0,0)
 |a::r=>
  if a<=127 then(a,1)
  else if 192<=a/\a<=223 then match r with
   |b::_=>if jc b=true/\utfLen ((a-192)*64+(b-128))=2 then((a-192)*64+(b-128),2)else(0,0)
   |_=>(0,0)
  else if 224<=a/\a<=239 then match r with
   |b::c::_=>if jc b=true/\jc c=true/\utfLen (((a-224)*64+(b-128))*64+(c-128))=3 then(((a-224)*64+(b-128))*64+(c-128),3)else(0,0)
   |_=>(0,0)
  else if 240<=a/\a<=247 then match r with
   |b::c::d::_=>if jc b=true/\jc c=true/\jc d=true/\utfLen ((((a-240)*64+(b-128))*64+(c-128))*64+(d-128))=4 then((((a-240)*64+(b-128))*64+(c-128))*64+(d-128),4)else(0,0)
   |_=>(0,0)
  else(0,0)
theorem a5Q{c:Int}(h:aY c=true):((enc1 c).length:Int)=utfLen c:=by
 unfold enc1 utfLen;rw[h];simp only[Bool.true_eq_false,if_false];split
 .rfl
 .split
  .rfl
  .split<;>rfl
theorem wL{c:Int}(h:aY c=true):0<=c/\c<=1114111:=by
 simp only[aY,aT,au]at h;exact h.1
theorem TB{c:Int}(h:aY c=true)(r:List Int):dX (enc1 c++r)=(c,(enc1 c).length):=by
 have l:=wL h;have b:utfLen c=if c<=127 then 1 else if c<=2047 then 2 else if c<=65535 then 3 else 4:=by unfold utfLen;rw[h];simp
 unfold enc1;by_cases a:c<=127
 .simp[a,dX]
 by_cases d:c<=2047
 .rw[nN' a,pP' d];have e:(192+c / 64-192)*64+(128+c % 64-128)=c:=by omega
  have k:jc (128+c % 64)=true:=by simp[jc];omega
  rw[nN' a,pP' d]at b;show dX ((192+c / 64)::(128+c % 64)::r)=_
  simp only[dX];rw[nN' (by omega),pP' (by omega)];simp only[e];rw[pP' ⟨k,b⟩];rfl
 by_cases f:c<=65535
 .rw[nN' a,nN' d,pP' f];have e:((224+c / 4096-224)*64+(128+c / 64 % 64-128))*64+(128+c % 64-128)=c:=by omega
  have g:jc (128+c / 64 % 64)=true:=by simp[jc];omega
  have i:jc (128+c % 64)=true:=by simp[jc];omega
  rw[nN' a,nN' d,pP' f]at b;show dX ((224+c / 4096)::(128+c / 64 % 64)::(128+c % 64)::r)=_
  simp only[dX];rw[nN' (by omega),nN' (by omega),pP' (by omega)];simp only[e];rw[pP' ⟨g,i,b⟩];rfl
 .rw[nN' a,nN' d,nN' f];have e:(((240+c / 262144-240)*64+(128+c / 4096 % 64-128))*64+(128+c / 64 % 64-128))*64+(128+c % 64-128)=c:=by omega
  have g:jc (128+c / 4096 % 64)=true:=by simp[jc];omega
  have i:jc (128+c / 64 % 64)=true:=by simp[jc];omega
  have j:jc (128+c % 64)=true:=by simp[jc];omega
  rw[nN' a,nN' d,nN' f]at b;show dX ((240+c / 262144)::(128+c / 4096 % 64)::(128+c / 64 % 64)::(128+c % 64)::r)=_
  simp only[dX];rw[nN' (by omega),nN' (by omega),nN' (by omega),pP' (by omega)];simp only[e];rw[pP' ⟨g,i,j,b⟩];rfl
def xP:Nat->List Int->List Int×Nat
 |0,_=>([],0)
 |f+1,l=>if(dX l).2=0 then([],0)else let d:=xP f (l.drop (dX l).2);((dX l).1::d.1,(dX l).2+d.2)
def jB(l:List Int):List Int×Nat:=xP l.length l
theorem Il:(dX l).2<=l.length:=by
 unfold dX;split
 .simp
 .split
  .simp
  .split
   .split
    .split<;>simp
    .simp
   .split
    .split
     .split<;>simp
     .simp
    .split
     .split
      .split<;>simp
      .simp
     .simp
theorem Sv:∀(f g:Nat)(l:List Int),l.length<=f->l.length<=g->xP f l=xP g l
 |0,0,_,_,_=>rfl
 |0,g+1,l,h,_=>by
  have:l=[]:=List.eq_nil_of_length_eq_zero (by omega);subst this;simp[xP,dX]
 |f+1,0,l,_,h=>by
  have:l=[]:=List.eq_nil_of_length_eq_zero (by omega);subst this;simp[xP,dX]
 |f+1,g+1,l,h1,h2=>by
  unfold xP;by_cases a:(dX l).2=0
  .simp[a]
  .rw[nN' a,nN' a];have b:(l.drop (dX l).2).length=l.length-(dX l).2:=List.length_drop;rw[Sv f g _ (by omega) (by omega)]
theorem MH{l:List Int}(h:(dX l).2≠0):jB l=((dX l).1::(jB (l.drop (dX l).2)).1,(dX l).2+(jB (l.drop (dX l).2)).2):=by
 have b:=Il l;unfold jB;obtain⟨n,a⟩:∃n,l.length=n+1:=⟨l.length-1,by omega⟩;rw[a,xP,nN' h,Sv n (l.drop (dX l).2).length _ (by rw[List.length_drop];omega) (lr' _)]
theorem TF{l:List Int}(h:(dX l).2=0):jB l=([],0):=by
 unfold jB;cases a:l.length with
 |zero=>rfl
 |succ n=>rw[xP,pP' h]
open Go.RowKit
def hd8(a:Int):Nat×Int:=
 if a<=127 then(1,a)else if 192<=a/\a<=223 then(2,a-192)else if 224<=a/\a<=239 then(3,a-224)else if 240<=a/\a<=247 then(4,a-240)else(0,0)
theorem a6M{a b c d:Int}(h:a=c)(k:b=d):Ending.returned (.tuple #[.int .i64 a,.int .i64 b])=.returned (.tuple #[.int .i64 c,.int .i64 d]):=by rw[h,k]
theorem a0H(a:Int)(h:0<=a/\a<256)(w:World):cW' 269 #[.int .u8 a] w (.tuple #[.int .i64 (hd8 a).1,.int .i64 (hd8 a).2]):=by
 go_enter func269,ntmps269;go_wp2
 all_goals(go_ret2;refine⟨a6M ?_ ?_,rfl⟩<;>unfold hd8<;>(repeat' split)<;>first|rfl|omega|(simp only[];omega))
theorem a6N{a:Int}(h:0<=a/\a<256):(hd8 a).1<=4/\0<=(hd8 a).2/\(hd8 a).2<128:=by
 unfold hd8
 repeat' split
 all_goals(simp only[];omega)
def vP:Int->List Int->Option Int
 |c,[]=>some c
 |c,b::r=>if jc b=true then vP (c*64+(b-128)) r else none
theorem a5S{l:List Int}{a:Int}{r:List Int}(o:l=a::r)(h:0<=a):dX l=
 if(hd8 a).1=0\/l.length<(hd8 a).1 then(0,0)else match vP (hd8 a).2 (r.take ((hd8 a).1-1))with
  |none=>(0,0)
  |some c=>if utfLen c=(hd8 a).1 then(c,(hd8 a).1)else(0,0):=by
 subst o;have m:0<=a->a<=127->utfLen a=1:=by
  intro f g;unfold utfLen;have:aY a=true:=by simp[aY];omega
  rw[this];simp[g]
 unfold dX hd8;by_cases f:a<=127
 .simp[f,vP,m h f]
 by_cases g:192<=a/\a<=223
 .simp only[nN' f,pP' g]
  match r with
  |[]=>simp
  |b::r=>
   simp only[List.take,vP];cases j:jc b<;>simp
   omega
 by_cases i:224<=a/\a<=239
 .simp only[nN' f,nN' g,pP' i]
  match r with
  |[]=>simp
  |[b]=>simp
  |b::c::r=>
   simp only[List.take,vP];cases j:jc b<;>cases n:jc c<;>simp
   omega
 by_cases k:240<=a/\a<=247
 .simp only[nN' f,nN' g,nN' i,pP' k]
  match r with
  |[]=>simp
  |[b]=>simp
  |[b,c]=>simp
  |b::c::d::r=>
   simp only[List.take,vP];cases j:jc b<;>cases n:jc c<;>cases p:jc d<;>simp
   omega
 .simp[f,g,i,k]
theorem TK(n:Int)(a:0<=n)(b:n<2 ^ 31):IntKind.i64.wrap n=n:=by rw[IntKind.wrap_i64];omega
theorem BR(i:Nat)(x y:Int)(f:0<=x)(a:x % 2 ^ i=0)(b:x<2147483648)(g:0<=y)(c:y<2 ^ i)(d:y<2147483648):bits .or .i64 x y=x+y:=
 bits_join .i64 31 (by decide) TK i x y f a b g c d
theorem MS(x:Int)(a:0<=x)(b:x<2147483648):bits .and .i64 x 63=x % 64:=bits_mask .i64 31 (by decide) TK 6 (by decide) x a b
def a6O(w:World)(c0:Int)(bs:List Int)(g:Nat)(s7 s36:Value)(wx:World):Prop:=
 ∃(k:Nat)(c:Int),g+k=bs.length/\s36=.int .i64 k/\s7=.int .i64 c/\0<=c/\c<128*64 ^ k/\Hid (vP c0 bs=vP c (bs.drop k))/\wx=w
theorem a5b(x:IsB l)(k:Nat)(N:k<l.length)(hm:l.length<=1099511627776)(w:World):
 cE' 220 #[.string (sB l),.int .i64 k] w (.tuple #[.int .i64 (dX (l.drop k)).1,.int .i64 (dX (l.drop k)).2]):=by
 have R:=MG (w:=w) x N;have z:=x _ (gM' N);have g:=ah (a5S (drop_at l k N) z.1);have S:=ah x;have O:=a6N z;have A:=ah (a0H l[k] z w);rw[List.length_drop]at g;generalize l[k]=a at*;generalize hd8 a=p at*;obtain⟨n,P⟩:=p;simp only at g O A;generalize dX (l.drop k)=V at*;clear x;go_enter func220,ntmps220;go_wp2_with fail;refine A.out.mono ?_;rintro e w'⟨rfl,rfl⟩;clear R A;by_cases T:n=0
 .rw[pP' (.inl T)]at g;go_wp2;go_ret2;exact⟨by rw[g.out];rfl,eR'⟩
 have e1:((n:Int)==0)=false:=bF';by_cases B:l.length-k<n
 .rw[pP' (.inr B)]at g;have U:decide ((l.length:Int)-k<n)=true:=dT';go_wp2;go_ret2;exact⟨by rw[g.out];rfl,eR'⟩
 have U:decide ((l.length:Int)-k<n)=false:=dF';rw[nN' (by omega)]at g;have i:=Sr (w:=w) (l:=l) (k:=k+1) (m:=k+n) (by omega) (by omega);rw[show k+n-(k+1)=n-1 by omega]at i
 push_cast at i
 have Q:=ah (yD (Ap S.out (k+1)) (n-1));have W:((l.drop (k+1)).take (n-1)).length=n-1:=by rw[List.length_take,List.length_drop];omega
 generalize(l.drop (k+1)).take (n-1)=bs at*;obtain⟨cc,X,C,o,q,_⟩:=Ik (w:=w) Q.out (by omega);have D:=ah o;have r:=ah q;go_wp2_with fail;clear i C o q;go_loopg[7,36] bs.length (λY Z E wx=>a6O X P bs Y Z E wx);exact⟨0,P,by omega,rfl,rfl,O.2.1,by omega,ah rfl,rfl⟩;obtain⟨j,c,hg,rfl,rfl,a1,F,s,rfl⟩:=hrel;by_cases G:j<bs.length
 .obtain⟨H,rfl⟩:=gS' gk;obtain⟨b',o',I,J⟩:=D.out.at_ G;injection I with I;injection I with e5 e6;subst e5 e6;rw[Nat.zero_add]at J;have a5:=Q.out _ (gM' G);have K:Hid (bs.drop j=bs[j]::bs.drop (j+1)):=drop_at bs j G;generalize bs[j]=y at*;cases d:jc y
  .have b:Hid (V=(0,0)):=ah (by rw[g.out,s.out,K.out];simp[vP,d]);have f:=r.out;by_cases h1:y<128
   .go_wp2;go_ret2;exact⟨by rw[b.out];rfl,f⟩
   .have h2:191<y:=(by simp only[jc,aF',aA]at d;omega);go_wp2;go_ret2;exact⟨by rw[b.out];rfl,f⟩
  .have h2:128<=y/\y<=191:=by simp only[jc,aT,au]at d;exact d
   have L:=aJ s (show vP c (bs.drop j)=vP (c*64+(y-128)) (bs.drop (j+1))from by rw[K.out,vP,pP' d]);have a7:c<524288:=by
    rcases(show j=0\/j=1\/j=2 by omega)with h|h|h<;>(rw[h]at F;omega)
   have a8:bits .or .i64 (c*64) (y % 64)=c*64+(y-128):=(by rw[BR 6 _ _ (by omega) (by omega) (by omega) (by omega) (by omega) (by omega)];omega);have M:c*64+(y-128)<128*64 ^ (j+1):=(by rw[Int.pow_succ];omega);clear s K;go_wp2;go_roundg H;exact⟨j+1,_,by omega,by go_num,rfl,by omega,M,L,rfl⟩;omega
 .have hd:bs.drop j=[]:=bV bs j (by omega);have b:Hid (V=if utfLen c=n then(c,n)else(0,0)):=ah (by rw[g.out,s.out,hd];simp[vP]);have f:=r.out;clear g s;go_wp2_with fail;refine(yQ _ _).mono ?_;rintro e w'⟨rfl,rfl⟩;generalize utfLen c=u at*;by_cases t:u=n
  .rw[pP' t]at b;have e3:(u != (n:Int))=false:=(by rw[t];simp);go_wp2;go_ret2;exact⟨by rw[b.out];rfl,f⟩
  .rw[nN' t]at b;have e3:(u != (n:Int))=true:=(by rw[bne_iff_ne];exact t);go_wp2;go_ret2;exact⟨by rw[b.out];rfl,f⟩
def Y1(w:World)(l:List Int)(g:Nat)(s4 s5:Value)(wx:World):Prop:=
 ∃(A:Option Addr)(c k:Nat)(acc:List Int),g+k=l.length/\s4=.slice A acc.length c/\s5=.int .i64 k/\aK wx w.heap.size A acc.length c acc/\Ext w wx/\acc.length<=k/\Hid (jB l=(acc++(jB (l.drop k)).1,k+(jB (l.drop k)).2))
theorem a6c(D:IsB l)(U:l.length<=1099511600000)(w:World):
 Calls prog 152 #[.string (sB l)] w λe w'=>∃A n c,e=.returned (.tuple #[.slice A n c,.int .i64 (jB l).2])/\aF w' ⟨A,n,c⟩ (jB l).1/\Ext w w':=by
 have E:=ah D;clear D;go_enter func152,ntmps152;go_wp2;go_loopg[4,5] l.length (λF G H I=>Y1 w l F G H I);exact⟨none,0,0,[],by omega,rfl,rfl,Own.nil_ _ _ _ _,eR',lr' _,ah (by simp)⟩;obtain⟨A,c,k,b,R,rfl,rfl,d,y,J,q⟩:=hrel;have z:=ah d;have B:=ah y;clear d y;by_cases K:k<l.length
 .go_wp2_with fail;refine(a5b l E.out k K (by omega) wr).mono ?_;rintro e S⟨rfl,f⟩;have r:=ah (@MH (l.drop k));have s:=ah (@TF (l.drop k));have g:=Il (l.drop k);rw[List.drop_drop]at r;rw[List.length_drop]at g;generalize dX (l.drop k)=p at*;obtain⟨x,n⟩:=p;simp only at r s g;have h:=ah (B.out.trans' f);have i:=ah (Own.ext z.out f);clear f;by_cases C:n=0
  .have j:Hid (jB l=(b,k)):=ah (by rw[q.out,s.out C];simp);have L:((n:Int)==0)=true:=(by rw[bq'];omega);go_wp2;go_ret2;exact⟨A,_,c,by rw[j.out];rfl,by rw[j.out];exact aK.ints i.out,h.out⟩
  .have L:((n:Int)==0)=false:=bF';have t:=aJ q (show _=((b++[x])++(jB (l.drop (k+n))).1,(k+n:Nat)+(jB (l.drop (k+n))).2)from by rw[r.out C];simp[Nat.add_assoc]);obtain⟨M,N,T,m,a,o,_⟩:=yJ i.out h.out x (by omega);have O:=ah a;have P:=ah o;clear q r s a o;go_wp2_with(at_builtin;refine dI rfl _ _ _ rfl _ _ rfl rfl _ _ m ?_);go_roundg (l.length-(k+n));exact⟨M,N,k+n,b++[x],by omega,by simp,by go_num,by simpa using O.out,P.out,by simp;omega,t⟩;omega
 .have Q:l.drop k=[]:=bV l k (by omega);have j:Hid (jB l=(b,k)):=ah (by rw[q.out,Q];simp[jB,xP]);go_wp2;go_ret2;exact⟨A,_,c,by rw[j.out];rfl,by rw[j.out];exact aK.ints z.out,B.out⟩
def gG(l:List Int):List Int×Int×Int:=if 4096<l.length then([],0,7)else if(jB l).2<l.length then([],((jB l).2:Int),9)else((jB l).1,0,0)
def Je(w:World)(d:List Int×Int×Int)(e:Ending)(w':World):Prop:=∃A n c,e=.returned (.tuple #[.slice A n c,.int .i64 d.2.1,.int .i64 d.2.2])/\aF w' ⟨A,n,c⟩ d.1/\Ext w w'
theorem udec_spec(k:IsB l)(w:World):Calls prog 80 #[.string (sB l)] w (Je w (gG l)):=by
 have a:Hid (gG l=(if 4096<l.length then([],0,7)else if(jB l).2<l.length then([],((jB l).2:Int),9)else((jB l).1,0,0):List Int×Int×Int)):=rfl;generalize gG l=D at*;have o:=ah k;clear k;by_cases b:4096<l.length
 .rw[pP' b]at a;go_enter func80,ntmps80;go_wp2;go_ret3;exact⟨none,0,0,by rw[a.out];rfl,by rw[a.out];exact aF.nil_ w,eR'⟩
 rw[nN' b]at a;go_enter func80,ntmps80;go_wp2_with fail;refine(a6c l o.out (by omega) w).mono ?_;rintro e p⟨A,n,c,rfl,f,g⟩;have h:=ah f;have i:=ah g;clear f g;generalize jB l=d at*;obtain⟨q,m⟩:=d;simp only at a h;by_cases j:m<l.length
 .rw[pP' j]at a;go_wp2;go_ret3;exact⟨none,0,0,by rw[a.out];rfl,by rw[a.out];exact aF.nil_ _,i.out⟩
 .rw[nN' j]at a;go_wp2;go_ret3;exact⟨A,n,c,by rw[a.out];rfl,by rw[a.out];exact h.out,i.out⟩
def U4(w0:World)(l:List Int)(e:Ending)(w':World):Prop:=∃A n c,e=.returned (.slice A n c)/\n=l.length/\OwnB w' w0.heap.size A n c l/\Ext w0 w'
theorem uput_spec(q w:World)(A:Option Addr)(n c:Nat)(l:List Int)(x:Int)(r:aY x=true)(h:OwnB w q.heap.size A n c l)(B:Ext q w)(C:n=l.length)(M:n<=1099511000000):
 Calls prog 142 #[.slice A n c,.int .i64 x] w (U4 q (l++enc1 x)):=by
 have D:=wL r;have g:utfLen x=if x<=127 then 1 else if x<=2047 then 2 else if x<=65535 then 3 else 4:=by unfold utfLen;rw[r];simp
 have f:Hid (enc1 x=if x<=127 then[x]else if x<=2047 then[192+x / 64,128+x % 64]else if x<=65535 then[224+x / 4096,128+x / 64 % 64,128+x % 64]else[240+x / 262144,128+x / 4096 % 64,128+x / 64 % 64,128+x % 64]):=rfl;have k:=ah h;have m:=ah B;have o:=ah C;clear h B r C;generalize enc1 x=E at*;go_enter func142,ntmps142;go_wp2_with fail;refine(yQ _ _).mono ?_;rintro e F⟨rfl,rfl⟩;by_cases s:x<=127
 .rw[pP' s]at g f;rw[g];obtain⟨i,j,p,b,a,d,_⟩:=zF k.out m.out #[.int .u8 x] [x] 1 rfl rfl (by omega) (by omega);go_wp2_with(at_builtin;refine dI rfl _ _ _ rfl _ _ rfl rfl _ _ b ?_);go_ret;exact⟨i,_,j,rfl,by rw[f.out];simp[o.out],by rw[f.out];exact a,d⟩
 rw[nN' s]at g f;have G:=MS x (by omega) (by omega);have H:bits .or .i64 128 (x % 64)=128+x % 64:=BR 6 _ _ (by omega) (by omega) (by omega) (by omega) (by omega) (by omega);by_cases t:x<=2047
 .rw[pP' t]at g f;rw[g];have y:bits .or .i64 192 (x / 64)=192+x / 64:=BR 6 _ _ (by omega) (by omega) (by omega) (by omega) (by omega) (by omega);obtain⟨i,j,p,b,a,d,_⟩:=zF k.out m.out #[.int .u8 (192+x / 64),.int .u8 (128+x % 64)] [192+x / 64,128+x % 64] 2 rfl rfl (by omega) (by omega);go_wp2_with(at_builtin;refine dI rfl _ _ _ rfl _ _ rfl rfl _ _ b ?_);go_ret;exact⟨i,_,j,rfl,by rw[f.out];simp[o.out],by rw[f.out];exact a,d⟩
 rw[nN' t]at g f;have I:=MS (x / 64) (by omega) (by omega);have J:bits .or .i64 128 (x / 64 % 64)=128+x / 64 % 64:=BR 6 _ _ (by omega) (by omega) (by omega) (by omega) (by omega) (by omega);by_cases z:x<=65535
 .rw[pP' z]at g f;rw[g];have y:bits .or .i64 224 (x / 4096)=224+x / 4096:=BR 4 _ _ (by omega) (by omega) (by omega) (by omega) (by omega) (by omega);obtain⟨i,j,p,b,a,d,_⟩:=zF k.out m.out #[.int .u8 (224+x / 4096),.int .u8 (128+x / 64 % 64),.int .u8 (128+x % 64)] [224+x / 4096,128+x / 64 % 64,128+x % 64] 3 rfl rfl (by omega) (by omega);go_wp2_with(at_builtin;refine dI rfl _ _ _ rfl _ _ rfl rfl _ _ b ?_);go_ret;exact⟨i,_,j,rfl,by rw[f.out];simp[o.out],by rw[f.out];exact a,d⟩
 .rw[nN' z]at g f;rw[g];have y:bits .or .i64 240 (x / 262144)=240+x / 262144:=BR 4 _ _ (by omega) (by omega) (by omega) (by omega) (by omega) (by omega);have K:=MS (x / 4096) (by omega) (by omega);have L:bits .or .i64 128 (x / 4096 % 64)=128+x / 4096 % 64:=BR 6 _ _ (by omega) (by omega) (by omega) (by omega) (by omega) (by omega);obtain⟨i,j,p,b,a,d,_⟩:=zF k.out m.out #[.int .u8 (240+x / 262144),.int .u8 (128+x / 4096 % 64),.int .u8 (128+x / 64 % 64),.int .u8 (128+x % 64)] [240+x / 262144,128+x / 4096 % 64,128+x / 64 % 64,128+x % 64] 4 rfl rfl (by omega) (by omega);go_wp2_with(at_builtin;refine dI rfl _ _ _ rfl _ _ rfl rfl _ _ b ?_);go_ret;exact⟨i,_,j,rfl,by rw[f.out];simp[o.out],by rw[f.out];exact a,d⟩
def mQ(l:List Int):List Int×Int:=if 4096<l.length then([],7)else if l.any (λc=> !aY c)then([],3)else(jm l,0)
def yK(w:World)(d:List Int×Int)(e:Ending)(w':World):Prop:=e=.returned (.tuple #[.string (sB d.1),.int .i64 d.2])/\Ext w w'
theorem BU(c:Int):(enc1 c).length<=4:=by unfold enc1;split;simp;split;simp;split<;>simp
def a7i(w:World)(l:List Int)(g:Nat)(s4 s12:Value)(wx:World):Prop:=
 ∃(A:Option Addr)(n c k:Nat),g+k=l.length/\s12=.int .i64 k/\s4=.slice A n c/\n=(jm (l.take k)).length/\n<=4*k/\OwnB wx w.heap.size A n c (jm (l.take k))/\Ext w wx/\Hid ((l.take k).any (λc=> !aY c)=false)
theorem uenc_spec(K:aF w ⟨A,n,c⟩ l):Calls prog 77 #[.slice A n c] w (yK w (mQ l)):=by
 have j:Hid (mQ l=if 4096<l.length then([],7)else if l.any (λc=> !aY c)then([],3)else(jm l,0)):=rfl;generalize mQ l=D at*;have O:=K.len.1;subst O;have P:=ah K;clear K;by_cases L:4096<l.length
 .rw[pP' L]at j;go_enter func77,ntmps77;go_wp2;go_ret2;exact⟨by rw[j.out];rfl,eR'⟩
 rw[nN' L]at j;go_enter func77,ntmps77;go_wp2;go_loopg[4,12] l.length (λQ R z S=>a7i w l Q R z S);exact⟨none,0,0,0,by omega,rfl,rfl,rfl,by omega,Own.nil_ _ _ _ _,eR',rfl⟩;obtain⟨B,m,d,k,hg,rfl,rfl,M,T,h,i,p⟩:=hrel;have s:=ah h;have t:=ah i;have C:=ah M;clear h i M;by_cases y:k<l.length
 .obtain⟨b,o,U,V⟩:=(P.out.ext t.out).at_ y;subst U;have q:=ah (yM (f:=λc=> !aY c) y);have r:=ah (anyM (f:=λc=> !aY c) y);have E:Hid (jm (l.take (k+1))=jm (l.take k)++enc1 l[k]):=ah (by rw[tS' y];unfold jm;rw[List.flatMap_append];simp);generalize l[k]=x at*;go_wp2_with fail;refine(LH _ _).mono ?_;rintro e w'⟨rfl,rfl⟩;cases F:aY x
  .have G:Hid (D=([],3)):=ah (by rw[j.out,pP' (r.out (by simp[F]))]);have i:=t.out;go_wp2;go_ret2;exact⟨by rw[G.out];rfl,i⟩
  .have H:Hid ((l.take (k+1)).any (λc=> !aY c)=false):=ah (by rw[q.out,p.out];simp[F]);go_wp2_with fail;refine(uput_spec w wr B m d _ x F s.out t.out C.out (by omega)).mono ?_;rintro e w2⟨W,N,X,rfl,g,a,I⟩;have h4:=BU x;rw[<- E.out]at g a;have h5:N<=m+4:=(by rw[g,E.out,lA',C.out];omega);have J:=ah g;clear g p q r E;go_wp2;go_roundg (l.length-(k+1));exact⟨W,N,X,k+1,by omega,by go_num,rfl,J.out,by omega,a,I,H⟩;omega
 .have Y:l.take k=l:=tL' (by omega);rw[Y]at s p;have G:Hid (D=(jm l,0)):=ah (by rw[j.out,nN' (by rw[p.out];simp)]);have Z:=Dz (OwnB.MF s.out);have i:=t.out;clear s C p;go_wp2;go_ret2;exact⟨by rw[G.out];rfl,i⟩
def qh(o:List Int)(i:Nat)(c:Int):List Int:=o.take i++c::o.drop i
inductive Dec
 |ok (l:List Int)
 |DX
 |over
def decP:Nat->List (Option Int)->List Int->Int->Int->Int->Bool->Dec
 |0,_,o,_,_,_,_=>.ok o
 |_+1,[],o,_,_,_,_=>.ok o
 |g+1,d::ds,o,n,i,b,f=>match jS b (d::ds) 0 0 1 with
  |none=>.DX
  |some (v,r)=>
   if 2147483647<v\/1114111<n+(v+i) / (o.length+1)then .over
   else if utfLen (n+(v+i) / (o.length+1))=0 then .DX
   else decP g r (qh o ((v+i) % (o.length+1)).toNat (n+(v+i) / (o.length+1))) (n+(v+i) / (o.length+1)) ((v+i) % (o.length+1)+1) (pF v (o.length+1) f) false
def kE:List Int->Nat->(Nat->Bool)->List Int
 |[],_,_=>[]
 |c::r,k,pl=>if pl k=true then c::kE r (k+1) pl else kE r (k+1) pl
theorem Nw{p q:Nat->Bool}:∀(l:List Int)(k:Nat),(∀j,k<=j->j<k+l.length->p j=q j)->kE l k p=kE l k q
 |[],_,_=>rfl
 |c::r,k,h=>by
  have a:=h k (lr' _) (by simp);have b:=Nw r (k+1) (λj d f=>h j (by omega) (by simp;omega));simp only[kE,a,b]
theorem Ny:∀(l m:List Int)(k:Nat)(p:Nat->Bool),kE (l++m) k p=kE l k p++kE m (k+l.length) p
 |[],_,_,_=>rfl
 |c::r,m,k,p=>by
  have h:=Ny r m (k+1) p;have e:k+1+r.length=k+(c::r).length:=by simp;omega
  rw[e]at h;simp only[List.cons_append,kE,h];split<;>rfl
theorem Vu{p:Nat->Bool}:∀(l:List Int)(k:Nat),(∀j,k<=j->j<k+l.length->p j=true)->kE l k p=l
 |[],_,_=>rfl
 |c::r,k,h=>by
  rw[kE,pP' (h k (lr' _) (by simp)),Vu r (k+1) (λj a b=>h j (by omega) (by simp;omega))]
theorem Nz(l:List Int)(p:Nat->Bool):∀a,a<=l.length->(kE (l.take a) 0 p).length=bY p a
 |0,_=>by simp[kE,bY]
 |a+1,h=>by
  have b:(l.take a).length=a:=by rw[List.length_take];omega
  rw[tS' (by omega:a<l.length),Ny,lA',Nz l p a (by omega),zI,b];simp only[kE,Nat.zero_add];split<;>rfl
theorem aIW{l:List Int}{p:Nat->Bool}{a:Nat}(h:a<l.length)(n:p a=false):kE l 0 (λk=>p k||k==a)=qh (kE l 0 p) (bY p a) l[a]:=by
 have c:(l.take a).length=a:=by rw[List.length_take];omega
 have d:l=l.take a++l[a]::l.drop (a+1):=by rw[<- List.drop_eq_getElem_cons h,List.take_append_drop]
 have b:∀q:Nat->Bool,kE l 0 q=kE (l.take a) 0 q++kE (l[a]::l.drop (a+1)) a q:=by
  intro q;have:=Ny (l.take a) (l[a]::l.drop (a+1)) 0 q;rw[<- d,c,Nat.zero_add]at this;exact this
 have f:kE (l.take a) 0 (λk=>p k||k==a)=kE (l.take a) 0 p:=Nw _ _ (λj _ g=>by
  have:(j==a)=false:=by simp;omega
  simp only[this,Bool.or_false])
 have i:kE (l.drop (a+1)) (a+1) (λk=>p k||k==a)=kE (l.drop (a+1)) (a+1) p:=Nw _ _ (λj g _=>by
  have:(j==a)=false:=by simp;omega
  simp only[this,Bool.or_false])
 have m:=Nz l p a (by omega);rw[b,b p,f];simp only[kE,n,beq_self_eq_true,Bool.or_true,if_true,i,qh];rw[<- m];simp
theorem Vy{c:Int}(h:aY c=true):utfLen c≠0:=by
 intro e;rw[utfLen_eq_zero]at e;rw[h]at e;cases e
theorem aHz{c:Int}(h:aY c=true):0<=c/\c<=1114111:=by
 simp only[aY,aT,au]at h;exact h.1
theorem Cm(p:Nat->Bool){a:Nat}:∀{q:Nat},a<=q->bY p a<=bY p q
 |0,h=>by
  have:a=0:=by omega
  subst this;exact lr' _
 |q+1,h=>by
  rw[zI];by_cases e:a=q+1
  .subst e;rw[zI];exact lr' _
  .have:=Cm p (show a<=q by omega);omega
theorem Vx(b j v:Int)(f:Nat):jq b (f+1) j v≠[]:=by unfold jq;split<;>simp
theorem aIY{l:List Int}(hs:∀c∈l,aY c=true)(hl:l.length<=256){m:Nat->Bool}{n i b:Int}{f:Bool}{p:List Int}(x:qg l m n i b f p):
 ∀g:Nat,p.length<=g->0<=n->0<=i->i<=bY m l.length->(∀k(hk:k<l.length),m k=false->n<=l[k]/\(l[k]=n->i<=bY m k))->decP g (p.map some) (kE l 0 m) n i b f=.ok l:=by
 induction x with
 |done h=>
  intro g _ _ _ _ _;rw[Vu l 0 (λj _ hj=>h j (by omega))];cases g<;>rfl
 | @step m n i b f a v p h hll hv hr ih=>
  intro g M hn hi N t;obtain⟨E,o,w⟩:=hll;have O:=t a E o;have z:=hs _ (gM' E);have hb:=aHz z;have A:((kE l 0 m).length:Int)=bY m l.length:=by
   have:=Nz l m l.length (lr' _);rw[tL' (lr' _)]at this;rw[this]
  have P:=wM m l.length;have Q:bY m a<=bY m l.length:=Cm m (by omega);have R:bY m a<bY m l.length+1:=by omega
  generalize S:bY m l.length=h at*;generalize hJ:bY m a=j at*;generalize hD:l[a]-n=d at*;have T:0<=d:=by omega
  have F:d<=1114111:=by omega
  have B:v+i=d*((h:Int)+1)+j:=by omega
  have I:d*((h:Int)+1)<=1114111*257:=Int.le_trans (Int.mul_le_mul_of_nonneg_right F (by omega)) (Int.mul_le_mul_of_nonneg_left (by omega) (by omega));have G:0<=v:=by
   by_cases C:d=0
   .have:=O.2 (by omega);subst C;omega
   .have:1*((h:Int)+1)<=d*((h:Int)+1):=Int.mul_le_mul_of_nonneg_right (by omega) (by omega);omega
  have U:(v+i) / ((h:Int)+1)=d:=by rw[B,Int.add_comm,Int.add_mul_ediv_right _ _ (by omega),Int.ediv_eq_zero_of_lt (by omega) (by omega)];omega
  have V:(v+i) % ((h:Int)+1)=j:=by rw[B,Int.add_comm,Int.add_mul_emod_self_right,Int.emod_eq_of_lt (by omega) (by omega)]
  have q:jS b (((jq b 64 0 v)++p).map some) 0 0 1=some (v,p.map some):=by
   rw[List.map_append,aDy 63 0 v 0 1 (p.map some) G (by omega) (by omega) (by omega) (by unfold tN;omega)];simp
  obtain⟨J,K,W⟩:∃J K,(jq b 64 0 v++p).map some=J::K:=by
   cases X:(jq b 64 0 v++p).map some with
   |nil=>exact absurd (List.append_eq_nil_iff.1 (List.map_eq_nil_iff.1 X)).1 (Vx b 0 v 63)
   |cons y ys=>exact⟨y,ys,rfl⟩
  have Y:1<=(jq b 64 0 v).length:=by
   rcases Nat.eq_zero_or_pos (jq b 64 0 v).length with C|C
   .exact absurd (List.eq_nil_of_length_eq_zero C) (Vx b 0 v 63)
   .exact C
  rw[lA']at M;obtain⟨H,rfl⟩:=gS' g;rw[W]at q |-;have r:n+d=l[a]:=by omega
  simp only[decP,q,A,U,V,r];rw[nN' (by omega),nN' (Vy z)];have D:qh (kE l 0 m) (j:Int).toNat l[a]=kE l 0 (λk=>m k||k==a):=by rw[aIW E o,hJ];rfl
  rw[D];refine ih H (by omega) (by omega) (by omega) ?_ ?_
  .rw[Cj o,pP' E,S];omega
  .intro k hk s;simp only[oF',aO]at s;have L:=w k hk s.1;refine⟨L.1,λe=>?_⟩;have h4:=L.2 e;have Z:a<k:=(by have:=s.2;omega);rw[Cj o,pP' Z];have h6:=Cm m (show a<=k by omega);omega
def rnI:Go.Shelf.Ren:=⟨λx=>if x=21 then 54 else if x=27 then 103 else if x=28 then 104 else if x=35 then 176 else 247,
 λx=>if x=22 then 22 else if x=3 then 3 else if x=4 then 4 else 0,λx=>x⟩
theorem infoSl:(prog.info? 22).map (λi=>(i.zero,i.size,i.bytes))=some (some (.slice none 0 0),1,24):=by kernel_rfl
theorem FT:Lays2.n21 prog rnI where
 mixed:=by kernel_rfl
 f21:=func54.trans (by kernel_rfl)
 f27:=func103.trans (by kernel_rfl)
 f28:=func104.trans (by kernel_rfl)
 f35:=func176.trans (by kernel_rfl)
 f39:=func247.trans (by kernel_rfl)
 t0:=underlying0
 a0:=Tryz.isAgg0
 z0:=Tryz.sizeOf0
 v0:=Tryz.zeroValue0
 t3:=underlying3
 a3:=Tryz.isAgg3
 z3:=Tryz.sizeOf3
 v3:=Tryz.zeroValue3
 t4:=underlying4
 a4:=Tryz.isAgg4
 z4:=Tryz.sizeOf4
 v4:=Tryz.zeroValue4
 t22:=underlying22
 a22:=λw=>by
  show(isAgg 22).run prog w=_
  simp[isAgg,run_underlying underlying22]
 z22:=λw=>by
  obtain⟨i,a,_,b,_⟩:=info_parts infoSl;show(Go.sizeOf 22).run prog w=_
  simp[Go.sizeOf,typeInfo,a,b]
 v22:=Tryz.zeroValue22
 i3:=by kernel_rfl
theorem xR{g:Nat}{e:TypeId}{a:Nat×Nat}:∀(vs:List Value)(o:Nat)(cur:Array Value)(w:World),w.heap[g]? =some (.cells cur e a)->o+vs.length<=cur.size->
 ∃cur',(w.setCells g o vs).heap[g]? =some (.cells cur' e a)/\cur'.toList=cur.toList.take o++vs++cur.toList.drop (o+vs.length)
 |[],o,cur,w,h,_=>⟨cur,h,by simp⟩
 |v::r,o,cur,w,h,hl=>by
  simp only[List.length_cons]at hl;have b:(w.setCell ⟨g,o,none⟩ v).heap[g]? =some (.cells (cur.setIfInBounds o v) e a):=by
   rw[setCell_eq_setRow w g o cur e a v h];exact setRow_heap w g cur _ e _ h
  obtain⟨cur',c,d⟩:=xR r (o+1) _ _ b (by rw[Array.size_setIfInBounds];omega);refine⟨cur',c,?_⟩;have:=list_seg_step cur.toList o v r (by simp;omega);rw[d,Array.toList_setIfInBounds];simpa[Nat.add_assoc,Nat.add_comm 1]using this
theorem uF{a:World}{g:Nat}(b:a.heap.size<=g):∀(vs:List Value)(o:Nat)(w:World),Ext a w->Ext a (w.setCells g o vs)
 |[],_,_,h=>h
 |v::r,o,_,h=>uF b r (o+1) _ (h.lI b v)
theorem FU{w:World}{b g n c:Nat}{e:TypeId}{a:Array Value}{d:List Value}(f:b<=g)(h:w.heap[g]? =some (.cells a e (0,0)))(i:n<=c)(j:c<=maxLen)(k:a.size=c)(ht:a.toList.take n=d):Own w b e 1 (some ⟨g,0,none⟩) n c d:=by
 refine⟨?_,.inr ⟨g,c,a,rfl,f,h,i,j,by omega,by rw[Nat.mul_one];exact ht⟩⟩;rw[<- ht,List.length_take,Array.length_toList];omega
theorem aJ4{O R:List Value}{x:Value}{i:Nat}(c:i<O.length)(l:R≠[]):
 ((((O++R).take (i+1)++O.drop i++(O++R).drop (O.length+1)).take i++[x]++((O++R).take (i+1)++O.drop i++(O++R).drop (O.length+1)).drop (i+1))).take (O.length+1)=O.take i++x::O.drop i:=by
 obtain⟨a,b,rfl,d⟩:∃a b,O=a++b/\a.length=i:=⟨O.take i,O.drop i,(List.take_append_drop i O).symm,by rw[List.length_take];omega⟩;subst d
 match b,R,l,c with
 |[],_,_,c=>simp at c
 |y::b,r::R,_,_=>
  have f:(a++y::b++r::R).take (a.length+1)=a++[y]:=by
   rw[show a++y::b++r::R=(a++[y])++(b++r::R)by simp];exact List.take_left' (by simp)
  have g:(a++y::b++r::R).drop ((a++y::b).length+1)=R:=by
   rw[show a++y::b++r::R=(a++y::b++[r])++R by simp];exact List.drop_left' (by simp;omega)
  have h:(a++y::b).drop a.length=y::b:=List.drop_left' rfl;rw[f,g,h,List.take_left' rfl];have j:(a++[y]++y::b++R).take a.length=a:=by
   rw[show a++[y]++y::b++R=a++([y]++y::b++R)by simp];exact List.take_left' rfl
  have k:(a++[y]++y::b++R).drop (a.length+1)=y::b++R:=by
   rw[show a++[y]++y::b++R=(a++[y])++(y::b++R)by simp];exact List.drop_left' (by simp)
  rw[j,k,show a++[x]++(y::b++R)=(a++x::y::b)++R by simp];exact List.take_left' (by simp;omega)
def VD(w0:World)(l:List Int)(e:Ending)(w':World):Prop:=∃A n c,e=.returned (.slice A n c)/\n=l.length/\aK w' w0.heap.size A n c l/\Ext w0 w'
theorem AQ(o:List Int)(i:Nat)(x:Int)(a:i<=o.length):(qh o i x).length=o.length+1:=by
 unfold qh;simp;omega
theorem Ed{M:List Nat}{g:Nat}(a:g∈M):∀(vs:List Value)(o:Nat)(w:World),Kp M w (w.setCells g o vs)
 |[],_,w=>Kp.refl M w
 |v::r,o,w=>(Kp.setCell M w ⟨g,o,none⟩ v a).trans (Ed a r (o+1) _)
theorem YR(w0 w:World)(A:Option Addr)(c:Nat)(o:List Int)(x:Int)(i:Nat)(M:aK w w0.heap.size A o.length c o)(hx:Ext w0 w)(hi:i<=o.length)(hb:o.length<=1099511600000):
 Calls prog 54 #[.slice A o.length c,.int .i64 i,.slice (some ⟨w.heap.size,0,none⟩) 1 1] (w.alloc (.cells #[.int .i64 x] 3)) λe w'=>VD w0 (qh o i x) e w'/\Kp (aH A).toList (w.alloc (.cells #[.int .i64 x] 3)) w':=by
 have N:Ext w (w.alloc (.cells #[.int .i64 x] 3)):=eR'.aB _;have Q:=Own.ext M N;have m:=hx.trans' N;have X:=Own.lt M;have y:∀(j:Nat)(v:Value),[Value.int .i64 x][j]? =some v->(w.alloc (.cells #[.int .i64 x] 3)).cell? ⟨w.heap.size,0+j,none⟩=some v:=by
  intro j v s;rw[Nat.zero_add,World.cell?_alloc_new]
  match j,s with
  |0,s=>simpa using s
  |j+1,s=>simp at s
 have z:∀v∈[Value.int .i64 x],v.oneCell'=true:=by intro v Y;simp at Y;subst Y;rfl
 have Z:∀v∈o.map (Value.int .i64),v.oneCell'=true:=by intro v Y;rw[List.mem_map]at Y;obtain⟨_,_,rfl⟩:=Y;rfl
 have ap:=N.b.size;generalize hW:w.alloc (.cells #[.int .i64 x] 3)=W at*;have a9:W.shape? w.heap.size=some (3,1):=by rw[<- hW];simp[World.shape?,World.alloc,-World.alloc_eq]
 have a0:∀k,W.frozen? ⟨w.heap.size,k,none⟩=false:=by rw[<- hW];intro k;simp[World.frozen?,World.alloc,-World.alloc_eq]
 rcases Q.2 with⟨h',h0⟩|⟨g,ar,d,h',av,hg,a2,r,ab,S⟩
 .injection h' with e1 e2 e3;subst e1 e3;have ae:i=0:=by omega
  subst ae;have ho:o=[]:=List.eq_nil_of_length_eq_zero h0;subst ho;refine(Any2.slices_Insert_int_end_grow (P:=prog) FT none 0 0 w.heap.size 0 1 1 [] [.int .i64 x] W (by omega) (by omega) (by omega) (by omega) rfl rfl (λ_=>rfl) (λa h=>by cases h) y z).mono ?_;rintro e w'⟨rfl,rfl⟩;have B:=grownCap_ge W 1 0 3;have D:=grownCap_le_maxLen W 1 0 3 (by simp[maxLen]);have E:rnI.t 3=3:=rfl;rw[E];generalize grownCap W (0+1) 0 3=G at*;refine⟨⟨_,_,_,rfl,rfl,?_,(m.dJ).aB _⟩,Kp.cZ ((eR'.dJ).aB _)⟩;refine FU (by have:=m.b.size;exact this) (heap_alloc_new W.drew _) B D ?_ ?_
  .simp[Builtin.zeroCells,Value.cells];omega
  .simp[qh,Builtin.zeroCells,Value.cells]
 .injection h' with e1 e2 e3;subst e1 e3;rw[Nat.mul_one]at ab S;have f:(o.map (Value.int .i64)).length=o.length:=List.length_map _;have q:d.toList=o.map (Value.int .i64)++d.toList.drop o.length:=by rw[<- S,List.take_append_drop]
  have p:∀j,W.cell? ⟨g,0+j,none⟩=d[j]? :=λj=>by rw[Nat.zero_add];exact cell_of_row W g j d _ (0,0) hg
  have F:∀(j:Nat)(v:Value),(o.map (Value.int .i64))[j]? =some v->W.cell? ⟨g,0+j,none⟩=some v:=by
   intro j v s;rw[p,<- Array.getElem?_toList,q,List.getElem?_append_left (List.getElem?_eq_some_iff.1 s).1];exact s
  have a3:∀j,W.frozen? ⟨g,0+j,none⟩=false:=λj=>by rw[Nat.zero_add];exact frozen_of_row W g j d _ hg
  have ay:g<w.heap.size:=(X g rfl).2;have H:w0.heap.size<=g:=(X g rfl).1;have af:W.shape? g=some (3,d.size):=by simp[World.shape?,hg]
  by_cases l:o.length+1<=c
  .by_cases K:i<o.length
   .refine(Any2.slices_Insert_int_shift (P:=prog) FT g 0 o.length c i w.heap.size 0 1 1 (o.map (Value.int .i64)) [.int .i64 x] W K (by omega) l (by simp only[maxLen]at r;exact r) (by omega) f rfl F
     (λj s=>by rw[p,Array.getElem?_eq_getElem (by omega)];rfl) (λj _=>a3 j) y Z z 3 3 1 d.size a9 af (by omega) (a0 0) (a0 1)).mono ?_
    rintro e w'⟨rfl,rfl⟩;obtain⟨L,I,n⟩:=xR (g:=g) ((o.map (Value.int .i64)).drop i) (0+(i+1)) d W.drew hg (by rw[List.length_drop,f];omega);have a4:L.size=d.size:=by
     have:=congrArg List.length n;simp only[Array.length_toList,lA',List.length_take,List.length_drop,f]at this;omega
    obtain⟨Bd,T,J⟩:=xR (g:=g) [.int .i64 x] (0+i) L _ I (by simp;omega);have a5:Bd.size=d.size:=by
     have:=congrArg List.length J;simp only[Array.length_toList,lA',List.length_take,List.length_drop,List.length_singleton]at this;omega
    refine⟨⟨_,_,_,rfl,(AQ o i x hi).symm,?_,uF H _ _ _ (uF H _ _ _ m.dJ)⟩,((Kp.cZ eR'.dJ).trans (Ed (by simp[aH]) _ _ _)).trans (Ed (by simp[aH]) _ _ _)⟩;refine FU H T l r (by omega) ?_;rw[J,n];simp only[Nat.zero_add];have hq:i+1+((o.map (Value.int .i64)).drop i).length=(o.map (Value.int .i64)).length+1:=(by rw[List.length_drop,f];omega);rw[hq,List.length_singleton];rw[q];have:=aJ4 (O:=o.map (Value.int .i64)) (R:=d.toList.drop o.length) (x:=.int .i64 x) (i:=i) (by rw[f];exact K) (by intro h;have:=congrArg List.length h;simp at this;omega);rw[f]at this;rw[f,this];simp[qh,List.map_take,List.map_drop]
   .have U:i=o.length:=(by omega);subst U
    refine(Any2.slices_Insert_int_end_room (P:=prog) FT g 0 o.length c w.heap.size 0 1 1 [.int .i64 x] W (by omega) l (by simp only[maxLen]at r;exact r) rfl
     (λj s=>by rw[Nat.add_assoc,p,Array.getElem?_eq_getElem (by omega)];rfl) (λj _=>by rw[Nat.add_assoc];exact a3 _) y z).mono ?_
    rintro e w'⟨rfl,rfl⟩;obtain⟨L,I,n⟩:=xR (g:=g) [.int .i64 x] (0+o.length) d W hg (by simp;omega);have a4:L.size=d.size:=by
     have:=congrArg List.length n;simp only[Array.length_toList,lA',List.length_take,List.length_drop,List.length_singleton]at this;omega
    refine⟨⟨_,_,_,rfl,(AQ o _ x hi).symm,?_,uF H _ _ _ m⟩,Ed (by simp[aH]) _ _ _⟩;refine FU H I l r (by omega) ?_;rw[n,Nat.zero_add,S,List.take_left' (by simp)];simp[qh]
  .by_cases K:i<o.length
   .refine(Any2.slices_Insert_int_grow (P:=prog) FT g 0 o.length c i w.heap.size 0 1 1 (o.map (Value.int .i64)) [.int .i64 x] W K (by omega) a2 (by omega) (by omega) f rfl F y Z z).mono ?_;rintro e w'⟨rfl,rfl⟩;have B:=grownCap_ge W (o.length+1) c 3;have D:=grownCap_le_maxLen W (o.length+1) c 3 (by simp only[maxLen];omega);have E:rnI.t 3=3:=rfl;rw[E];generalize grownCap W (o.length+1) c 3=G at*;generalize hC:((o.map (Value.int .i64)).take i).toArray++Builtin.zeroCells (Value.int .i64 0).cells (o.length+1-i)++Builtin.zeroCells (Value.int .i64 0).cells (G-(o.length+1))=C;have aD:C.size=G:=(by rw[<- hC];simp[Builtin.zeroCells,Value.cells];omega);have ai:C.toList.take i=(o.map (Value.int .i64)).take i:=by
     rw[<- hC];simp only[Array.toList_append,List.append_assoc];exact List.take_left' (by simp;omega)
    have a6:=heap_alloc_new W (.cells C 3);obtain⟨L,I,n⟩:=xR (g:=W.heap.size) [.int .i64 x] i C (W.alloc (.cells C 3)).drew a6 (by simp;omega);have a4:L.size=G:=by
     have:=congrArg List.length n;simp only[Array.length_toList,lA',List.length_take,List.length_drop,List.length_singleton]at this;omega
    obtain⟨Bd,T,J⟩:=xR (g:=W.heap.size) ((o.map (Value.int .i64)).drop i) (i+1) L ((W.alloc (.cells C 3)).drew.setCells W.heap.size i [.int .i64 x]).drew I (by rw[List.length_drop,f];omega);have a5:Bd.size=G:=by
     have:=congrArg List.length J;simp only[Array.length_toList,lA',List.length_take,List.length_drop,f]at this;omega
    have V:w0.heap.size<=W.heap.size:=m.b.size;refine⟨⟨_,_,_,rfl,(AQ o i x hi).symm,?_,uF V _ _ _ (uF V _ _ _ ((m.aB _).dJ)).dJ⟩,Kp.cZ (uF (lr' _) _ _ _ (uF (lr' _) _ _ _ ((eR'.aB _).dJ)).dJ)⟩;refine FU V T B D a5 ?_;have al:L.toList.take (i+1)=(o.map (Value.int .i64)).take i++[.int .i64 x]:=by
     rw[n,ai,List.take_left' (by simp;omega)]
    rw[J,al];rw[List.take_left' (by simp;omega)];simp[qh,List.map_take,List.map_drop]
   .have U:i=o.length:=(by omega);subst U
    refine(Any2.slices_Insert_int_end_grow (P:=prog) FT (some ⟨g,0,none⟩) o.length c w.heap.size 0 1 1 (o.map (Value.int .i64)) [.int .i64 x] W (by omega) a2 (by omega) (by omega) f rfl (λh=>by cases h)
     (λa ha j v s=>by injection ha with ha;subst ha;rw[Addr.add_lit];exact F j v s) y z).mono ?_
    rintro e w'⟨rfl,rfl⟩;have B:=grownCap_ge W (o.length+1) c 3;have D:=grownCap_le_maxLen W (o.length+1) c 3 (by simp only[maxLen];omega);have E:rnI.t 3=3:=rfl;rw[E];generalize grownCap W (o.length+1) c 3=G at*;refine⟨⟨_,_,_,rfl,(AQ o _ x hi).symm,?_,(m.dJ).aB _⟩,Kp.cZ ((eR'.dJ).aB _)⟩;refine FU (by have:=m.b.size;exact this) (heap_alloc_new W.drew _) B D ?_ ?_
    .simp[Builtin.zeroCells,Value.cells];omega
    .simp only[Array.toList_append];rw[List.take_left' (by simp)];simp[qh]
theorem aJ6(b w:World)(A:Option Addr)(c:Nat)(o:List Int)(x:Int)(i:Nat)(a:aK w b.heap.size A o.length c o)(d:Ext b w)(f:i<=o.length)(g:o.length<=1099511600000):
 Calls prog 54 #[.slice A o.length c,.int .i64 i,.slice (some ⟨w.heap.size,0,none⟩) 1 1] (w.alloc (.cells #[.int .i64 x] 3)) (VD b (qh o i x)):=
 (YR b w A c o x i a d f g).mono λ_ _ h=>h.1
end Go.Proofs.YtlmkgaoakcjlnaaGreatDoor
