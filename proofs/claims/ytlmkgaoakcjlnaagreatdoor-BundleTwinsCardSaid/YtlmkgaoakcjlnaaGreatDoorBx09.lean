/- Part Bx09. -/
import Derived.Test.YtlmkgaoakcjlnaaGreatDoorBx08
import Derived.Test.YtlmkgaoakcjlnaaGreatDoorRows
import Derived.ProofKit
import Derived.OpenShut
import Derived.Deep.Slices
import Derived.Deep.MidRow
import Derived.Deep.DeepHandedRow
import Derived.Lib.LaidTab
import Derived.Below
import Derived.Carry
import Derived.ChangeSame
open Go.Proofs.Tryz
namespace Go.Proofs.YtlmkgaoakcjlnaaGreatDoor
set_option maxHeartbeats 25600000
set_option maxRecDepth 100000
open Go.RowKit
variable (t:TV)(T:aj)(l:List Int)(A:Option Addr)(n c:Nat)(w:World)
theorem tK(ht:aW w t T)(h:aF w ⟨A,n,c⟩ l):
 cE' 96 #[t.v,.slice A n c] w (.int .i64 (aX T l)):=by
 have a:=dw w t;go_enter func96,ntmps96;go_wp2_with fail;refine(XW t T l A n c _ (ht.aC a) (h.ext a)).mono ?_;rintro e d⟨rfl,b⟩;go_wp2;go_ret;exact⟨rfl,a.trans' b⟩
theorem KL{T:aj}{l:List Int}{i:Int}(h:tH T l i=false):leftV T l i= -1:=by rw[leftV,nN' (by rw[h];simp)]
theorem Ky{T:aj}{l:List Int}{i:Int}(h:tH T l i=false):xq T l i= -1:=by rw[xq,nN' (by rw[h];simp)]
theorem Gh{T:aj}{l:List Int}{i:Int}(h:i<0):tH T l i=false:=by rw[tH,jh (p:=0<=i) (by omega)];simp
theorem Gg{T:aj}{l:List Int}{i:Int}(h:(l.length:Int)<=i):tH T l i=false:=by rw[tH,jh (p:=i<(l.length:Int)) (by omega)];simp
theorem FZ{T:aj}{l:List Int}{i:Int}(h:aX T l≠0):tH T l i=false:=by
 have e:(aX T l==0)=false:=by rw[aO];exact h
 rw[tH,e];rfl
theorem DR{T:aj}{l:List Int}{i:Nat}(h:aX T l=0)(a:i<l.length):tH T l i=true:=by
 rw[tH,h,iw (p:=(0:Int)<=(i:Int)) (by omega),iw (p:=(i:Int)<(l.length:Int)) (by omega)];rfl
theorem Z5(i:Int)(w:World)(ht:aW w t T)(h:aF w ⟨A,n,c⟩ l):
 cE' 252 #[t.v,.slice A n c,.int .i64 i] w (.int .i64 (leftV T l i)):=by
 obtain⟨O,I,P⟩:=h.len;subst O;have a:=dw w t;have Q:=ah h;have R:=ah ht;by_cases B:i<0
 .have q:Hid (leftV T l i= -1):=ah (KL (Gh B));have S:decide (i<0)=true:=iw B;clear ht h;go_enter func252,ntmps252;go_wp2;go_ret;exact⟨aV q.out.symm,a⟩
 have S:decide (i<0)=false:=jh B;obtain⟨i,rfl⟩:=iN' i;by_cases J:l.length<=i
 .have q:Hid (leftV T l i= -1):=ah (KL (Gg (by omega)));have U:decide (l.length<=i)=true:=iw J;have W:decide ((l.length:Int)<=(i:Int))=true:=iw (by omega);clear ht h;go_enter func252,ntmps252;go_wp2;go_ret;exact⟨aV q.out.symm,a⟩
 have U:decide (l.length<=i)=false:=jh J;have W:decide ((l.length:Int)<=(i:Int))=false:=jh (by omega);have y:=ah (tK t T l A l.length c _ (ht.aC a) (h.ext a));clear ht h;by_cases f:aX T l=0
 case neg=>
  have q:Hid (leftV T l i= -1):=ah (KL (FZ f));have e1:(aX T l != 0)=true:=bN' f;generalize aX T l=oe at*;clear f;go_enter func252,ntmps252;go_wp2_with fail;refine(y.out).mono ?_;rintro e K⟨rfl,d⟩;go_wp2;go_ret;exact⟨aV q.out.symm,a.trans' d⟩
 have X:Hid (leftV T l i=rF T (l.take i).reverse):=ah (by rw[leftV,pP' (DR f (by omega))];rfl);rw[f]at y;generalize leftV T l i=V at*;clear f;go_enter func252,ntmps252;go_wp2_with fail;refine(y.out).mono ?_;rintro e K⟨rfl,d⟩;have Y:=ah d;have C:=ah (a.trans' d);clear d y;go_wp2;go_loopw[7,8] (λZ D wr=>∃(k:Nat),k<=i/\D=.int .i64 k/\Z=.int .i64 (rF T (l.take k).reverse)/\Ext K wr) (λ_ D _=>i-(intOf D).toNat);exact⟨0,zl' _,rfl,rfl,eR'⟩;obtain⟨k,hk,rfl,rfl,r⟩:=hrel;have g:=ah r;clear r;by_cases a0:k<i
 .obtain⟨b,o,ha,h0⟩:=(Q.out.ext (C.out.trans' g.out)).at_ (i:=k) (by omega);subst ha;have a3:(k:Int)<(l.length:Int):=by omega
  have a4:=z0' k
  have s:Hid (rF T (l.take (k+1)).reverse=if ku T (l[k]'(by omega))=5 then rF T (l.take k).reverse else(k:Int)):=ah (by
   rw[QD l k (by omega),rF,List.length_reverse,List.length_take,Nat.min_eq_left (by omega)])
  generalize l[k]=x at*;have E:Hid (∀z:ak wr,cE' 254 #[t.v,.int .i64 x] z.w (.int .i64 (ku T x))):=ah (λz=>DI t T x z.w (R.out.aC ((C.out.trans' g.out).trans' z.h)));have L:∀z:ak wr,∀p:Nat,z.w.cell? ⟨w.heap.size,p,none⟩=t.v.cells[p]? :=λz=>aQ ((Y.out.trans' g.out).trans' z.h)
  have M:∀z:ak wr,z.w.cell? ⟨b,o+k,none⟩=some (.int .i64 x):=cZ h0;generalize rF T (l.take k).reverse=V0 at*;obtain⟨j,G⟩:=eY' (ku T x);rw[G]at E s;obtain⟨N,rfl⟩:=eX' wr;by_cases m:j=5
  .have e5:(j != 5)=false:=by rw[bne_eq_false_iff_eq];exact m
   have H:Hid (rF T (l.take (k+1)).reverse=V0):=ah (by rw[s.out,pP' m]);clear s m G;go_wp2_with fail;refine rX' ?_
   repeat(go_big_quiet_step(first|(go_at_call 254;with_reducible exact aS (E.out _))))
   refine wpQuiet_nil ?_;rintro _⟨z,rfl⟩;clear L M;go_wp2;go_roundw;exact⟨k+1,by omega,by go_num,by rw[H.out],g.out.trans' z.h⟩;simp[intOf];omega
  .have e5:(j != 5)=true:=bN' m;have H:Hid (rF T (l.take (k+1)).reverse=(k:Int)):=ah (by rw[s.out,nN' m]);clear s m G;go_wp2_with fail;refine rX' ?_
   repeat(go_big_quiet_step(first|(go_at_call 254;with_reducible exact aS (E.out _))))
   refine wpQuiet_nil ?_;rintro _⟨z,rfl⟩;clear L M;go_wp2;go_roundw;exact⟨k+1,by omega,by go_num,by rw[H.out],g.out.trans' z.h⟩;simp[intOf];omega
 .obtain rfl:k=i:=by omega
  go_wp2;go_ret;exact⟨aV X.out.symm,C.out.trans' g.out⟩
theorem YG(i:Int)(w:World)(ht:aW w t T)(h:aF w ⟨A,n,c⟩ l):
 cE' 253 #[t.v,.slice A n c,.int .i64 i] w (.int .i64 (xq T l i)):=by
 obtain⟨Q,K,R⟩:=h.len;subst Q;have a:=dw w t;have S:=ah h;have U:=ah ht;by_cases D:i<0
 .have r:Hid (xq T l i= -1):=ah (Ky (Gh D));have W:decide (i<0)=true:=iw D;clear ht h;go_enter func253,ntmps253;go_wp2;go_ret;exact⟨aV r.out.symm,a⟩
 have W:decide (i<0)=false:=jh D;obtain⟨i,rfl⟩:=iN' i;by_cases L:l.length<=i
 .have r:Hid (xq T l i= -1):=ah (Ky (Gg (by omega)));have X:decide (l.length<=i)=true:=iw L;have Y:decide ((l.length:Int)<=(i:Int))=true:=iw (by omega);clear ht h;go_enter func253,ntmps253;go_wp2;go_ret;exact⟨aV r.out.symm,a⟩
 have X:decide (l.length<=i)=false:=jh L;have Y:decide ((l.length:Int)<=(i:Int))=false:=jh (by omega);have C:=ah (tK t T l A l.length c _ (ht.aC a) (h.ext a));clear ht h;by_cases g:aX T l=0
 case neg=>
  have r:Hid (xq T l i= -1):=ah (Ky (FZ g));have e1:(aX T l != 0)=true:=bN' g;generalize aX T l=oe at*;clear g;go_enter func253,ntmps253;go_wp2_with fail;refine(C.out).mono ?_;rintro e M⟨rfl,d⟩;go_wp2;go_ret;exact⟨aV r.out.symm,a.trans' d⟩
 have Z:Hid (xq T l i=qh T (i+1) (l.drop (i+1))):=ah (by rw[xq,pP' (DR g (by omega))];rfl);rw[g]at C;generalize xq T l i=V at*;clear g;go_enter func253,ntmps253;go_wp2_with fail;refine(C.out).mono ?_;rintro e M⟨rfl,d⟩;have aY:=ah d;have E:=ah (a.trans' d);clear d C;go_wp2;go_loopw[7,8] (λs7 F wr=>∃(k:Nat),i+1<=k/\k<=l.length/\F=.int .i64 ((k:Int)-1)/\s7=.int .i64 (qh T k (l.drop k))/\Ext M wr) (λ_ F _=>(intOf F).toNat);exact⟨l.length,by omega,lr' _,by go_num,by rw[bT l l.length (lr' _)];rfl,eR'⟩;obtain⟨k,a2,hk,rfl,rfl,s⟩:=hrel;have m:=ah s;clear s;by_cases a3:i+1<k
 .obtain⟨j,rfl⟩:=gS' k;have f:((j+1:Nat):Int)-1=(j:Int):=by omega
  rw[f];obtain⟨b,o,ha,h0⟩:=(S.out.ext (E.out.trans' m.out)).at_ (i:=j) (by omega);subst ha;have a6:(j:Int)<(l.length:Int):=by omega
  have a7:=z0' j;have a8:decide (i<j)=true:=iw (by omega);have a9:decide ((i:Int)<(j:Int))=true:=iw (by omega)
  have B:Hid (qh T j (l.drop j)=if ku T (l[j]'(by omega))=5 then qh T (j+1) (l.drop (j+1))else(j:Int)):=ah (by
   rw[drop_at l j (by omega),qh])
  generalize l[j]=x at*;have G:Hid (∀z:ak wr,cE' 254 #[t.v,.int .i64 x] z.w (.int .i64 (ku T x))):=ah (λz=>DI t T x z.w (U.out.aC ((E.out.trans' m.out).trans' z.h)));have N:∀z:ak wr,∀p:Nat,z.w.cell? ⟨w.heap.size,p,none⟩=t.v.cells[p]? :=λz=>aQ ((aY.out.trans' m.out).trans' z.h)
  have O:∀z:ak wr,z.w.cell? ⟨b,o+j,none⟩=some (.int .i64 x):=cZ h0;generalize qh T (j+1) (l.drop (j+1))=V0 at*;obtain⟨y,I⟩:=eY' (ku T x);rw[I]at G B;obtain⟨P,rfl⟩:=eX' wr;by_cases q:y=5
  .have e5:(y != 5)=false:=by rw[bne_eq_false_iff_eq];exact q
   have J:Hid (qh T j (l.drop j)=V0):=ah (by rw[B.out,pP' q]);clear B q I;go_wp2_with fail;refine rX' ?_
   repeat(go_big_quiet_step(first|(go_at_call 254;with_reducible exact aS (G.out _))))
   refine wpQuiet_nil ?_;rintro _⟨z,rfl⟩;clear N O;go_wp2;go_roundw;exact⟨j,by omega,by omega,by go_num,by rw[J.out],m.out.trans' z.h⟩;simp[intOf];omega
  .have e5:(y != 5)=true:=bN' q;have J:Hid (qh T j (l.drop j)=(j:Int)):=ah (by rw[B.out,nN' q]);clear B q I;go_wp2_with fail;refine rX' ?_
   repeat(go_big_quiet_step(first|(go_at_call 254;with_reducible exact aS (G.out _))))
   refine wpQuiet_nil ?_;rintro _⟨z,rfl⟩;clear N O;go_wp2;go_roundw;exact⟨j,by omega,by omega,by go_num,by rw[J.out],m.out.trans' z.h⟩;simp[intOf];omega
 .obtain rfl:k=i+1:=by omega
  have f:((i+1:Nat):Int)-1=(i:Int):=by omega
  rw[f];go_wp2;go_ret;exact⟨aV Z.out.symm,E.out.trans' m.out⟩
def uy(c:Int):Bool:=decide (1632<=c)&&decide (c<=1641)
def uz(c:Int):Bool:=decide (1776<=c)&&decide (c<=1785)
def hasB(T:aj)(l:List Int)(i s:Int):Bool:=decide (0<=i)&&decide (i<(l.length:Int))&&ji T (l.getD i.toNat 0)==s
def oh(T:aj)(c:Int):Bool:=ji T c==7||ji T c==8||ji T c==6
def zX(l:List Int)(i:Nat):Bool:=decide (0<i)&&decide (i+1<l.length)&&l.getD (i-1) 0==108&&l.getD (i+1) 0==108
def nV(T:aj)(l:List Int)(i:Nat):Bool:=
 if(l.getD i 0==183)=true then zX l i
 else if(l.getD i 0==885)=true then hasB T l ((i:Int)+1) 4
 else if(l.getD i 0==1523||l.getD i 0==1524)=true then hasB T l ((i:Int)-1) 11
 else if(l.getD i 0==12539)=true then l.any (oh T)
 else if uy (l.getD i 0)=true then !l.any uz
 else if uz (l.getD i 0)=true then !l.any uy
 else true
def wF(T:aj)(l:List Int)(i:Int):Bool:=tH T l i&&nV T l i.toNat
def xG(T:aj)(l:List Int):Nat->Nat->Int×Int
 |0,_=>(0,0)
 |n+1,i=>if nV T l i=true then xG T l n (i+1)else(i,18)
def kF(T:aj)(l:List Int):Int×Int:=if aX T l=0 then xG T l l.length 0 else(0,aX T l)
theorem FT(c:Int)(w:World):cW' 301 #[.int .i64 c] w (.bool (uy c)):=by
 obtain⟨a,f⟩:=eY' (decide (1632<=c));obtain⟨d,g⟩:=eY' (decide (c<=1641));have h:Hid (uy c=(a&&d)):=ah (by rw[uy,f,g]);cases a<;>cases d
 all_goals
  go_enter func301,ntmps301;go_wp2;go_ret;exact⟨aP h.out.symm,rfl⟩
theorem Jg(c:Int)(w:World):cW' 302 #[.int .i64 c] w (.bool (uz c)):=by
 obtain⟨a,f⟩:=eY' (decide (1776<=c));obtain⟨d,g⟩:=eY' (decide (c<=1785));have h:Hid (uz c=(a&&d)):=ah (by rw[uz,f,g]);cases a<;>cases d
 all_goals
  go_enter func302,ntmps302;go_wp2;go_ret;exact⟨aP h.out.symm,rfl⟩
theorem Zj(c:Int)(w:World)(ht:aW w t T)(o:gu T):
 cE' 300 #[t.v,.int .i64 c] w (.bool (oh T c)):=by
 have i:=ah ht;have a:=dw w t;have j:Hid (∀v,ji T c=v->oh T c=(v==7||v==8||v==6)):=ah (by rintro v rfl;rfl);obtain⟨v,f⟩:=eY' (ji T c);have k:=ah f;have g:=ah (j.out v f);clear j f;by_cases h:v=7\/v=8\/v=6
 .rcases h with rfl|rfl|rfl
  all_goals
   have b:Hid (oh T c=true):=ah g.out;go_enter func300,ntmps300;go_wp2_with(go_at_call 304;refine(G5 t T c _ (i.out.aC a) o).mono ?_;rintro e p⟨rfl,d⟩;rw[k.out]);go_ret;exact⟨aP b.out.symm,a.trans' d⟩
 .simp only[not_or]at h;obtain⟨l,m,n⟩:=h;have q:(v==7)=false:=by rw[aO];exact l
  have r:(v==8)=false:=by rw[aO];exact m
  have s:(v==6)=false:=by rw[aO];exact n
  have b:Hid (oh T c=false):=ah (by rw[g.out,q,r,s];rfl);clear l m n g;go_enter func300,ntmps300;go_wp2_with(go_at_call 304;refine(G5 t T c _ (i.out.aC a) o).mono ?_;rintro e p⟨rfl,d⟩;rw[k.out]);go_ret;exact⟨aP b.out.symm,a.trans' d⟩
theorem Rz(i s:Int)(w:World)(ht:aW w t T)(Q:gu T)(h:aF w ⟨A,n,c⟩ l):
 cE' 298 #[t.v,.slice A n c,.int .i64 i,.int .i64 s] w (.bool (hasB T l i s)):=by
 obtain⟨G,_,_⟩:=h.len;subst G;have H:=ah ht;have I:=ah h;obtain⟨m,d⟩:=eX' (w.alloc (.cells #[.slice t.s0.a t.s0.n t.s0.c,.slice t.s1.a t.s1.n t.s1.c,.slice t.s2.a t.s2.n t.s2.c,.slice t.s3.a t.s3.n t.s3.c,.slice t.s4.a t.s4.n t.s4.c,.slice t.s5.a t.s5.n t.s5.c,.slice t.s6.a t.s6.n t.s6.c,.slice t.s7.a t.s7.n t.s7.c,.slice t.s8.a t.s8.n t.s8.c,.slice t.s9.a t.s9.n t.s9.c,.slice t.s10.a t.s10.n t.s10.c,.slice t.s11.a t.s11.n t.s11.c] 26));have f:Ext w m:=by rw[d];exact eR'.aB _
 have J:∀q:ak m,∀k:Nat,q.w.cell? ⟨w.heap.size,k,none⟩=t.v.cells[k]? :=λq=>AV d q.h
 by_cases r:0<=i/\i<(l.length:Int)
 .obtain⟨k,rfl⟩:=iN' i;have g:k<l.length:=by omega
  have D:Hid (l.getD k 0=l[k]):=getD_lt l k 0 g;obtain⟨b,o,K,y⟩:=(I.out.ext f).at_ g;subst K;generalize l[k]=x at*;have z:Hid (hasB T l k s=(ji T x==s)):=ah (by unfold hasB;rw[Int.toNat_natCast,D.out];simp[g]);have L:∀q:ak m,q.w.cell? ⟨b,o+k,none⟩=some (.int .i64 x):=cZ y;obtain⟨M,N⟩:=r;clear D y;generalize R:(ji T x==s)=v at z;go_enter func298,ntmps298;go_wp2_with fail;rw[<- d];refine rX' ?_
  repeat(go_big_quiet_step((go_at_call 304;with_reducible exact aS (G5 t T x _ (H.out.aC (f.trans' (ak.h _))) Q))))
  refine wpQuiet_nil ?_;rintro _⟨B,rfl⟩;have j:=f.trans' B.h;clear J L d f;cases v
  all_goals
   go_wp2;go_ret;exact⟨aP z.out.symm,j⟩
 .have z:Hid (hasB T l i s=false):=ah (by
   unfold hasB;by_cases O:0<=i
   .rw[df' (p:=i<(l.length:Int)) (by omega)];simp
   .rw[df' O];simp)
  obtain⟨E,y⟩:=eY' (decide (0<=i));obtain⟨F,P⟩:∃b,decide (i<(l.length:Int))=b:=⟨_,rfl⟩;have C:(E&&F)=false:=by rw[<- y,<- P];simp;omega
  clear r;cases E<;>cases F
  case true.true=>cases C
  all_goals
   go_enter func298,ntmps298;go_wp2_with fail;rw[<- d];refine rX' ?_
   repeat(go_big_quiet_step(fail))
   refine wpQuiet_nil ?_;rintro _⟨B,rfl⟩;have j:=f.trans' B.h;go_wp2;go_ret;exact⟨aP z.out.symm,j⟩
theorem Zf(c:Int)(d:Nat)(w:World)(ht:aW w t T)(f:gu T)(g:∀k:Nat,w.cell? ⟨d,k,none⟩=t.v.cells[k]?):
 cE' 299 (#[.int .i64 c]++ #[.pointer (some ⟨d,0,none⟩)]) w (.bool (oh T c)):=by
 have h:∀k:Nat,w.cell? ⟨d,k,none⟩=(#[.slice t.s0.a t.s0.n t.s0.c,.slice t.s1.a t.s1.n t.s1.c,.slice t.s2.a t.s2.n t.s2.c,.slice t.s3.a t.s3.n t.s3.c,.slice t.s4.a t.s4.n t.s4.c,.slice t.s5.a t.s5.n t.s5.c,.slice t.s6.a t.s6.n t.s6.c,.slice t.s7.a t.s7.n t.s7.c,.slice t.s8.a t.s8.n t.s8.c,.slice t.s9.a t.s9.n t.s9.c,.slice t.s10.a t.s10.n t.s10.c,.slice t.s11.a t.s11.n t.s11.c]:Array Value)[k]? :=g;go_enter func299,ntmps299;go_wp2_with(go_at_call 300;refine(Zj t T c _ ht f).mono ?_;rintro e i⟨rfl,b⟩);go_ret;exact⟨rfl,b⟩
theorem PW(i:Nat)(w:World)(ht:aW w t T)(Y:gu T)(h:aF w ⟨A,n,c⟩ l)(hi:i<l.length):
 cE' 279 #[t.v,.slice A n c,.int .i64 i] w (.bool (nV T l i)):=by
 obtain⟨hn,_,_⟩:=h.len;subst hn;have N:=ah ht;have C:=ah h;have a:=dw w t;have Z:Hid (l.getD i 0=l[i]):=getD_lt l i 0 hi
 have UN:Hid (∀j,j<l.length->∃y,l.getD j 0=y/\∃b o,A=some ⟨b,o,none⟩/\(tW' w t).cell? ⟨b,o+j,none⟩=some (.int .i64 y)):=ah (λj M=>by
  obtain⟨b',o',I,O⟩:=(C.out.ext a).at_ (i:=j) M
  exact⟨_,getD_lt l j 0 M,b',o',I,O⟩)
 obtain⟨b,o,q,h1⟩:=(C.out.ext a).at_ hi;subst q
 have g:Hid (∀j,j<l.length->∃y,l.getD j 0=y/\(tW' w t).cell? ⟨b,o+j,none⟩=some (.int .i64 y)):=ah (λj M=>by
  obtain⟨y,h1,b',o',I,O⟩:=UN.out j M;injection I with I;injection I with P Q;subst P Q
  exact⟨y,h1,O⟩)
 clear UN;generalize l[i]=x at*;have ab:=z0' i;have ac:(i:Int)<(l.length:Int):=by omega
 have s:Hid (nV T l i=if(x==183)=true then zX l i else if(x==885)=true then hasB T l ((i:Int)+1) 4 else if(x==1523||x==1524)=true then hasB T l ((i:Int)-1) 11
  else if(x==12539)=true then l.any (oh T)else if uy x=true then !l.any uz else if uz x=true then !l.any uy else true):=ah (by unfold nV;rw[Z.out])
 clear Z;by_cases E:x=183
 .subst E;have m:Hid (nV T l i=zX l i):=s;clear s;by_cases F:0<i/\i+1<l.length
  .obtain⟨y,R,S⟩:=g.out (i-1) (by omega);obtain⟨z,hz,ad⟩:=g.out (i+1) F.2;obtain⟨k,hk⟩:∃k,i=k+1:=⟨i-1,by omega⟩;have a5:(i:Int)-1=(k:Int):=(by omega);have D:i-1=k:=(by omega);rw[D]at S;have af:=z0' k;have ag:(k:Int)<(l.length:Int):=(by omega);have ai:(0:Int)<=(i:Int)+1:=(by omega);have al:(i:Int)+1<(l.length:Int):=(by omega);have J:decide (0<i)=true:=dT';have U:decide ((i:Int)<(l.length:Int)-1)=true:=dT';obtain⟨b1,d⟩:=eY' (y==108);obtain⟨b2,V⟩:=eY' (z==108);have f:Hid (nV T l i=(b1&&b2)):=ah (by rw[m.out];unfold zX;rw[D]at R |-;rw[R,hz,d,V];simp[F.1,F.2]);clear m F R hz hk D g;cases b1<;>cases b2
   all_goals
    go_enter func279,ntmps279;go_wp2;go_ret;exact⟨aP f.out.symm,a⟩
  .have f:Hid (nV T l i=false):=ah (by
    rw[m.out];unfold zX;by_cases h0:0<i
    .rw[df' (p:=i+1<l.length) (by omega)];simp
    .rw[df' h0];simp)
   clear m g;by_cases h0:0<i
   .have J:decide (0<i)=true:=dT';have U:decide ((i:Int)<(l.length:Int)-1)=false:=dF';clear F;go_enter func279,ntmps279;go_wp2;go_ret;exact⟨aP f.out.symm,a⟩
   .have J:decide (0<i)=false:=dF';clear F;go_enter func279,ntmps279;go_wp2;go_ret;exact⟨aP f.out.symm,a⟩
 by_cases K:x=885
 .subst K;have m:Hid (nV T l i=hasB T l ((i:Int)+1) 4):=s;clear s g E;go_enter func279,ntmps279;go_wp2_with(go_at_call 298;refine(Rz t T l _ _ c _ _ _ (N.out.aC a) Y (C.out.ext a)).mono ?_;rintro e r⟨rfl,d⟩);go_ret;exact⟨aP m.out.symm,a.trans' d⟩
 by_cases G:x=1523\/x=1524
 .have m:Hid (nV T l i=hasB T l ((i:Int)-1) 11):=ah (by rw[s.out];rcases G with rfl|rfl<;>rfl);clear s g E K;rcases G with rfl|rfl
  all_goals
   go_enter func279,ntmps279;go_wp2_with(go_at_call 298;refine(Rz t T l _ _ c _ _ _ (N.out.aC a) Y (C.out.ext a)).mono ?_;rintro e r⟨rfl,d⟩);go_ret;exact⟨aP m.out.symm,a.trans' d⟩
 by_cases W:x=12539
 .subst W;have m:Hid (nV T l i=l.any (oh T)):=s;clear s g E K G;go_enter func279,ntmps279;go_wp2_with(go_at_call 201;refine(Jc 299 #[.pointer (some ⟨w.heap.size,0,none⟩)] (oh T) l _ _ _ _ (C.out.ext a) Tryz.call299 (λx _ w' B=>Zf t T x _ w' (N.out.aC (a.trans' B)) Y (aQ B))).mono ?_;rintro e r⟨rfl,d⟩);go_ret;exact⟨aP m.out.symm,a.trans' d⟩
 have P:(x==183)=false:=by rw[aO];exact E
 have Q:(x==885)=false:=by rw[aO];exact K
 have e3:(x==1523)=false:=by rw[aO];exact λh=>G (.inl h)
 have e4:(x==1524)=false:=by rw[aO];exact λh=>G (.inr h)
 have e5:(x==12539)=false:=by rw[aO];exact W
 have m:Hid (nV T l i=if uy x=true then !l.any uz else if uz x=true then !l.any uy else true):=ah (by rw[s.out,P,Q,e3,e4,e5];rfl);clear s E K G W g;cases q:uy x
 .cases H:uz x
  .have f:Hid (nV T l i=true):=ah (by rw[m.out,q,H];rfl);have L:=ah q;have X:=ah H;clear q H m;go_enter func279,ntmps279
   go_wp2_with(first
    |(go_at_call 301;refine(FT _ _).mono ?_;rintro e r⟨rfl,rfl⟩;rw[L.out])
    |(go_at_call 302;refine(Jg _ _).mono ?_;rintro e r⟨rfl,rfl⟩;rw[X.out]))
   go_ret;exact⟨aP f.out.symm,a⟩
  .have f:Hid (nV T l i= !l.any uy):=ah (by rw[m.out,q,H];rfl);have L:=ah q;have X:=ah H;clear q H m;go_enter func279,ntmps279
   go_wp2_with(first
    |(go_at_call 301;refine(FT _ _).mono ?_;rintro e r⟨rfl,rfl⟩;rw[L.out])
    |(go_at_call 302;refine(Jg _ _).mono ?_;rintro e r⟨rfl,rfl⟩;rw[X.out])
    |(go_at_call 201;refine(Jc 301 #[] uy l _ _ _ _ (C.out.ext a) Tryz.call301 (λx _ w' B=>(FT x w').mono (by rintro e r⟨rfl,rfl⟩;exact⟨rfl,eR'⟩))).mono ?_;rintro e r⟨rfl,d⟩))
   go_ret;exact⟨aP f.out.symm,a.trans' d⟩
 .have f:Hid (nV T l i= !l.any uz):=ah (by rw[m.out,q];rfl);have L:=ah q;clear q m;go_enter func279,ntmps279
  go_wp2_with(first
   |(go_at_call 301;refine(FT _ _).mono ?_;rintro e r⟨rfl,rfl⟩;rw[L.out])
   |(go_at_call 201;refine(Jc 302 #[] uz l _ _ _ _ (C.out.ext a) Tryz.call302 (λx _ w' B=>(Jg x w').mono (by rintro e r⟨rfl,rfl⟩;exact⟨rfl,eR'⟩))).mono ?_;rintro e r⟨rfl,d⟩))
  go_ret;exact⟨aP f.out.symm,a.trans' d⟩
theorem nJ'(ht:aW w t T)(h:aF w ⟨A,n,c⟩ l):
 cE' 234 #[t.v,.slice A n c] w (.tuple #[.int .i64 (kF T l).1,.int .i64 (kF T l).2]):=by
 obtain⟨C,_,_⟩:=h.len;subst C;have s:=ah ht;have x:=ah h;have b:=dw w t;go_enter func234,ntmps234;go_wp2_with fail;refine(yB t T l A _ c _ (s.out.aC b) (x.out.ext b)).mono ?_;rintro e G⟨v,rfl,o,_⟩;have D:=b.trans' o;by_cases d:aX T l=0
 .have B:=ah (nD (Ld d).1);have y:Hid (kF T l=xG T l (l.length-0) 0):=ah (by simp[kF,d]);rw[d];clear d;go_wp2;go_loopw[20] (λj wr=>∃(k:Nat),k<=l.length/\j=.int .i64 k/\Hid (kF T l=xG T l (l.length-k) k)/\Ext (tW' w t) wr) (λj _=>l.length-(intOf j).toNat);exact⟨0,zl' _,rfl,y,o⟩;obtain⟨k,H,rfl,q,f⟩:=hrel;have a:=b.trans' f;have I:∀k:Nat,wr.cell? ⟨w.heap.size,k,none⟩=t.v.cells[k]? :=aQ f;by_cases p:k<l.length
  .have r:=aI q (show _=if nV T l k=true then xG T l (l.length-(k+1)) (k+1)else((k:Int),(18:Int))from by
    rw[show l.length-k=(l.length-(k+1))+1 from by omega];rfl)
   clear q y;cases m:nV T l k
   .have g:=aI r (show _=((k:Int),(18:Int))from by rw[m];simp);have z:=ah m;clear r m;go_wp2_with(go_at_call 279;refine(PW t T l A _ c k _ (s.out.aC a) B.out (x.out.ext a) p).mono ?_;rintro e E⟨rfl,i⟩;rw[z.out]);go_ret2;exact⟨by rw[g.out];rfl,a.trans' i⟩
   .have g:=aI r (show _=xG T l (l.length-(k+1)) (k+1)from by rw[m];simp);have z:=ah m;clear r m;go_wp2_with(go_at_call 279;refine(PW t T l A _ c k _ (s.out.aC a) B.out (x.out.ext a) p).mono ?_;rintro e E⟨rfl,i⟩;rw[z.out]);go_roundw;exact⟨k+1,by omega,by go_num,g,f.trans' i⟩;simp[intOf];omega
  .have g:=aI q (show _=((0:Int),(0:Int))from by rw[show l.length-k=0 from by omega];rfl);clear q y;go_wp2;go_ret2;exact⟨by rw[g.out];rfl,a⟩
 .have F:(aX T l==0)=false:=by rw[aO];exact d
  have g:Hid (kF T l=(0,aX T l)):=ah (by simp[kF,d]);clear d;go_wp2;go_ret2;exact⟨by rw[g.out];rfl,D⟩
def gV(j bias:Int):Int:=min (max (36*(j+1)-bias) 1) 26
theorem Bv(j a:Int):1<=gV j a/\gV j a<=26:=by unfold gV;omega
def jc(bias:Int):Nat->Int->Int->List Int
 |0,_,_=>[]
 |f+1,j,v=>if v<gV j bias then[v]else(gV j bias+(v-gV j bias) % (36-gV j bias))::jc bias f (j+1) ((v-gV j bias) / (36-gV j bias))
def rW:Int:=2147483648
def jE(bias:Int):List (Option Int)->Int->Int->Int->Option (Int×List (Option Int))
 |[],_,_,_=>none
 |none::_,_,_,_=>none
 |some d::r,j,v,w=>if d<gV j bias then some (min (v+d*w) rW,r)else jE bias r (j+1) (min (v+d*w) rW) (min (w*(36-gV j bias)) rW)
theorem Tt{a:Int}:∀(f:Nat)(j v:Int),0<=v->∀d∈jc a f j v,0<=d/\d<36
 |0,_,_,_,d,c=>by cases c
 |f+1,j,v,h,d,c=>by
  have ht:=Bv j a;unfold jc at c;split at c
  .simp only[List.mem_singleton]at c;omega
  .rcases List.mem_cons.1 c with rfl|c
   .have g:=Int.emod_nonneg (v-gV j a) (b:=36-gV j a) (by omega);have i:=Int.emod_lt_of_pos (v-gV j a) (b:=36-gV j a) (by omega);omega
   .exact Tt f (j+1) _ (Int.ediv_nonneg (by omega) (by omega)) d c
theorem aDy{c:Int}:∀(f:Nat)(j v a w:Int)(r:List (Option Int)),0<=v->0<=a->0<w->v<2 ^ f->a+v*w<rW->jE c ((jc c (f+1) j v).map some++r) j a w=some (a+v*w,r):=by
 intro f
 induction f with
 |zero=>
  intro j v a w r h n g o p;have ht:=Bv j c;have i:v=0:=by have:(2:Int) ^ 0=1:=rfl;omega
  subst i;unfold jc;rw[pP' (by omega)];show jE c (some 0::r) j a w=_
  unfold jE;rw[pP' (by omega),Int.min_eq_left (by omega)]
 |succ f ih=>
  intro j v a w r h n g o p;have ht:=Bv j c;unfold jc;split
  .rename_i d;show jE c (some v::r) j a w=_
   unfold jE;rw[pP' d,Int.min_eq_left (by omega)]
  .rename_i d;generalize s:gV j c=t at*;have E:=Int.emod_nonneg (v-t) (b:=36-t) (by omega);have x:=Int.emod_lt_of_pos (v-t) (b:=36-t) (by omega);have k:0<=(v-t) / (36-t):=Int.ediv_nonneg (by omega) (by omega);have y:(36-t)*((v-t) / (36-t))+(v-t) % (36-t)=v-t:=Int.mul_ediv_add_emod (v-t) (36-t);generalize F:(v-t) / (36-t)=q at*;generalize G:(v-t) % (36-t)=m at*;show jE c (some (t+m)::((jc c (f+1) (j+1) q).map some++r)) j a w=_
   unfold jE;rw[s,nN' (by omega)];have i:v=t+m+(36-t)*q:=(by omega);have e:a+v*w=(a+(t+m)*w)+q*(w*(36-t)):=by
    rw[i,Int.add_mul,Int.mul_comm (36-t) q,Int.mul_assoc,Int.mul_comm (36-t) w];omega
   have z:0<=q*(w*(36-t)):=Int.mul_nonneg k (Int.mul_nonneg (by omega) (by omega));have A:0<=(t+m)*w:=Int.mul_nonneg (by omega) (by omega);rw[Int.min_eq_left (by omega)];have B:2*q<=v:=by
    have:q*2<=q*(36-t):=Int.mul_le_mul_of_nonneg_left (by omega) k;rw[Int.mul_comm (36-t) q]at i;omega
   have C:(2:Int) ^ (f+1)=2 ^ f*2:=Int.pow_succ 2 f;by_cases l:q=0
   .subst l;rw[ih (j+1) 0 _ _ r (by omega) (by omega) (by have:0<w*(36-t):=Int.mul_pos g (by omega);unfold rW;omega) (by omega) (by omega)];rw[e];simp
   .have D:w*(36-t)<=q*(w*(36-t)):=by
     have:=Int.mul_le_mul_of_nonneg_right (show(1:Int)<=q by omega) (Int.mul_nonneg (Int.le_of_lt g) (show(0:Int)<=36-t by omega));omega
    rw[Int.min_eq_left (by omega),ih (j+1) q _ _ r k (by omega) (Int.mul_pos g (by omega)) (by omega) (by omega),e]
def adG:Nat->Int->Int->Int
 |0,k,_=>k
 |f+1,k,d=>if d<=455 then k+36*d / (d+38)else adG f (k+36) (d / 35)
def oz(delta pts:Int)(first:Bool):Int:=
 if delta<0\/1099511627776<delta\/pts<1\/4096<pts then 0
 else adG 64 0 ((if first then delta / 700 else delta / 2)+(if first then delta / 700 else delta / 2) / pts)
def bV(pl:Nat->Bool)(q:Nat):Nat:=(List.range q).countP pl
theorem yZ(a:Nat->Bool)(q:Nat):bV a (q+1)=bV a q+if a q=true then 1 else 0:=by
 unfold bV;rw[List.range_succ,List.countP_append,List.countP_singleton]
theorem vT(a:Nat->Bool)(q:Nat):bV a q<=q:=by
 have:=List.countP_le_length (p:=a) (l:=List.range q);simpa[bV]using this
theorem BA{f:Nat->Bool}{a:Nat}(d:f a=false):∀q,bV (λk=>f k||k==a) q=bV f q+if a<q then 1 else 0
 |0=>by simp[bV]
 |q+1=>by
  rw[yZ,yZ,BA d q];by_cases h:q=a
  .subst h;simp[d]
  .have e:(q==a)=false:=by simp[h]
   rw[e,Bool.or_false];by_cases c:a<q
   .have b:a<q+1:=(by omega);rw[pP' c,pP' b];omega
   .have b:¬a<q+1:=(by omega);rw[nN' c,nN' b];omega
def Bz(l:List Int)(pl:Nat->Bool)(a:Nat):Prop:=
 ∃h:a<l.length,pl a=false/\∀k(hk:k<l.length),pl k=false->l[a]<=l[k]/\(l[k]=l[a]->a<=k)
theorem Bz.eq{l:List Int}{c:Nat->Bool}{a b:Nat}(x:Bz l c a)(y:Bz l c b):a=b:=by
 obtain⟨d,f,g⟩:=x;obtain⟨h,i,j⟩:=y;have k:=g b h i;have m:=j a d f;have e:l[a]=l[b]:=by omega
 have n:=k.2 e.symm;have o:=m.2 e;omega
inductive oN(l:List Int):(Nat->Bool)->Int->Int->Int->Bool->List Int->Prop
 |done {pl n i b f} (h:∀k,k<l.length->pl k=true):oN l pl n i b f []
 |step {pl n i b f a v ds} (h:a<l.length) (hl:Bz l pl a) (hv:v=(l[a]-n)*(bV pl l.length+1)+bV pl a-i)
  (hr:oN l (λk=>pl k||k==a) l[a] (bV pl a+1) (oz v (bV pl l.length+1) f) false ds):oN l pl n i b f (jc b 64 0 v++ds)
theorem oN.det{l:List Int}{g:Nat->Bool}{n i b:Int}{f:Bool}{j d:List Int}(x:oN l g n i b f j)(y:oN l g n i b f d):j=d:=by
 induction x generalizing d with
 |done h=>
  cases y with
  |done _=>rfl
  |step h' hl _ _=>obtain⟨c,a,_⟩:=hl;rw[h _ c]at a;cases a
 |step h hl hv hr ih=>
  cases y with
  |done h'=>obtain⟨c,a,_⟩:=hl;rw[h' _ c]at a;cases a
  |step h' hl' hv' hr'=>
   have e:=hl.eq hl';subst e;subst hv hv';rw[ih hr']
theorem oN.congr{l:List Int}{p q:Nat->Bool}{n i b:Int}{f:Bool}{a:List Int}(x:oN l p n i b f a)(h:p=q):oN l q n i b f a:=h▸x
def plc(l:List Int)(m:Int)(p:Nat)(k:Nat):Bool:=match l[k]? with
 |some c=>decide (c<128)||decide (c<m)||(decide (c=m)&&decide (k<p))
 |none=>false
theorem qR{l:List Int}{k:Nat}(h:k<l.length)(m:Int)(p:Nat):plc l m p k=(decide (l[k]<128)||decide (l[k]<m)||(decide (l[k]=m)&&decide (k<p))):=by
 unfold plc;rw[List.getElem?_eq_getElem h]
theorem Ag{l:List Int}{k:Nat}(h:l.length<=k)(m:Int)(p:Nat):plc l m p k=false:=by
 unfold plc;rw[List.getElem?_eq_none h]
theorem SX{l:List Int}{m:Int}{p:Nat}(h:p<l.length)(b:l[p]≠m):plc l m (p+1)=plc l m p:=by
 funext k;by_cases a:k<l.length
 .rw[qR a,qR a];by_cases e:k=p
  .subst e;have:decide (l[k]=m)=false:=df' b;rw[this,Bool.false_and,Bool.false_and]
  .have:decide (k<p+1)=decide (k<p):=by rw[decide_eq_decide];omega
   rw[this]
 .rw[Ag (by omega),Ag (by omega)]
theorem SY{l:List Int}{m:Int}{p:Nat}(h:p<l.length)(c:l[p]=m):plc l m (p+1)=λk=>plc l m p k||k==p:=by
 funext k;by_cases b:k<l.length
 .rw[qR b,qR b];by_cases e:k=p
  .subst e;simp[c]
  .have:decide (k<p+1)=decide (k<p):=by rw[decide_eq_decide];omega
   have a:(k==p)=false:=(by simp[e]);rw[this,a,Bool.or_false]
 .have a:(k==p)=false:=by simp;omega
  rw[Ag (by omega),Ag (by omega),a];rfl
theorem SQ{l:List Int}{m:Int}{p:Nat}(h:p<l.length)(b:l[p]=m)(c:128<=m):Bz l (plc l m p) p:=by
 refine⟨h,?_,λk d a=>?_⟩
 .rw[qR h,b];simp;omega
 .rw[qR d]at a;simp only[oF',aA,aF']at a;rw[b];exact⟨by omega,λe=>by rcases a.2 with f|f<;>omega⟩
theorem SS{l:List Int}{m d:Int}(h:m<d)(j:∀c∈l,128<=c->m<c->d<=c):plc l m l.length=plc l d 0:=by
 funext k;by_cases a:k<l.length
 .rw[qR a,qR a];have f:=j l[k] (gM' a);rw[Bool.eq_iff_iff];simp only[oT',aU,au,Nat.not_lt_zero,and_false,or_false];by_cases g:l[k]<128
  .simp[g]
  .constructor
   .rintro((b|b)|b)<;>omega
   .rintro(b|b)
    .omega
    .by_cases n:l[k]<m
     .omega
     .by_cases i:l[k]=m
      .exact .inr ⟨i,a⟩
      .have:=f (by omega) (by omega);omega
 .rw[Ag (by omega),Ag (by omega)]
def FwP(l:List Int)(m:Int)(p:Nat)(n i b:Int)(f:Bool)(acc:List Int):Prop:=∀ds,oN l (plc l m p) n i b f ds->oN l (plc l 128 0) 128 0 72 true (acc++ds)
theorem aCR:FwP l 128 0 128 0 72 true []:=λ_ h=>h
theorem Ti{l:List Int}{m n i b:Int}{p:Nat}{f:Bool}{a:List Int}(h:FwP l m p n i b f a)(g:p<l.length)(j:l[p]≠m):FwP l m (p+1) n i b f a:=by
 intro d c;rw[SX g j]at c;exact h d c
theorem aDp{l:List Int}{m d n i b:Int}{f:Bool}{a:List Int}(h:FwP l m l.length n i b f a)(k:m<d)(o:∀c∈l,128<=c->m<c->d<=c):FwP l d 0 n i b f a:=by
 intro j g;rw[<- SS k o]at g;exact h j g
theorem aDv{l:List Int}{m n i b v:Int}{p:Nat}{f:Bool}{a:List Int}(h:FwP l m p n i b f a)(g:p<l.length)(d:l[p]=m)(c:128<=m)(k:v=(m-n)*(bV (plc l m p) l.length+1)+bV (plc l m p) p-i):
 FwP l m (p+1) m (bV (plc l m p) p+1) (oz v (bV (plc l m p) l.length+1) f) false (a++jc b 64 0 v):=by
 intro o j;rw[SY g d]at j;rw[List.append_assoc];exact h _ (.step g (SQ g d c) (by rw[d];exact k) (by rw[d];exact j))
theorem aDo{l:List Int}{m n i b:Int}{p:Nat}{f:Bool}{a:List Int}(h:FwP l m p n i b f a)(c:∀k,k<l.length->plc l m p k=true):oN l (plc l 128 0) 128 0 72 true a:=by
 have:=h [] (.done c);rwa[List.append_nil]at this
theorem Tc{l:List Int}{m:Int}{p:Nat}(a:p<l.length)(c:l[p]≠m)(b:128<=m):
 bV (plc l m (p+1)) l.length=bV (plc l m p) l.length/\bV (plc l m (p+1)) (p+1)=bV (plc l m p) p+if l[p]<m then 1 else 0:=by
 rw[SX a c];refine⟨rfl,?_⟩;rw[yZ,qR a];by_cases h:l[p]<m
 .rw[pP' h,pP' (by simp[h])]
 .rw[nN' h,nN' (by simp;omega)]
theorem aDn{l:List Int}{m:Int}{p:Nat}(c:p<l.length)(d:l[p]=m)(a:128<=m):
 bV (plc l m (p+1)) l.length=bV (plc l m p) l.length+1/\bV (plc l m (p+1)) (p+1)=bV (plc l m p) p+1:=by
 obtain⟨_,b,_⟩:=SQ c d a;rw[SY c d,BA b,BA b,pP' c,pP' (Nat.lt_succ_self p),yZ,b];exact⟨rfl,by simp⟩
def uj(l:List Int)(pl:Nat->Bool)(q:Nat)(a:Int):Prop:=
 (a= -1/\∀k,k<q->pl k=true)\/∃(n:Nat)(h:n<l.length),a=n/\n<q/\pl n=false/\∀k(hk:k<l.length),k<q->pl k=false->l[n]<=l[k]/\(l[k]=l[n]->n<=k)
theorem Tf(a:Nat->Bool):uj l a 0 (-1):=.inl ⟨rfl,λk b=>by omega⟩
theorem Tn{l:List Int}{d:Nat->Bool}{q:Nat}{a:Int}(h:uj l d q a)(i:d q=true):uj l d (q+1) a:=by
 rcases h with⟨b,f⟩|⟨n,j,b,f,m,o⟩
 .refine .inl ⟨b,λk g=>?_⟩;by_cases e:k=q
  .subst e;exact i
  .exact f k (by omega)
 .refine .inr ⟨n,j,b,by omega,m,λk g p c=>?_⟩;by_cases e:k=q
  .subst e;rw[i]at c;cases c
  .exact o k g (by omega) c
theorem Td{l:List Int}{a:Nat->Bool}{q:Nat}(h:uj l a q (-1))(f:q<l.length)(g:a q=false):uj l a (q+1) q:=by
 rcases h with⟨_,c⟩|⟨n,_,i,_⟩
 .refine .inr ⟨q,f,rfl,by omega,g,λk j d b=>?_⟩;by_cases e:k=q
  .subst e;exact⟨Int.le_refl _,λ_=>lr' _⟩
  .rw[c k (by omega)]at b;cases b
 .omega
theorem Tm{l:List Int}{a:Nat->Bool}{q n:Nat}(h:uj l a q n)(m:q<l.length)(t:n<l.length)(o:a q=false)(w:l[q]<l[n]):uj l a (q+1) q:=by
 rcases h with⟨b,_⟩|⟨c,d,b,p,r,f⟩
 .omega
 .have e:n=c:=by omega
  subst e;refine .inr ⟨q,m,rfl,by omega,o,λk g i j=>?_⟩;by_cases e:k=q
  .subst e;exact⟨Int.le_refl _,λ_=>lr' _⟩
  .have:=f k g (by omega) j;exact⟨by omega,λs=>by omega⟩
theorem Tj{l:List Int}{a:Nat->Bool}{q n:Nat}(h:uj l a q n)(r:q<l.length)(o:n<l.length)(s:¬l[q]<l[n]):uj l a (q+1) n:=by
 rcases h with⟨b,_⟩|⟨c,d,b,p,f,g⟩
 .omega
 .have e:n=c:=by omega
  subst e;refine .inr ⟨n,o,rfl,by omega,f,λk i j m=>?_⟩;by_cases e:k=q
  .subst e;exact⟨by omega,λ_=>by omega⟩
  .exact g k i (by omega) m
theorem Tq{l:List Int}{b:Nat->Bool}{a:Int}(h:uj l b l.length a):(a= -1/\∀k,k<l.length->b k=true)\/∃n:Nat,a=n/\Bz l b n:=by
 rcases h with h|⟨n,d,f,_,g,i⟩
 .exact .inl h
 .exact .inr ⟨n,f,d,g,λk c j=>i k c c j⟩
theorem TG{l:List Int}{n m:Int}(h:n<=m)(f:∀c∈l,n<=c->m<=c):plc l n 0=plc l m 0:=by
 funext k;by_cases a:k<l.length
 .rw[qR a,qR a];have b:=f l[k] (gM' a);have e:decide (l[k]<n)=decide (l[k]<m):=by
   rw[decide_eq_decide];constructor
   .intro;omega
   .intro g;by_cases d:n<=l[k]
    .have:=b d;omega
    .omega
  rw[e];simp
 .rw[Ag (by omega),Ag (by omega)]
theorem aGX{l:List Int}{n m g i b:Int}{f:Bool}{a:List Int}(h:FwP l n 0 g i b f a)(k:n<=m)(o:∀c∈l,n<=c->m<=c):FwP l m 0 g i b f a:=by
 intro j d;rw[<- TG k o]at d;exact h j d
theorem TT{f:Nat->Bool}{q:Nat}(h:bV f q=q):∀k,k<q->f k=true:=by
 have a:(List.range q).countP f=(List.range q).length:=by simpa[bV]using h
 rw[List.countP_eq_length]at a;exact λk b=>a k (List.mem_range.2 b)
theorem TS{f:Nat->Bool}{q:Nat}(h:bV f q<q):∃k,k<q/\f k=false:=by
 by_cases a:∃k,k<q/\f k=false
 .exact a
 .exfalso;have:bV f q=q:=by
   have b:(List.range q).countP f=(List.range q).length:=List.countP_eq_length.2 (λk c=>by
    cases d:f k
    .exact absurd ⟨k,List.mem_range.1 c,d⟩ a
    .rfl)
   simpa[bV]using b
  omega
def jd(l:List Int):List Int:=l.filter (λc=>decide (c<128))
theorem LD{l:List Int}{k:Nat}(h:k<l.length):jd (l.take (k+1))=jd (l.take k)++if l[k]<128 then[l[k]]else[]:=by
 unfold jd;rw[tS' h,List.filter_append];by_cases a:l[k]<128<;>simp[a]
theorem LJ{l:List Int}:∀k,k<=l.length->bV (plc l 128 0) k=(jd (l.take k)).length
 |0,_=>by simp[bV,jd]
 |k+1,h=>by
  rw[yZ,LJ k (by omega),LD (by omega),qR (by omega),lA'];by_cases a:l[k]<128<;>simp[a]
def mnP(n:Int)(l:List Int):Int:=l.foldl (λm c=>if n<=c then min m c else m) 1114112
theorem aGY(n:Int)(l:List Int)(c:Int):mnP n (l++[c])=if n<=c then min (mnP n l) c else mnP n l:=by simp[mnP]
theorem aGS(n:Int):∀l:List Int,mnP n l<=1114112/\(∀c∈l,n<=c->mnP n l<=c)/\(mnP n l=1114112\/(mnP n l∈l/\n<=mnP n l)):=by
 intro l;have f:∀(r:List Int)(a:Int),(r.foldl (λm c=>if n<=c then min m c else m) a<=a)/\(∀c∈r,n<=c->r.foldl (λm c=>if n<=c then min m c else m) a<=c)/\(r.foldl (λm c=>if n<=c then min m c else m) a=a\/(r.foldl (λm c=>if n<=c then min m c else m) a∈r/\n<=r.foldl (λm c=>if n<=c then min m c else m) a)):=by
  intro r
  induction r with
  |nil=>intro a;exact⟨Int.le_refl _,λc d=>(by cases d),.inl rfl⟩
  |cons x r ih=>
   intro a;simp only[List.foldl_cons];by_cases i:n<=x
   .rw[pP' i];obtain⟨j,g,b⟩:=ih (min a x);refine⟨by omega,λc d h=>?_,?_⟩
    .rcases List.mem_cons.1 d with rfl|d
     .omega
     .exact g c d h
    .rcases b with b|b
     .by_cases k:a<=x
      .exact .inl (by omega)
      .refine .inr ⟨?_,?_⟩
       .rw[b,Int.min_eq_right (by omega)];exact List.mem_cons_self
       .rw[b];omega
     .exact .inr ⟨List.mem_cons_of_mem _ b.1,b.2⟩
   .rw[nN' i];obtain⟨j,g,b⟩:=ih a;refine⟨j,λc d h=>?_,?_⟩
    .rcases List.mem_cons.1 d with rfl|d
     .omega
     .exact g c d h
    .rcases b with b|b
     .exact .inl b
     .exact .inr ⟨List.mem_cons_of_mem _ b.1,b.2⟩
 exact f l 1114112
theorem Ho(b:Int):∀(f:Nat)(j v:Int),(jc b f j v).length<=f
 |0,_,_=>by simp[jc]
 |f+1,j,v=>by
  unfold jc;split
  .simp
  .have:=Ho b f (j+1) ((v-gV j b) / (36-gV j b));simp only[List.length_cons];omega
theorem TM:∀(f:Nat)(k d:Int),0<=k->0<=d->0<=adG f k d/\adG f k d<=k+36*f+36
 |0,k,d,hk,_=>by unfold adG;omega
 |f+1,k,d,hk,hd=>by
  unfold adG;split
  .have a:0<=36*d / (d+38):=Int.ediv_nonneg (by omega) (by omega);have b:36*d / (d+38)<=36:=by
    have:=Int.ediv_mul_le (36*d) (show d+38≠0 by omega);by_cases h:36*d / (d+38)<=36
    .exact h
    .have c:37*(d+38)<=36*d / (d+38)*(d+38):=Int.mul_le_mul_of_nonneg_right (by omega) (by omega);omega
   omega
  .have:=TM f (k+36) (d / 35) (by omega) (by omega);omega
theorem Hu{d p:Int}{f:Bool}(c:0<=d)(g:1<=p):0<=oz d p f/\oz d p f<=2400:=by
 unfold oz;split
 .omega
 .have a:0<=(if f=true then d / 700 else d / 2):=by cases f<;>simp<;>omega
  have b:0<=(if f=true then d / 700 else d / 2) / p:=Int.ediv_nonneg a (by omega);have:=TM 64 0 ((if f=true then d / 700 else d / 2)+(if f=true then d / 700 else d / 2) / p) (by omega) (by omega);omega
theorem EX{a h:Int}(b:0<=a)(c:a<=1114112)(d:0<=h)(f:h<=256):0<=a*(h+1)/\a*(h+1)<=286326784:=
 ⟨Int.mul_nonneg b (by omega),Int.le_trans (Int.mul_le_mul_of_nonneg_right c (by omega)) (by omega)⟩
noncomputable def y8(l:List Int):List Int:=Classical.epsilon λds=>oN l (plc l 128 0) 128 0 72 true ds
theorem LP{l a:List Int}(h:oN l (plc l 128 0) 128 0 72 true a):y8 l=a:=(Classical.epsilon_spec (p:=λa=>oN l (plc l 128 0) 128 0 72 true a) ⟨a,h⟩).det h
theorem YR(a b c d:Int)(w:World):cE' 277 #[.agg #[.int .i64 a,.int .i64 b,.int .i64 c,.int .i64 d]] w (.int .i64 a):=by
 go_enter func277,ntmps277;go_wp2;go_ret;exact⟨rfl,(Ext.refl w).aB _⟩
theorem Zd(c:Int)(w:World)(ht:aW w t T)(a:gu T):
 cE' 232 #[t.v,.int .i64 c] w (.int .i64 (je T c)):=by
 have b:=ht.cat.ext ((Ext.refl w).aB (.cells t.v.cells 26));go_enter func232,ntmps232;go_wp2_with(go_at_call 221;refine(Gz 277 rE T.cat _ _ _ _ _ b a.cat.1 a.cat.2 Tryz.call277 (λ_=>YR _ _ _ _ _)).mono ?_;rintro e f⟨rfl,d⟩);go_ret;exact⟨rfl,((Ext.refl w).aB _).trans' d⟩
theorem a8y{T:aj}(h:dR T=true):oq T.cat:=by
 simp only[dR,cols,qJ,aU]at h;exact⟨h.1.1.1.1,h.1.1.1.2⟩
theorem xC{T:aj}{c:Int}(d:0<=c)(f:c<=127):je T c=rE c:=by
 have a:bf c=true:=by simp only[bf,aU,oT',au];omega
 have b:fM c=true:=by simp only[fM,oT',aU,au];exact .inl (.inl (.inl ⟨d,f⟩))
 rw[je,nI,nN' (by rw[a];simp),pP' b]
theorem aEh{T:aj}{c:Int}(h:bG c=true):je T c=1:=by
 have a:=h;simp only[bG,aU,au]at a;have b:bf c=true:=by simp only[bf,aU,oT',au];omega
 have d:fM c=true:=by rw[fM,h];simp
 rw[je,nI,nN' (by rw[b];simp),pP' d,rE,nN' (by omega),nN' (by omega),nN' (by omega),nN' (by omega),nN' (by omega),nN' (by omega),nN' (by omega),nN' (by omega),pP' h]
theorem aEg{T:aj}{c:Int}(f:bG c=false)(h:dN c=true):je T c=1:=by
 have a:=h;simp only[dN,oT',aU,au]at a;have b:bf c=true:=by simp only[bf,aU,oT',au];omega
 have d:fM c=true:=by rw[fM,h];simp
 rw[je,nI,nN' (by rw[b];simp),pP' d,rE,nN' (by omega),nN' (by omega),nN' (by omega),nN' (by omega),nN' (by omega),nN' (by omega),nN' (by omega),nN' (by omega),nN' (by rw[f];simp),pP' h]
theorem aEf{T:aj}(b:oq T.cat){c:Int}(i:c<0\/127<c)(g:bG c=false)(h:dN c=false):je T c=fJ T.cat c:=by
 rw[je,nI];by_cases d:bf c=false
 .rw[pP' d,b.zero (.inr d)]
 .rw[nN' d];by_cases a:fM c=true
  .rw[pP' a,b.zero (.inl a)];exfalso;have f:tu c=true:=by
    rw[fM,g,h]at a;simp only[Bool.or_false,oT',aU,au]at a;rcases a with a|a
    .omega
    .exact a
   simp only[tu,aU,au]at f;simp only[bf,aF',oF',aA]at d;omega
  .rw[nN' a]
theorem Yi(c:Int)(w:World)(ht:aW w t T)(F:oq T.cat):
 cE' 124 #[t.v,.int .i64 c] w (.int .i64 (je T c)):=by
 have H:=ht.cat.ext ((Ext.refl w).aB (.cells t.v.cells 26));have i:=ah H;have G:=ah F;have d:=dw w t;clear ht H F;by_cases r:0<=c/\c<=31
 ·
  obtain⟨A,B⟩:=r;have j:decide (97<=c)=false:=dF';have k:decide (c<=122)=true:=dT';have l:decide (65<=c)=false:=dF';have m:decide (c<=90)=true:=dT';have n:decide (48<=c)=false:=dF';have o:decide (c<=57)=true:=dT';have p:decide (0<=c)=true:=dT';have q:decide (c<32)=true:=dT';have s:decide (32<c)=false:=dF';have x:decide (c<127)=true:=dT';have y:(c==127)=false:=bF';have z:(c==32)=false:=bF'
  have f:Hid (je T c=8):=ah (by
   rw[xC (by omega) (by omega),rE]
   repeat' split
   all_goals first|rfl|(exfalso;omega))
  have g:Hid (bG c=false):=ah (by simp only[bG,aF',aA];omega);have h:Hid (dN c=false):=ah (by simp only[dN,oF',aF',aA];omega);go_enter func124,ntmps124
  go_wp2_with(first
   |(go_at_call 113;refine(kP c _).mono ?_;rintro e a⟨rfl,rfl⟩;rw[g.out])
   |(go_at_call 183;refine(qH c _).mono ?_;rintro e a⟨rfl,rfl⟩;rw[h.out])
   |(go_at_call 136;refine(jr _ _ _ T.cat _ _ i.out).mono ?_;rintro e a⟨rfl,b⟩))
  go_ret;exact⟨aV f.out.symm,d⟩
 by_cases r:32<=c/\c<=32
 ·
  obtain⟨A,B⟩:=r;have j:decide (97<=c)=false:=dF';have k:decide (c<=122)=true:=dT';have l:decide (65<=c)=false:=dF';have m:decide (c<=90)=true:=dT';have n:decide (48<=c)=false:=dF';have o:decide (c<=57)=true:=dT';have p:decide (0<=c)=true:=dT';have q:decide (c<32)=false:=dF';have s:decide (32<c)=false:=dF';have x:decide (c<127)=true:=dT';have y:(c==127)=false:=bF';have z:(c==32)=true:=by rw[bq'];omega
  have f:Hid (je T c=7):=ah (by
   rw[xC (by omega) (by omega),rE]
   repeat' split
   all_goals first|rfl|(exfalso;omega))
  have g:Hid (bG c=false):=ah (by simp only[bG,aF',aA];omega);have h:Hid (dN c=false):=ah (by simp only[dN,oF',aF',aA];omega);go_enter func124,ntmps124
  go_wp2_with(first
   |(go_at_call 113;refine(kP c _).mono ?_;rintro e a⟨rfl,rfl⟩;rw[g.out])
   |(go_at_call 183;refine(qH c _).mono ?_;rintro e a⟨rfl,rfl⟩;rw[h.out])
   |(go_at_call 136;refine(jr _ _ _ T.cat _ _ i.out).mono ?_;rintro e a⟨rfl,b⟩))
  go_ret;exact⟨aV f.out.symm,d⟩
 by_cases r:33<=c/\c<=47
 ·
  obtain⟨A,B⟩:=r;have j:decide (97<=c)=false:=dF';have k:decide (c<=122)=true:=dT';have l:decide (65<=c)=false:=dF';have m:decide (c<=90)=true:=dT';have n:decide (48<=c)=false:=dF';have o:decide (c<=57)=true:=dT';have p:decide (0<=c)=true:=dT';have q:decide (c<32)=false:=dF';have s:decide (32<c)=true:=dT';have x:decide (c<127)=true:=dT';have y:(c==127)=false:=bF';have z:(c==32)=false:=bF'
  have f:Hid (je T c=5):=ah (by
   rw[xC (by omega) (by omega),rE]
   repeat' split
   all_goals first|rfl|(exfalso;omega))
  have g:Hid (bG c=false):=ah (by simp only[bG,aF',aA];omega);have h:Hid (dN c=false):=ah (by simp only[dN,oF',aF',aA];omega);go_enter func124,ntmps124
  go_wp2_with(first
   |(go_at_call 113;refine(kP c _).mono ?_;rintro e a⟨rfl,rfl⟩;rw[g.out])
   |(go_at_call 183;refine(qH c _).mono ?_;rintro e a⟨rfl,rfl⟩;rw[h.out])
   |(go_at_call 136;refine(jr _ _ _ T.cat _ _ i.out).mono ?_;rintro e a⟨rfl,b⟩))
  go_ret;exact⟨aV f.out.symm,d⟩
 by_cases r:48<=c/\c<=57
 ·
  obtain⟨A,B⟩:=r;have j:decide (97<=c)=false:=dF';have k:decide (c<=122)=true:=dT';have l:decide (65<=c)=false:=dF';have m:decide (c<=90)=true:=dT';have n:decide (48<=c)=true:=dT';have o:decide (c<=57)=true:=dT';have p:decide (0<=c)=true:=dT';have q:decide (c<32)=false:=dF';have s:decide (32<c)=true:=dT';have x:decide (c<127)=true:=dT';have y:(c==127)=false:=bF';have z:(c==32)=false:=bF'
  have f:Hid (je T c=3):=ah (by
   rw[xC (by omega) (by omega),rE]
   repeat' split
   all_goals first|rfl|(exfalso;omega))
  have g:Hid (bG c=false):=ah (by simp only[bG,aF',aA];omega);have h:Hid (dN c=false):=ah (by simp only[dN,oF',aF',aA];omega);go_enter func124,ntmps124
  go_wp2_with(first
   |(go_at_call 113;refine(kP c _).mono ?_;rintro e a⟨rfl,rfl⟩;rw[g.out])
   |(go_at_call 183;refine(qH c _).mono ?_;rintro e a⟨rfl,rfl⟩;rw[h.out])
   |(go_at_call 136;refine(jr _ _ _ T.cat _ _ i.out).mono ?_;rintro e a⟨rfl,b⟩))
  go_ret;exact⟨aV f.out.symm,d⟩
 by_cases r:58<=c/\c<=64
 ·
  obtain⟨A,B⟩:=r;have j:decide (97<=c)=false:=dF';have k:decide (c<=122)=true:=dT';have l:decide (65<=c)=false:=dF';have m:decide (c<=90)=true:=dT';have n:decide (48<=c)=true:=dT';have o:decide (c<=57)=false:=dF';have p:decide (0<=c)=true:=dT';have q:decide (c<32)=false:=dF';have s:decide (32<c)=true:=dT';have x:decide (c<127)=true:=dT';have y:(c==127)=false:=bF';have z:(c==32)=false:=bF'
  have f:Hid (je T c=5):=ah (by
   rw[xC (by omega) (by omega),rE]
   repeat' split
   all_goals first|rfl|(exfalso;omega))
  have g:Hid (bG c=false):=ah (by simp only[bG,aF',aA];omega);have h:Hid (dN c=false):=ah (by simp only[dN,oF',aF',aA];omega);go_enter func124,ntmps124
  go_wp2_with(first
   |(go_at_call 113;refine(kP c _).mono ?_;rintro e a⟨rfl,rfl⟩;rw[g.out])
   |(go_at_call 183;refine(qH c _).mono ?_;rintro e a⟨rfl,rfl⟩;rw[h.out])
   |(go_at_call 136;refine(jr _ _ _ T.cat _ _ i.out).mono ?_;rintro e a⟨rfl,b⟩))
  go_ret;exact⟨aV f.out.symm,d⟩
 by_cases r:65<=c/\c<=90
 ·
  obtain⟨A,B⟩:=r;have j:decide (97<=c)=false:=dF';have k:decide (c<=122)=true:=dT';have l:decide (65<=c)=true:=dT';have m:decide (c<=90)=true:=dT';have n:decide (48<=c)=true:=dT';have o:decide (c<=57)=false:=dF';have p:decide (0<=c)=true:=dT';have q:decide (c<32)=false:=dF';have s:decide (32<c)=true:=dT';have x:decide (c<127)=true:=dT';have y:(c==127)=false:=bF';have z:(c==32)=false:=bF'
  have f:Hid (je T c=1):=ah (by
   rw[xC (by omega) (by omega),rE]
   repeat' split
   all_goals first|rfl|(exfalso;omega))
  have g:Hid (bG c=false):=ah (by simp only[bG,aF',aA];omega);have h:Hid (dN c=false):=ah (by simp only[dN,oF',aF',aA];omega);go_enter func124,ntmps124
  go_wp2_with(first
   |(go_at_call 113;refine(kP c _).mono ?_;rintro e a⟨rfl,rfl⟩;rw[g.out])
   |(go_at_call 183;refine(qH c _).mono ?_;rintro e a⟨rfl,rfl⟩;rw[h.out])
   |(go_at_call 136;refine(jr _ _ _ T.cat _ _ i.out).mono ?_;rintro e a⟨rfl,b⟩))
  go_ret;exact⟨aV f.out.symm,d⟩
 by_cases r:91<=c/\c<=96
 ·
  obtain⟨A,B⟩:=r;have j:decide (97<=c)=false:=dF';have k:decide (c<=122)=true:=dT';have l:decide (65<=c)=true:=dT';have m:decide (c<=90)=false:=dF';have n:decide (48<=c)=true:=dT';have o:decide (c<=57)=false:=dF';have p:decide (0<=c)=true:=dT';have q:decide (c<32)=false:=dF';have s:decide (32<c)=true:=dT';have x:decide (c<127)=true:=dT';have y:(c==127)=false:=bF';have z:(c==32)=false:=bF'
  have f:Hid (je T c=5):=ah (by
   rw[xC (by omega) (by omega),rE]
   repeat' split
   all_goals first|rfl|(exfalso;omega))
  have g:Hid (bG c=false):=ah (by simp only[bG,aF',aA];omega);have h:Hid (dN c=false):=ah (by simp only[dN,oF',aF',aA];omega);go_enter func124,ntmps124
  go_wp2_with(first
   |(go_at_call 113;refine(kP c _).mono ?_;rintro e a⟨rfl,rfl⟩;rw[g.out])
   |(go_at_call 183;refine(qH c _).mono ?_;rintro e a⟨rfl,rfl⟩;rw[h.out])
   |(go_at_call 136;refine(jr _ _ _ T.cat _ _ i.out).mono ?_;rintro e a⟨rfl,b⟩))
  go_ret;exact⟨aV f.out.symm,d⟩
 by_cases r:97<=c/\c<=122
 ·
  obtain⟨A,B⟩:=r;have j:decide (97<=c)=true:=dT';have k:decide (c<=122)=true:=dT';have l:decide (65<=c)=true:=dT';have m:decide (c<=90)=false:=dF';have n:decide (48<=c)=true:=dT';have o:decide (c<=57)=false:=dF';have p:decide (0<=c)=true:=dT';have q:decide (c<32)=false:=dF';have s:decide (32<c)=true:=dT';have x:decide (c<127)=true:=dT';have y:(c==127)=false:=bF';have z:(c==32)=false:=bF'
  have f:Hid (je T c=1):=ah (by
   rw[xC (by omega) (by omega),rE]
   repeat' split
   all_goals first|rfl|(exfalso;omega))
  have g:Hid (bG c=false):=ah (by simp only[bG,aF',aA];omega);have h:Hid (dN c=false):=ah (by simp only[dN,oF',aF',aA];omega);go_enter func124,ntmps124
  go_wp2_with(first
   |(go_at_call 113;refine(kP c _).mono ?_;rintro e a⟨rfl,rfl⟩;rw[g.out])
   |(go_at_call 183;refine(qH c _).mono ?_;rintro e a⟨rfl,rfl⟩;rw[h.out])
   |(go_at_call 136;refine(jr _ _ _ T.cat _ _ i.out).mono ?_;rintro e a⟨rfl,b⟩))
  go_ret;exact⟨aV f.out.symm,d⟩
 by_cases r:123<=c/\c<=126
 ·
  obtain⟨A,B⟩:=r;have j:decide (97<=c)=true:=dT';have k:decide (c<=122)=false:=dF';have l:decide (65<=c)=true:=dT';have m:decide (c<=90)=false:=dF';have n:decide (48<=c)=true:=dT';have o:decide (c<=57)=false:=dF';have p:decide (0<=c)=true:=dT';have q:decide (c<32)=false:=dF';have s:decide (32<c)=true:=dT';have x:decide (c<127)=true:=dT';have y:(c==127)=false:=bF';have z:(c==32)=false:=bF'
  have f:Hid (je T c=5):=ah (by
   rw[xC (by omega) (by omega),rE]
   repeat' split
   all_goals first|rfl|(exfalso;omega))
  have g:Hid (bG c=false):=ah (by simp only[bG,aF',aA];omega);have h:Hid (dN c=false):=ah (by simp only[dN,oF',aF',aA];omega);go_enter func124,ntmps124
  go_wp2_with(first
   |(go_at_call 113;refine(kP c _).mono ?_;rintro e a⟨rfl,rfl⟩;rw[g.out])
   |(go_at_call 183;refine(qH c _).mono ?_;rintro e a⟨rfl,rfl⟩;rw[h.out])
   |(go_at_call 136;refine(jr _ _ _ T.cat _ _ i.out).mono ?_;rintro e a⟨rfl,b⟩))
  go_ret;exact⟨aV f.out.symm,d⟩
 by_cases r:127<=c/\c<=127
 ·
  obtain⟨A,B⟩:=r;have j:decide (97<=c)=true:=dT';have k:decide (c<=122)=false:=dF';have l:decide (65<=c)=true:=dT';have m:decide (c<=90)=false:=dF';have n:decide (48<=c)=true:=dT';have o:decide (c<=57)=false:=dF';have p:decide (0<=c)=true:=dT';have q:decide (c<32)=false:=dF';have s:decide (32<c)=true:=dT';have x:decide (c<127)=false:=dF';have y:(c==127)=true:=by rw[bq'];omega
  have z:(c==32)=false:=bF'
  have f:Hid (je T c=8):=ah (by
   rw[xC (by omega) (by omega),rE]
   repeat' split
   all_goals first|rfl|(exfalso;omega))
  have g:Hid (bG c=false):=ah (by simp only[bG,aF',aA];omega);have h:Hid (dN c=false):=ah (by simp only[dN,oF',aF',aA];omega);go_enter func124,ntmps124
  go_wp2_with(first
   |(go_at_call 113;refine(kP c _).mono ?_;rintro e a⟨rfl,rfl⟩;rw[g.out])
   |(go_at_call 183;refine(qH c _).mono ?_;rintro e a⟨rfl,rfl⟩;rw[h.out])
   |(go_at_call 136;refine(jr _ _ _ T.cat _ _ i.out).mono ?_;rintro e a⟨rfl,b⟩))
  go_ret;exact⟨aV f.out.symm,d⟩
 have D:c<0\/127<c:=by omega
 cases C:bG c
 case true=>
  have f:Hid (je T c=1):=ah (aEh C);have g:=ah C;have h:Hid (dN c=dN c):=rfl;simp only[bG,aU,au]at C;clear D;have j:decide (97<=c)=true:=dT';have k:decide (c<=122)=false:=dF';have l:decide (65<=c)=true:=dT';have m:decide (c<=90)=false:=dF';have n:decide (48<=c)=true:=dT';have o:decide (c<=57)=false:=dF';have p:decide (0<=c)=true:=dT';have q:decide (c<32)=false:=dF';have s:decide (32<c)=true:=dT';have x:decide (c<127)=false:=dF';have y:(c==127)=false:=bF';have z:(c==32)=false:=bF';go_enter func124,ntmps124
  go_wp2_with(first
   |(go_at_call 113;refine(kP c _).mono ?_;rintro e a⟨rfl,rfl⟩;rw[g.out])
   |(go_at_call 183;refine(qH c _).mono ?_;rintro e a⟨rfl,rfl⟩;rw[h.out])
   |(go_at_call 136;refine(jr _ _ _ T.cat _ _ i.out).mono ?_;rintro e a⟨rfl,b⟩))
  go_ret;exact⟨aV f.out.symm,d⟩
 cases E:dN c
 case true=>
  have f:Hid (je T c=1):=ah (aEg C E);have g:=ah C;have h:=ah E;simp only[dN,oT',aU,au]at E;clear D C;have j:decide (97<=c)=true:=dT';have k:decide (c<=122)=false:=dF';have l:decide (65<=c)=true:=dT';have m:decide (c<=90)=false:=dF';have n:decide (48<=c)=true:=dT';have o:decide (c<=57)=false:=dF';have p:decide (0<=c)=true:=dT';have q:decide (c<32)=false:=dF';have s:decide (32<c)=true:=dT';have x:decide (c<127)=false:=dF';have y:(c==127)=false:=bF';have z:(c==32)=false:=bF';clear E;go_enter func124,ntmps124
  go_wp2_with(first
   |(go_at_call 113;refine(kP c _).mono ?_;rintro e a⟨rfl,rfl⟩;rw[g.out])
   |(go_at_call 183;refine(qH c _).mono ?_;rintro e a⟨rfl,rfl⟩;rw[h.out])
   |(go_at_call 136;refine(jr _ _ _ T.cat _ _ i.out).mono ?_;rintro e a⟨rfl,b⟩))
  go_ret;exact⟨aV f.out.symm,d⟩
 have f:Hid (je T c=fJ T.cat c):=ah (aEf G.out D C E);have g:=ah C;have h:=ah E;clear C E;rcases D with D|D
 ·
  have j:decide (97<=c)=false:=dF';have k:decide (c<=122)=true:=dT';have l:decide (65<=c)=false:=dF';have m:decide (c<=90)=true:=dT';have n:decide (48<=c)=false:=dF';have o:decide (c<=57)=true:=dT';have p:decide (0<=c)=false:=dF';have q:decide (c<32)=true:=dT';have s:decide (32<c)=false:=dF';have x:decide (c<127)=true:=dT';have y:(c==127)=false:=bF';have z:(c==32)=false:=bF';clear D;go_enter func124,ntmps124
  go_wp2_with(first
   |(go_at_call 113;refine(kP c _).mono ?_;rintro e a⟨rfl,rfl⟩;rw[g.out])
   |(go_at_call 183;refine(qH c _).mono ?_;rintro e a⟨rfl,rfl⟩;rw[h.out])
   |(go_at_call 136;refine(jr _ _ _ T.cat _ _ i.out).mono ?_;rintro e a⟨rfl,b⟩))
  go_ret;exact⟨aV f.out.symm,d.trans' b⟩
 ·
  have j:decide (97<=c)=true:=dT';have k:decide (c<=122)=false:=dF';have l:decide (65<=c)=true:=dT';have m:decide (c<=90)=false:=dF';have n:decide (48<=c)=true:=dT';have o:decide (c<=57)=false:=dF';have p:decide (0<=c)=true:=dT';have q:decide (c<32)=false:=dF';have s:decide (32<c)=true:=dT';have x:decide (c<127)=false:=dF';have y:(c==127)=false:=bF';have z:(c==32)=false:=bF';clear D;go_enter func124,ntmps124
  go_wp2_with(first
   |(go_at_call 113;refine(kP c _).mono ?_;rintro e a⟨rfl,rfl⟩;rw[g.out])
   |(go_at_call 183;refine(qH c _).mono ?_;rintro e a⟨rfl,rfl⟩;rw[h.out])
   |(go_at_call 136;refine(jr _ _ _ T.cat _ _ i.out).mono ?_;rintro e a⟨rfl,b⟩))
  go_ret;exact⟨aV f.out.symm,d.trans' b⟩
open Go.ChangeShapes Go.WideShapes Go.ChangeAt Go.RowKit Go.Deep
theorem own:ownKnob prog.godebug=none:=by kernel_rfl
theorem SA:prog.globalNamed "namedesk/table.blocks" =some 0:=by kernel_rfl
theorem a7f:(prog.globals[0]?).map (·.type)=some 23:=by kernel_rfl
theorem Jl:prog.cellsOf 70=3:=by kernel_rfl
theorem FP:prog.cellsOf 3=1:=by kernel_rfl
theorem Rf{H:Type}{enc:TypeId×Value->H}{w:World}{j:Nat}{a:Nat->Bool}{k:Bool}{n:Nat}{B:List Value}{x y z:Int}{V:List MemPlace}
 (h:DataW.trod enc prog w j a k n 70 B=some (.agg [.lit (.int .i64 x),.lit (.int .i64 y),.lit (.int .i64 z)],V)):B=[.int .i64 x,.int .i64 y,.int .i64 z]:=by
 obtain⟨b,l,c,d,g,m⟩:∃b,prog.underlying 70=some (.struct b)/\b[0]?.map (λf=>(f.type,f.offset))=some (3,0)/\b[1]?.map (λf=>(f.type,f.offset))=some (3,1)/\b[2]?.map (λf=>(f.type,f.offset))=some (3,2)/\b.size=3:=⟨_,underlying70,rfl,rfl,rfl,rfl⟩;obtain⟨E,W,_,C,D,i,o⟩:=DataW.trod_struct l h;rw[Jl]at D;rw[m]at i;obtain⟨p,F,c⟩:=Option.map_eq_some_iff.1 c;obtain⟨q,G,d⟩:=Option.map_eq_some_iff.1 d;obtain⟨r,I,g⟩:=Option.map_eq_some_iff.1 g;obtain⟨J,K⟩:=Prod.mk.inj c;obtain⟨L,M⟩:=Prod.mk.inj d;obtain⟨N,O⟩:=Prod.mk.inj g
 match B,D with
 |[c0,c1,c2],_=>
  have s:=o 0 p F;have t:=o 1 q G;have A:=o 2 r I;rw[J,K,FP]at s;rw[L,M,FP]at t;rw[N,O,FP]at A;simp only[List.drop_zero,List.drop_succ_cons,List.take_succ_cons,List.take_zero]at s t A
  match E,i with
  |[y0,y1,y2],_=>
   obtain⟨X,P,p,_⟩:=DataW.trod_int (x:=y0) underlying3 s;obtain⟨Y,Q,q,_⟩:=DataW.trod_int (x:=y1) underlying3 t;obtain⟨Z,R,r,_⟩:=DataW.trod_int (x:=y2) underlying3 A;subst p q r;simp only[List.map_cons,List.map_nil,Prod.mk.injEq,DataW.agg.injEq,List.cons.injEq,DataW.lit.injEq,Lit.int.injEq,true_and,and_true]at C;obtain⟨⟨S,T,U⟩,_⟩:=C;subst S T U;injection P with c;injection Q with d;injection R with g;rw[c,d,g]
theorem OO{W:World}(h:laidMet prog [("namedesk/table.blocks",Rows.laid_namedesk_table_blocks)] W):Glob W:=by
 obtain⟨ps,⟨g',t',O,P,p,q,E,F,r,U,_,_⟩,_⟩:=h;obtain rfl:=Option.some.inj (SA.symm.trans E);obtain rfl:=Option.some.inj (a7f.symm.trans F);have d:=World.var?_cell SA r 0;rcases open_slice underlying23 U with⟨s,g⟩|⟨a,len,j,m,n,D,Pl,s,hb,V,X,G,g,Q⟩
 .injection g with g _;cases g
 .injection g with g _;unfold Rows.laid_namedesk_table_blocks at g;injection g with t Y;have w:len=6:=by have:=congrArg List.length t;simpa using this.symm
  subst w;have Z:6<=m:=by rw[G];split<;>omega
  have R:∀i x,wK[i]? =some x->D i=.agg [.lit (.int .i64 x.lo),.lit (.int .i64 x.hi),.lit (.int .i64 x.val)]:=by
   intro i x c;have:=congrArg (λl=>l[i]?) t
   match i,c with
   |0,c|1,c|2,c|3,c|4,c|5,c=>simp[wK]at c;subst c;simpa[List.range,List.range.loop]using this.symm
   |i+6,c=>simp[wK]at c
  have H:O[0]? =some (.slice (some a) 6 j):=by
   have:O.toList[0]? =some (.slice (some a) 6 j):=by rw[s];rfl
   simpa using this
  rw[H]at d;refine⟨some a,6,j,d,⟨rfl,V,X⟩,λi x c=>?_⟩;have uM:i<6:=(List.getElem?_eq_some_iff.1 c).1;obtain⟨a0,y,z⟩:=Q i (by omega);rw[R i x c]at z;have A:=Rf z;rw[Jl]at y;obtain⟨_,_,f⟩:=World.cells?_some y;rw[A]at f;have I:=f 0 (by omega);have J:=f 1 (by omega);have K:=f 2 (by omega);simp only[List.getElem?_cons_zero,List.getElem?_cons_succ]at I J K;obtain⟨b,o,S⟩:=a;have L:S=none:=by
   obtain⟨c3,T,B⟩:=Q 0 (by omega);rw[R 0 ⟨0,127,0⟩ rfl]at B;have M:=Rf B;rw[Jl]at T;obtain⟨_,_,N⟩:=World.cells?_some T;have C:=N 0 (by omega);rw[M]at C;simp only[Nat.zero_mul,Addr.add,if_true,List.getElem?_cons_zero]at C;unfold World.cell? at C;cases S with
   |none=>rfl
   |some k=>exfalso;split at C<;>simp at C
  subst L;simp only[Addr.add_mid,Nat.add_zero]at I J K;exact⟨b,o,rfl,I,J,K⟩
theorem DF{H:Type}{enc:TypeId×Value->H}{W:World}{q:Nat}{m:Nat->Bool}{s:Bool}{v:Value}{d:DataW H}{p:List MemPlace}{r:Reach}
 (M:Value.okWide prog W r q 22 v) (h:DataW.Trod enc prog W 0 m s 22 v d p):∃A n c l,v=.slice A n c/\aF W ⟨A,n,c⟩ l:=by
 obtain⟨N,len,D,rfl⟩:=okWide_slice underlying22 M;obtain⟨w,E⟩:=h;rcases open_ints underlying22 underlying3 FP E with⟨f,F⟩|⟨a,y,z,B,f,_,O,G,I,F,g,J⟩
 .simp[Value.cells]at f;obtain⟨rfl,rfl,rfl⟩:=f;exact⟨none,0,0,[],rfl,aF.nil_ _⟩
 .simp[Value.cells]at f;obtain⟨rfl,rfl,rfl⟩:=f;have K:len<=B.length:=by rw[I];split<;>omega
  refine⟨_,_,_,B.take len,rfl,⟨by simp;omega,by simp;omega,G⟩,λi x j=>?_⟩;have L:i<len:=by have:=(List.getElem?_eq_some_iff.1 j).1;simp at this;omega
  have C:=g i (by omega);obtain⟨b,t,o⟩:=a;have k:o=none:=by simpa[Addr.add]using World.cell?_spot (g 0 (by omega))
  subst k;refine⟨b,t,rfl,?_⟩;rw[Addr.add_mid]at C;rw[C];rw[List.getElem?_take_of_lt L]at j;simp[List.getD,j]
section
variable {H:Type}{enc:TypeId × Value→H}
theorem Qo{W g:World}(i:laidOutB prog=true)(j:Ext W g):∀{ts:List TypeId}{vs:List Value}{ds:List (DataW H)}{ps:List MemPlace},(∀t∈ts,prog.readableRec t=true/\t<prog.types.size)->
 DataW.TrodAll enc prog W 0 (λ_=>true) true ts vs ds ps->(∀x∈ps,x.block<W.heap.size)->∀sp:Nat->Bool,(∀x∈ps,sp x.block=true)->DataW.TrodAll enc prog g 0 sp true ts vs ds ps
 |[],[],[],_,_,h,_,_,_=>h
 |t::ts,v::vs,d::ds,ps,hT,⟨p,q,h1,h2,e⟩,hlt,sp,hs=>
  ⟨p,q,WideElems.Trod_stays i (hT t (by simp)).1 (hT t (by simp)).2 h1 (λx a=>j.b.same (hlt x (by rw[e];exact List.mem_append_left _ a))) (λx a=>hs x (by rw[e];exact List.mem_append_left _ a)),
   Qo i j (λk f=>hT k (by simp[f])) h2 (λx c=>hlt x (by rw[e];exact List.mem_append_right _ c)) sp (λx c=>hs x (by rw[e];exact List.mem_append_right _ c)),e⟩
theorem law_post{f:Func}{s:ChangeSpec}{apart d m:Bool}{W o:World}{args:Array Value}{k:List (DataW H)}{a:List MemPlace}
 (g:s.vars=[]) (Q:laidOutB prog=true) (R:∀t∈f.params.toList,prog.readableRec t=true/\t<prog.types.size) (D:DataW.Whole enc prog f.params.toList s.vars apart W args.toList k [] a)
 (G:Ext W o) (I:f.resultTypes= #[4]) (n:s.fn H (k++[])= {results:=[.lit (.bool true)],args:=k,vars:=[]}):
 s.post enc prog f apart true d m W args (.bool true) o:=by
 have E:Below W.heap.size W o:=G;have l:∀p∈a,p.block<W.heap.size:=λp h=>D.lt p h
 have r:=D;rw[g]at r;obtain⟨p,q,J,K,L,M,N⟩:=r;obtain⟨_,O⟩:=trodVars_none K;have A:a=p:=by rw[L,O,List.append_nil]
 have j:∀(b:Nat)(i:Nat->Bool)(F:Bool),DataW.TrodAll enc prog o b i F f.resultTypes.toList ((Value.bool true).resultList f.resultTypes.size) (s.fn H (k++[])).results []:=by
  intro b i F;rw[I,n];exact trodAll_cons_mk (shut_bool underlying4 _) trodAll_mk0
 have c:∀i:Nat->Bool,(∀p∈a,i p.block=true)->DataW.TrodAll enc prog o 0 i true f.params.toList args.toList (s.fn H (k++[])).args a:=by
  intro i B;rw[n];have C:DataW.TrodAll enc prog W 0 (λ_=>true) true f.params.toList args.toList k a:=by rw[A];exact J
  exact Qo Q G R C l i B
 have w:∀i:Nat->Bool,DataW.TrodVars enc prog o i s.vars (s.fn H (k++[])).vars []:=by
  intro i;rw[g,n];rfl
 have x:∀p∈a,(λb=>decide (b<W.heap.size)) p.block=true:=λp h=>by simpa using l p h
 refine⟨k,[],a,[],a,[],D,j _ _ _,c _ x,w _,World.keptBut_mono (λp h=>⟨h,by simpa using h⟩) (E.frame (· ∈a)),λ_=>?_⟩;refine⟨?_,_,_,([]++a)++[],⟨[]++a,[],trodAll_append (c _ (λ_ _=>rfl)) (j _ _ _),w _,rfl,?_,?_⟩,?_⟩
 .exact ok_one I rfl (okWide_bool_mk underlying4 _)
 .intro b y h;have z:MemPlace.cell b y∈a:=by simpa using h
  rw[E.frozen (l _ z)];exact M b y z
 .intro P;have:=N P;simpa using this
 .intro p h _;simpa using h
end
end Go.Proofs.YtlmkgaoakcjlnaaGreatDoor
