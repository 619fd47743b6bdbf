/- Part Bz32. -/
import Derived.Test.YtpmgophlhmcogaaGreatDoorBz31
import Derived.Lib.AppendZerosOnto
import Derived.Lib.Overlaps
import Derived.Laws.Cover1
import Derived.Deep.WholeRow
import Derived.Laws.Tables
open Go.Proofs.Tryz
namespace Go.Proofs.YtpmgophlhmcogaaGreatDoor
set_option maxHeartbeats 25600000
set_option maxRecDepth 100000
open Go.RowKit
variable (T:aj)(t:TV)(s:List Int)(w:World)
abbrev Rc:=Int×Int×List Int×Int
abbrev rcC(r:Rc):Array Value:= #[.int .i64 r.1,.int .i64 r.2.1,.string (sB r.2.2.1),.int .i64 r.2.2.2]
abbrev rcV(r:Rc):Value:=.agg (rcC r)
abbrev cfV(a b:Int):Value:=.agg #[.int .i64 a,.int .i64 b]
def oK(r:Rc):Bool:=(r.1==0&&r.2.1==0&&r.2.2.1.isEmpty&&r.2.2.2==0)||(!(decide (r.2.1<0)||decide (64<=r.2.1)||r.2.2.1.isEmpty||decide (63<r.2.2.1.length))&&if r.1=1 then decide (1<=r.2.2.2)&&decide (r.2.2.2<=1073741824)else if r.1=2 then r.2.2.2==0 else false)
def cfE(a b:Int):Int:=if a<1\/64<a\/b<1\/64<b then 3 else 0
theorem SL(a b:Int)(w:World):cE' 92 #[cfV a b] w (.int .i64 (cfE a b)):=by
 have h:Ext w (w.alloc (.cells #[.int .i64 a,.int .i64 b] 38)):=eR'.aA _;obtain⟨c,i⟩:=eY' (decide (a<1));obtain⟨d,j⟩:=eY' (decide (64<a));obtain⟨f,k⟩:=eY' (decide (b<1));obtain⟨g,l⟩:=eY' (decide (64<b))
 have m:Hid (cfE a b=if(c||d||f||g)=true then 3 else 0):=ah (by
  rw[<- i,<- j,<- k,<- l,cfE]
  simp only[oT',aW,or_assoc])
 cases c<;>cases d<;>cases f<;>cases g
 all_goals
  go_enter func92,ntmps92;go_wp2;go_ret;exact⟨by rw[m.out];rfl,h⟩
theorem SN(a b:Int)(w:World):Calls prog 52 #[cfV a b] w λe w'=>∃v,e=.returned (.tuple #[v,.int .i64 (cfE a b)])/\Ext w w':=by
 have h:Ext w (w.alloc (.cells #[.int .i64 a,.int .i64 b] 38)):=eR'.aA _;have l:=ah h;obtain⟨f,i⟩:=eY' (cfE a b);have g:=ah i;clear i h;go_enter func52,ntmps52;go_wp2_with fail;refine(SL a b _).mono ?_;rintro e j⟨rfl,d⟩;have k:=ah (l.out.trans' d);have o:j.cell? ⟨w.heap.size,0,none⟩=some (.int .i64 a):=aO d 0;have p:j.cell? ⟨w.heap.size,1,none⟩=some (.int .i64 b):=aO d 1;rw[g.out];clear d;by_cases c:f=0
 .have m:(f != 0)=false:=bZ' c;have n:=ah c;clear c;go_wp2;go_ret2;exact⟨_,by rw[g.out,n.out];rfl,(k.out.aA _).aA _⟩
 .have m:(f != 0)=true:=bN' c;clear c;go_wp2;go_ret2;exact⟨_,by rw[g.out];rfl,k.out⟩
theorem SS(r:Rc)(w:World)(P:IsB r.2.2.1):cE' 42 #[rcV r] w (.bool (oK r)):=by
 obtain⟨s,o,a,d⟩:=r;simp only[]at P;have n:Ext w (w.alloc (.cells #[.int .i64 s,.int .i64 o,.string (sB a),.int .i64 d] 43)):=eR'.aA _;have J:((sB a).size:Int)=(a.length:Int):=by rw[ny]
 have q:=pU a;by_cases t:s=0/\o=0/\a=[]/\d=0
 .obtain⟨rfl,rfl,rfl,rfl⟩:=t;go_enter func42,ntmps42;go_wp2;go_ret;exact⟨rfl,n⟩
 .have b:Hid (oK (s,o,a,d)=(!(decide (o<0)||decide (64<=o)||a.isEmpty||decide (63<a.length))&&if s=1 then decide (1<=d)&&decide (d<=1073741824)else if s=2 then d==0 else false)):=ah (by
   unfold oK;simp only[];have:(s==0&&o==0&&a.isEmpty&&d==0)=false:=by
    rw[<- Bool.not_eq_true];intro h;simp only[aQ,bq',List.isEmpty_iff]at h;exact t ⟨h.1.1.1,h.1.1.2,h.1.2,h.2⟩
   rw[this,Bool.false_or])
  have K:(∃c f,decide (o<0)=c/\decide (64<=o)=f/\((c=true)\/(c=false/\f=true)\/(c=false/\f=false))):=⟨_,_,rfl,rfl,by cases decide (o<0)<;>cases decide (64<=o)<;>simp⟩;obtain⟨c,f,E,L,x⟩:=K;rw[E,L]at b;cases y:a.isEmpty with
  |true=>
   rw[y]at q b;have F:(s==0)=false\/(o==0)=false\/(d==0)=false:=by
    have M:a=[]:=List.isEmpty_iff.1 y;by_cases H:s=0
    .by_cases E:o=0
     .exact .inr (.inr (by rw[aP];exact λh=>t ⟨H,E,M,h⟩))
     .exact .inr (.inl (by rw[aP];exact E))
    .exact .inl (by rw[aP];exact H)
   have g:Hid (oK (s,o,a,d)=false):=ah (by rw[b.out];cases c<;>cases f<;>rfl);clear t b y;rcases F with z|z|z<;>rcases x with rfl|⟨rfl,rfl⟩|⟨rfl,rfl⟩
   all_goals
    go_enter func42,ntmps42;go_wp2;go_ret;exact⟨by rw[g.out];rfl,n⟩
  |false=>
   rw[y]at q b;have G:∃j,decide (63<a.length)=j/\decide ((63:Int)<(a.length:Int))=j:=⟨_,rfl,by rw[decide_eq_decide];omega⟩;obtain⟨j,N,O⟩:=G;rw[N]at b;have k:(∃A B,(s==1)=true/\decide (1<=d)=A/\decide (d<=1073741824)=B/\Hid ((if s=1 then decide (1<=d)&&decide (d<=1073741824)else if s=2 then d==0 else false)=(A&&B)))\/(s==1)=false/\((∃C,(s==2)=true/\(d==0)=C/\Hid ((if s=1 then decide (1<=d)&&decide (d<=1073741824)else if s=2 then d==0 else false)=C))\/(s==2)=false/\Hid ((if s=1 then decide (1<=d)&&decide (d<=1073741824)else if s=2 then d==0 else false)=false)):=by
    by_cases l:s=1
    .exact .inl ⟨_,_,by rw[bq'];exact l,rfl,rfl,ah (by rw[pP' l])⟩
    .refine .inr ⟨by rw[aP];exact l,?_⟩;by_cases p:s=2
     .exact .inl ⟨_,by rw[bq'];exact p,rfl,ah (by rw[nN' l,pP' p])⟩
     .exact .inr ⟨by rw[aP];exact p,ah (by rw[nN' l,nN' p])⟩
   obtain⟨I,D⟩:∃I,(if s=1 then decide (1<=d)&&decide (d<=1073741824)else if s=2 then d==0 else false)=I:=⟨_,rfl⟩;rw[D]at k b;have m:((c||f||false||j)=true/\(c=true\/c=false/\f=true\/c=false/\f=false/\j=true))\/(c=false/\f=false/\j=false):=(by cases c<;>cases f<;>cases j<;>simp);clear t y D x;rcases m with⟨x,m⟩|⟨rfl,rfl,rfl⟩
   .have g:Hid (oK (s,o,a,d)=false):=ah (by rw[b.out,x];rfl);clear b k x;rcases m with rfl|⟨rfl,rfl⟩|⟨rfl,rfl,rfl⟩
    all_goals
     go_enter func42,ntmps42;go_wp2;go_ret;exact⟨by rw[g.out];rfl,n⟩
   .rcases k with⟨A,B,l,Q,R,i⟩|⟨l,⟨C,p,S,i⟩|⟨p,i⟩⟩
    .have g:Hid (oK (s,o,a,d)=(A&&B)):=ah (by rw[b.out,i.out];rfl);clear b i;cases A<;>cases B
     all_goals
      go_enter func42,ntmps42;go_wp2;go_ret;exact⟨by rw[g.out];rfl,n⟩
    .have g:Hid (oK (s,o,a,d)=C):=ah (by rw[b.out,i.out];rfl);clear b i;cases C
     all_goals
      go_enter func42,ntmps42;go_wp2;go_ret;exact⟨by rw[g.out];rfl,n⟩
    .have g:Hid (oK (s,o,a,d)=false):=ah (by rw[b.out,i.out];rfl);clear b i;go_enter func42,ntmps42;go_wp2;go_ret;exact⟨by rw[g.out];rfl,n⟩
def NmS(w:World)(s:SV)(l:List Nm):Prop:=oq s l.length/\∀i x,l[i]? =some x->∃b o,s.a=some ⟨b,o,none⟩/\w.cell? ⟨b,o+i*3,none⟩=some (.string (sB x.1))/\w.cell? ⟨b,o+i*3+1,none⟩=some (.string (sB x.2.1))/\w.cell? ⟨b,o+i*3+2,none⟩=some (.string (sB x.2.2))
theorem NmS.ext{w w':World}{s:SV}{l:List Nm}(h:NmS w s l)(a:Ext w w'):NmS w' s l:=
 ⟨h.1,λi x c=>by
  obtain⟨b,o,d,f,g,j⟩:=h.2 i x c
  exact⟨b,o,d,dh (dG a) f,dh (dG a) g,dh (dG a) j⟩⟩
theorem NmS.at_{w:World}{A:Option Addr}{n c:Nat}{l:List Nm}(h:NmS w ⟨A,n,c⟩ l){i:Nat}(a:i<l.length):∃b o,A=some ⟨b,o,none⟩/\w.cell? ⟨b,o+i*3,none⟩=some (.string (sB l[i].1))/\w.cell? ⟨b,o+i*3+1,none⟩=some (.string (sB l[i].2.1))/\w.cell? ⟨b,o+i*3+2,none⟩=some (.string (sB l[i].2.2)):=
 h.2 i _ (List.getElem?_eq_getElem a)
theorem NmS.nil_:NmS w ⟨none,0,0⟩ []:=⟨⟨rfl,lr' _,by simp only[maxLen];omega⟩,λi x a=>by simp at a⟩
theorem IG:∀(l:List Int),(∀c∈l,aX c=true)->IsB (kY l)
 |[],_=>mg
 |c::r,h=>Et (MO (h c (List.mem_cons_self ..))) (IG r λx a=>h x (List.mem_cons_of_mem _ a))
theorem IE(l:List Int):IsB (jU l).1:=by
 unfold jU;split
 .exact mg
 .split
  .exact mg
  .rename_i d a;refine IG l λc b=>?_
   simp only[List.any_eq_true,not_exists,not_and,Bool.not_eq_true',Bool.not_eq_false]at a;exact a c b
theorem SA(l:List Int):IsB (jX T l).1:=by
 unfold jX;split
 .exact mg
 .exact IE _
theorem uni_isB:IsB (uniD T s).1:=by
 unfold uniD;split
 .exact mg
 .exact IE _
theorem Sz:IsB (dA T s).1:=by
 by_cases h:(dA T s).2.2=0
 .intro c a;rcases(RG h).1 c a with b|rfl
  .have:=Il b;omega
  .omega
 .rw[(RF h).1];exact mg
theorem Sv{T:aj}{s:List Int}(_:IsB s):IsB (kP T s).1.1/\IsB (kP T s).1.2.1/\IsB (kP T s).1.2.2:=by
 have a:IsB mG.1/\IsB mG.2.1/\IsB mG.2.2:=⟨mg,mg,mg⟩;unfold kP;split
 .exact a
 split
 .exact a
 unfold xJ;split
 .exact a
 split
 .exact a
 split
 .exact a
 exact⟨Sz T s,uni_isB T s,SA T _⟩
def vI:aj:=⟨[],[],[],[],[],[],[],[],[],[],[],[]⟩
abbrev Ah:TV:=⟨iW,iW,iW,iW,iW,iW,iW,iW,iW,iW,iW,iW⟩
theorem Dx{w:World}(a:Glob w):aN w Ah vI:=
 ⟨aT.nil_ _,aT.nil_ _,aT.nil_ _,aT.nil_ _,aT.nil_ _,aT.nil_ _,aT.nil_ _,bn.nil_ _,bn.nil_ _,bn.nil_ _,au.nil_ _,bn.nil_ _,a⟩
theorem IK(x y:List Int):fP (w.alloc (.cells #[.string (sB x),.string (sB y)] 9)) ⟨some ⟨w.heap.size,0,none⟩,2,2⟩ [x,y]:=
 ⟨⟨rfl,lr' _,by simp only[maxLen];omega⟩,λi z a=>by
  match i,a with
  |0,a=>simp at a;subst a;exact⟨w.heap.size,0,rfl,World.cell?_alloc_new w _ _ 0⟩
  |1,a=>simp at a;subst a;exact⟨w.heap.size,0,rfl,World.cell?_alloc_new w _ _ 1⟩
  |i+2,a=>simp at a⟩
theorem IL(x y:Int):au (w.alloc (.cells #[.int .i64 x,.int .i64 y] 3)) ⟨some ⟨w.heap.size,0,none⟩,2,2⟩ [x,y]:=
 ⟨⟨rfl,lr' _,by simp only[maxLen];omega⟩,λi z a=>by
  match i,a with
  |0,a=>simp at a;subst a;exact⟨w.heap.size,0,rfl,World.cell?_alloc_new w _ _ 0⟩
  |1,a=>simp at a;subst a;exact⟨w.heap.size,0,rfl,World.cell?_alloc_new w _ _ 1⟩
  |i+2,a=>simp at a⟩
theorem SC{w w':World}(cs:Array Value)(t:TypeId)(h:Ext (w.alloc (.cells cs t)) w')(k:Nat):w'.cell? ⟨w.heap.size,k,none⟩=cs[k]? :=by
 rw[h.b.cell (p:=⟨w.heap.size,k,none⟩) (by simp)];exact World.cell?_alloc_new w _ _ k
noncomputable def nG(T:aj)(key:List Int)(r:Rc):Bool:=oK r&&(!(r.1==0)&&((mM T==0)&&((kP T r.2.2.1).2==0&&(decide ((kP T r.2.2.1).1.1=r.2.2.1)&&decide ((kP T r.2.2.1).1.2.2=key)))))
theorem IV(key:List Int)(r:Rc)(w:World)(ht:aN w t T)(hk:IsB key)(N:IsB r.2.2.1):cE' 19 #[t.v,.string (sB key),rcV r] w (.bool (nG T key r)):=by
 obtain⟨o,d⟩:=eX' ((w.alloc (.cells #[.slice t.s0.a t.s0.n t.s0.c,.slice t.s1.a t.s1.n t.s1.c,.slice t.s2.a t.s2.n t.s2.c,.slice t.s3.a t.s3.n t.s3.c,.slice t.s4.a t.s4.n t.s4.c,.slice t.s5.a t.s5.n t.s5.c,.slice t.s6.a t.s6.n t.s6.c,.slice t.s7.a t.s7.n t.s7.c,.slice t.s8.a t.s8.n t.s8.c,.slice t.s9.a t.s9.n t.s9.c,.slice t.s10.a t.s10.n t.s10.c,.slice t.s11.a t.s11.n t.s11.c] 36)).alloc (.cells (rcC r) 43));have s:Ext w o:=by rw[d];exact(eR'.aA _).aA _
 have g:=ah s;have X:=ah (ht.ay s);have Y:Hid (∀w',Ext o w'->∀k:Nat,w'.cell? ⟨w.heap.size,k,none⟩=t.v.cells[k]?):=ah (λw' h=>aO ((eR'.aA _).trans' (by rw[d]at h;exact h)));have x:Hid (∀w',Ext o w'->∀k:Nat,w'.cell? ⟨w.heap.size+1,k,none⟩=(rcC r)[k]?):=ah (λw' h k=>cell_of_row w' _ k (rcC r) 43 (0,0) (sN (by rw[d]at h;exact h)));have E:=ah (SS r o N);have Z:Hid (∀w',Ext o w'->cE' 43 #[t.v] w' (.int .i64 (mM T))):=ah (λw' h=>Dh t T w' (X.out.ay h));have CC:Hid (∀w',Ext o w'->Calls prog 44 #[t.v,.string (sB r.2.2.1)] w' (IB w' (kP T r.2.2.1))):=ah (λw' h=>Sr T t r.2.2.1 w' (X.out.ay h) N);have y:=ah (Sv (T:=T) N);have z:Hid (nG T key r=(oK r&&(!(r.1==0)&&((mM T==0)&&((kP T r.2.2.1).2==0&&(decide ((kP T r.2.2.1).1.1=r.2.2.1)&&decide ((kP T r.2.2.1).1.2.2=key))))))):=rfl;generalize kP T r.2.2.1=C at*;generalize mM T=cn at*;obtain⟨b,F⟩:=C;simp only[]at y z;clear ht s;go_enter func19,ntmps19;go_wp2_with fail;rw[<- d];refine E.out.mono ?_;rintro e w1⟨rfl,i⟩;have K:=ah i;have uj:=Y.out w1 i;have P:=x.out w1 i;clear i d E;cases B:oK r with
 |false=>
  have j:Hid (nG T key r=false):=ah (by rw[z.out,B];rfl);have p:=g.out.trans' K.out;clear B z;go_wp2;go_ret;exact⟨by rw[j.out];rfl,p⟩
 |true=>
  by_cases L:r.1=0
  .have G:(r.1==0)=true:=by rw[bq'];exact L
   have j:Hid (nG T key r=false):=ah (by rw[z.out,B,G];rfl);have p:=g.out.trans' K.out;clear B z L;go_wp2;go_ret;exact⟨by rw[j.out];rfl,p⟩
  have G:(r.1==0)=false:=by rw[aP];exact L
  have l:Hid (nG T key r=((cn==0)&&(F==0&&(decide (b.1=r.2.2.1)&&decide (b.2.2=key))))):=ah (by rw[z.out,B,G];rfl);clear B z L;go_wp2_with fail;refine(Z.out _ K.out).mono ?_;rintro e w2⟨rfl,H⟩;have f:=ah (K.out.trans' H);have kW:=Y.out w2 f.out;have Q:=x.out w2 f.out;clear H uj P Z;by_cases D:cn=0
  case neg=>
   have R:(cn != 0)=true:=bN' D;have e3:(cn==0)=false:=(by rw[aP];exact D);have j:Hid (nG T key r=false):=ah (by rw[l.out,e3];rfl);have p:=g.out.trans' f.out;clear D l;go_wp2;go_ret;exact⟨by rw[j.out];rfl,p⟩
  have R:(cn != 0)=false:=bZ' D;have m:Hid (nG T key r=(F==0&&(decide (b.1=r.2.2.1)&&decide (b.2.2=key)))):=ah (by rw[l.out,D];rfl);clear D l;go_wp2_with fail;refine(CC.out _ f.out).mono ?_;rintro e q⟨rfl,I⟩;obtain⟨S,A⟩:=eX' (q.alloc (.cells #[.string (sB b.1),.string (sB b.2.1),.string (sB b.2.2)] 79));have J:Ext q S:=by rw[A];exact eR'.aA _
  have eH:=ah (f.out.trans' (I.trans' J));have U:Hid (∀k:Nat,S.cell? ⟨q.heap.size,k,none⟩=(#[.string (sB b.1),.string (sB b.2.1),.string (sB b.2.2)]:Array Value)[k]?):=ah (λk=>by rw[A];exact World.cell?_alloc_new q _ _ k);have p:=g.out.trans' eH.out;have a7:=x.out S eH.out;have a8:=U.out;have q1:=uq y.out.1 N;have q2:=uq y.out.2.2 hk;have HV:=ah A;clear I J kW Q CC;by_cases M:F=0
  .have W:(F==0)=true:=by rw[bq'];exact M
   have j:Hid (nG T key r=(decide (b.1=r.2.2.1)&&decide (b.2.2=key))):=ah (by rw[m.out,W];rfl);generalize decide (b.1=r.2.2.1)=b1 at*;generalize decide (b.2.2=key)=b2 at*;clear M m R G;cases b1<;>cases b2
   all_goals
    go_wp2_with(refine wpList_store_row rfl _ _ _ rfl q.heap.size _ rfl rfl 79 qc (heap_alloc_new q _) (by kernel_rfl) rfl (sK _ _ _) ?_;rw[World.setRow_alloc_new,<- A];clear A);go_ret;exact⟨by rw[j.out];rfl,p⟩
  .have W:(F==0)=false:=by rw[aP];exact M
   have j:Hid (nG T key r=false):=ah (by rw[m.out,W];rfl);clear M m R G;go_wp2_with(refine wpList_store_row rfl _ _ _ rfl q.heap.size _ rfl rfl 79 qc (heap_alloc_new q _) (by kernel_rfl) rfl (sK _ _ _) ?_;rw[World.setRow_alloc_new,<- A];clear A);go_ret;exact⟨by rw[j.out];rfl,p⟩
def oL(x:Int):Int->List Int->Int
 |_,[]=> -1
 |i,y::r=>if x=y then i else oL x (i+1) r
theorem IW(x:Int):∀(l:List Int)(i:Int),0<=i->decide (0<=oL x i l)=l.any (λy=>decide (x=y))
 |[],i,_=>by simp[oL]
 |y::r,i,h=>by
  unfold oL;by_cases e:x=y
  .simp[e,h]
  .rw[nN' e,IW x r (i+1) (by omega)];simp[e]
theorem Tc{x:Int}{L:List Int}{k:Nat}(a:k<L.length):oL x k (L.drop k)=if x=L[k]then(k:Int)else oL x ((k+1:Nat):Int) (L.drop (k+1)):=by
 rw[drop_at L k a];rfl
theorem SX(x:Int)(L:List Int)(A:Option Addr)(n c:Nat)(w:World)(h:au w ⟨A,n,c⟩ L):
 cE' 55 #[.slice A n c,.int .i64 x] w (.int .i64 (oL x 0 L)):=by
 obtain⟨q,j,l⟩:=h.len;subst q;have r:L.length<=9223372036854775807:=by have:=Nat.le_trans j l;(try simp only[maxLen]at this);omega
 have s:=ah h;clear h;go_enter func55,ntmps55;go_wp2;go_loopg[8] L.length (λt z B=>∃k:Nat,k+t=L.length/\z=.int .i64 k/\Hid (oL x k (L.drop k)=oL x 0 L)/\Hid (Ext w B));exact⟨0,by omega,rfl,ah rfl,ah eR'⟩;obtain⟨k,H,rfl,a,g⟩:=hrel;by_cases d:k<L.length
 .obtain⟨m,rfl⟩:=gS' gk;obtain⟨b,o,rfl,D⟩:=(s.out.ext g.out).at_ d;have i:=ah (Tc (x:=x) d);generalize L[k]=y at*;have E:=z0' k;have F:(k:Int)<(L.length:Int):=by omega
  by_cases e:x=y
  .have G:(x==y)=true:=by rw[bq'];exact e
   have f:=ah (a.out.symm.trans (i.out.trans (pP' e)));have p:=g.out;clear e i a;go_wp2;go_ret;exact⟨by rw[f.out];rfl,p⟩
  .have G:(x==y)=false:=by rw[aP];exact e
   have f:=ah ((i.out.trans (nN' e)).symm.trans a.out);clear e i a;go_wp2;go_roundg m;exact⟨k+1,by omega,by go_num,f,g⟩;omega
 .have f:Hid (oL x 0 L= -1):=ah (by rw[<- a.out,List.drop_of_length_le (by omega)];rfl);have p:=g.out;go_wp2;go_ret;exact⟨by rw[f.out];rfl,p⟩
theorem SY(x:Int)(L:List Int)(A:Option Addr)(n c:Nat)(w:World)(h:au w ⟨A,n,c⟩ L):
 cE' 38 #[.slice A n c,.int .i64 x] w (.bool (L.any λy=>decide (x=y))):=by
 have b:=ah (IW x L 0 (by omega));go_enter func38,ntmps38;go_wp2_with fail;refine(SX x L A n c w h).mono ?_;rintro e d⟨rfl,a⟩;generalize oL x 0 L=v at*;go_wp2;go_ret;exact⟨aJ b.out,a⟩
def asG(L:List (List Int)):Nat->Nat->Bool
 |0,_=>true
 |g+1,i=>if h:i<L.length then ltS (L[i-1]'(by omega)) L[i]&&asG L g (i+1)else true
abbrev asN(L:List (List Int)):Bool:=asG L L.length 1
theorem IX(L:List (List Int))(A:Option Addr)(n c:Nat)(w:World)(h:fP w ⟨A,n,c⟩ L)(N:∀x∈L,IsB x):
 cE' 35 #[.slice A n c] w (.bool (asN L)):=by
 obtain⟨t,k,l⟩:=h.1;simp only at t k l;subst t;have O:L.length<=9223372036854775807:=by have:=Nat.le_trans k l;simp only[maxLen]at this;omega
 have H:=ah h;have q:=ah N;clear h N;go_enter func35,ntmps35;go_wp2;go_loopg[3] L.length (λy P Q=>∃j:Nat,j+y=L.length/\P=.int .i64 ((j+1:Nat):Int)/\Hid (asG L y (j+1)=asN L)/\Hid (Ext w Q));exact⟨0,by omega,by go_num,ah rfl,ah eR'⟩;obtain⟨j,hj,rfl,B,r⟩:=hrel;have R:(0:Int)<=((j+1:Nat):Int):=bI _;by_cases m:j+1<L.length
 .obtain⟨C,rfl⟩:=gS' gk;have d:=B.out;rw[asG,dif_pos m]at d;obtain⟨D,E,rfl,F⟩:=(H.out.ext r.out).at_ (i:=j) (by omega);obtain⟨T,U,V,G⟩:=(H.out.ext r.out).at_ m;cases V;have I:=RV (q.out _ (gM' m)) (q.out _ (gM' (show j<L.length by omega)));have o:=uq (q.out _ (gM' m)) (q.out _ (gM' (show j<L.length by omega)));simp only[Nat.add_sub_cancel]at d;have p:=ah d;clear d;generalize L[j]=a at*;generalize L[j+1]=b at*;have W:∀z:ak wr,z.w.cell? ⟨D,E+j,none⟩=some (.string (sB a)):=dJ F;have X:∀z:ak wr,z.w.cell? ⟨D,E+(j+1),none⟩=some (.string (sB b)):=dJ G;have Y:((j+1:Nat):Int)-1=(j:Int):=by omega
  have Z:=z0' j;have a0:((j+1:Nat):Int)<(L.length:Int):=by omega
  have Uj:(j:Int)<(L.length:Int):=by omega
  clear F G;have s:(Op.bytesLess (sB b).toList (sB a).toList=true/\Hid (asN L=false))\/(Op.bytesLess (sB b).toList (sB a).toList=false/\(((sB b).toList==(sB a).toList)=true/\Hid (asN L=false)\/((sB b).toList==(sB a).toList)=false/\Hid (asG L C (j+1+1)=asN L))):=by
   rw[I,o];have d:=p.out;cases J:ltS b a with
   |true=>exact .inl ⟨rfl,ah (by rw[<- d,RU J];rfl)⟩
   |false=>
    by_cases e:b=a
    .exact .inr ⟨rfl,.inl ⟨dt' e,ah (by rw[<- d,e,CU];rfl)⟩⟩
    .refine .inr ⟨rfl,.inr ⟨df' e,ah ?_⟩⟩;cases K:ltS a b with
     |true=>rw[<- d,K];rfl
     |false=>exact absurd (Iq J K) e
  clear I o p;rcases s with⟨b1,f⟩|⟨b1,⟨b2,f⟩|⟨b2,f⟩⟩
  all_goals
   go_wp2_with fail;refine rX' ?_
   repeat(go_big_quiet_step(fail))
   refine wpQuiet_nil ?_;rintro _⟨z,rfl⟩;have M:=ah (r.out.trans' z.h);generalize z.w=w6 at*;clear W X z;go_wp2_with fail
   first
    |(go_roundg C;exact⟨j+1,by omega,by go_num,f,M⟩;omega)
    |(go_ret;exact⟨by rw[f.out];rfl,M.out⟩)
 .have f:Hid (asN L=true):=ah (by
   rw[<- B.out];cases gk with
   |zero=>rfl
   |succ g=>rw[asG,dif_neg m])
  have hx:=r.out;go_wp2;go_ret;exact⟨by rw[f.out];rfl,hx⟩
end Go.Proofs.YtpmgophlhmcogaaGreatDoor
