/- Part Bz19. -/
import Derived.Test.YtpmgophlhmcogaaGreatDoorBz18
open Go.Proofs.Tryz
namespace Go.Proofs.YtpmgophlhmcogaaGreatDoor
set_option maxHeartbeats 25600000
set_option maxRecDepth 100000
open Go.RowKit
variable (T:aj)(t:TV)(l:List Int)(A:Option Addr)(n c:Nat)(w:World)
def jB(T:aj)(c:Int):List Int:=if uo T c=true then[]else if aG T.dn c=[]then[c]else aG T.dn c
def kN(T:aj)(l:List Int):Int:=if aS T l≠0 then aS T l else if 4096<((l.flatMap (jB T)).length:Int)then 7 else 0
def qX(T:aj)(l:List Int):List Int:=if kN T l=0 then l.flatMap (jB T)else[]
def Iz(w:World)(l:List Int)(v:Int)(e:Ending)(w':World):Prop:=∃B m d,e=.returned (.tuple #[.slice B m d,.int .i64 v])/\Ext w w'/\au w' ⟨B,m,d⟩ l
theorem CW{T:aj}(h:bC T=true):∀x,(aG T.dn x).length<=18:=by
 simp only[bC,aQ]at h;have a:gX T=true:=by simp only[h]
 simp only[gX,maps,jC,aQ]at a;exact Aw a.2.2.2.1
theorem RY{T:aj}(h:bC T=true)(x:Int):(jB T x).length<=18:=by
 unfold jB;split
 .simp
 .split
  .simp
  .exact CW h x
theorem RZ(T:aj)(c:Int)(w:World)(ht:aN w t T)(i:bC T=true):
 Calls prog 246 #[t.v,.int .i64 c] w λe w'=>∃B m d,e=.returned (.slice B m d)/\au w' ⟨B,m,d⟩ (aG T.dn c)/\Ext w w':=by
 have b:=dI w t;have x:=ah (ht.ay b);have y:=ah (CW i c);have o:=ah (iR i);have z:=ah (yV i);clear i;obtain⟨p,A,q,r,f,C⟩:=uf T.dn t.s11.a t.s11.n t.s11.c c _ x.out.dn o.out.dn.1 o.out.dn.2;have D:=ah r;have j:Hid (aG T.dn c=[]->p=none/\q=0):=ah λh=>by
  have:=f (uX z.out.dn h);exact⟨this.1,this.2.2⟩
 clear r f;go_enter func246,ntmps246;go_wp2_with fail;refine(C _ eR').mono ?_;rintro e E⟨rfl,g⟩;go_wp2_with fail;refine(AZ _ p A q E (D.out.ext g) (by have:=y.out;omega) j.out).mono ?_;rintro e H⟨B,d,rfl,s,k,l⟩;have F:=(b.trans' g).trans' l;have G:=ah (aB.ints s);clear s k;go_wp2;go_ret;exact⟨_,_,_,rfl,G.out,F⟩
def S9(T:aj)(wb:World)(l:List Int)(gh:Nat)(s9 s23:Value)(wx:World):Prop:=
 ∃(k:Nat)(A:Option Addr)(n c:Nat),k+gh=l.length/\s23=.int .i64 k/\s9=.slice A n c/\Hid (aB wx wb.heap.size A n c ((l.take k).flatMap (jB T)))/\Hid (Ext wb wx)
theorem Sj(ht:aN w t T)(hi:au w ⟨A,n,c⟩ l):
 Calls prog 191 #[t.v,.slice A n c] w (Iz w (qX T l) (kN T l)):=by
 have z:=dI w t;have N:=ah z;have HT:=ah (ht.ay z);have HI:=ah (hi.ext z);have hn:=hi.len.1;subst hn;clear ht hi z;go_enter func191,ntmps191;go_wp2_with fail;refine(qo t T l A _ c _ HT.out HI.out).mono ?_;rintro e K⟨v,rfl,G,_⟩;have O:=ah G;have P:=bT' t G;clear G;by_cases F:aS T l=0
 .obtain⟨hw,hl⟩:=qy F;have aa:(aS T l != 0)=false:=bZ' F;have Q:Hid (kN T l=if 4096<((l.flatMap (jB T)).length:Int)then 7 else 0):=ah (by rw[kN,nN' (by rw[F];simp)]);have HW:=ah hw;have HL:=ah hl;clear F hw hl P;go_wp2;go_loopg[8,23] l.length (λgh s9 ab wx=>S9 T K l gh s9 ab wx);exact⟨0,none,0,0,by omega,rfl,rfl,ah (Own.nil_ _ _ _ _),ah eR'⟩;obtain⟨k,A2,j,c2,b2,rfl,rfl,H,R⟩:=hrel;have L:=ah (O.out.trans' R.out);have P:=bT' t L.out;have ac:=ah (HI.out.ext L.out)
  have S:Hid (((l.take k).flatMap (jB T)).length<=18*4096):=ah (by
   have h1:=BP (RY HW.out) (l.take k);rw[List.length_take]at h1;have:=HL.out
   omega)
  have B:=ah (aB.ints H.out).len.1;by_cases U:k<l.length
  .obtain⟨I,rfl⟩:=gS' gk;obtain⟨b,o,rfl,b4⟩:=ac.out.at_ U;have C:=ah (yG (jB T) l k U);have h:Hid (jB T l[k]=if uo T l[k]=true then[]else if aG T.dn l[k]=[]then[l[k]]else aG T.dn l[k]):=rfl;have ad:=ah (CW HW.out l[k]);generalize l[k]=x at*;have b5:=z0' k;have b6:(k:Int)<(l.length:Int):=(by omega);have b7:l.length<=4096:=HL.out;go_wp2_with fail;refine(Ef t T x wr (HT.out.ay L.out) (iR HW.out)).mono ?_;rintro e w3⟨rfl,m⟩;have V:=ah (R.out.trans' m);have aU:=ah (Own.ext H.out m);have lK:=bT' t (L.out.trans' m);have vK:=ah (L.out.trans' m);clear m P ;cases W:uo T x with
   |true=>
    rw[W]at h;have p:Hid (jB T x=[]):=ah (h.out.trans (pP' rfl));have X:Hid (aB w3 K.heap.size A2 j c2 ((l.take (k+1)).flatMap (jB T))):=ah (by rw[C.out,p.out,List.append_nil];exact aU.out);clear h lK;go_wp2;go_roundg I;exact⟨k+1,A2,j,c2,by omega,by go_num,rfl,X,V⟩;omega
   |false=>
    rw[W,nN' (by simp)]at h;have zG:=h;clear h;go_wp2_with fail;refine(RZ t T x w3 (HT.out.ay vK.out) HW.out).mono ?_;rintro e w4⟨A3,J,c3,rfl,Y,q⟩;have D:=ah (V.out.trans' q);have pq:=ah (Own.ext aU.out q);have JA:=bT' t (vK.out.trans' q);have Ud:=ah (vK.out.trans' q);have s:=ah (Y);clear q lK aU Y;by_cases i:aG T.dn x=[]
    .have p:Hid (jB T x=[x]):=ah (zG.out.trans (pP' i));have E:J=0:=(by have:=s.out.len.1;rw[i]at this;exact this);have y:Ext w4 (w4.alloc (.cells #[.int .i64 x] 3)):=eR'.aA _;obtain⟨Z,c5,w5,f,d,g,jM⟩:=gK (Own.ext pq.out y) (iP w4 x) (by have:=S.out;have:=B.out;omega) (D.out.trans' y).b.size;have X:Hid (aB w5 K.heap.size Z (j+1) c5 ((l.take (k+1)).flatMap (jB T))):=ah (by rw[C.out,p.out];exact d);have bg:Hid (Ext K w5):=ah (dP (D.out.trans' y) g (λk hk=>(Own.lt (Own.ext pq.out y) k hk).1));clear d g jM y i zG s;subst E;go_wp2_with(at_builtin;refine bP rfl _ _ _ rfl _ _ rfl rfl _ _ f ?_);clear f;go_roundg I;exact⟨k+1,Z,j+1,c5,by omega,by go_num,rfl,X,bg⟩;omega
    .have p:=ah (zG.out.trans (nN' i));have E:0<J:=by
      have:=s.out.len.1;cases hq:aG T.dn x with
      |nil=>exact absurd hq i
      |cons a r=>rw[hq]at this;simp only[List.length_cons]at this;omega
     have d3:decide (0<J)=true:=dt' E;have Rj:J<=18:=(by have h7:J=_:=s.out.len.1;have:=ad.out;omega);obtain⟨Z,c5,w5,f,d,g,jM⟩:=gK pq.out s.out (by have:=S.out;have:=B.out;omega) D.out.b.size;have X:Hid (aB w5 K.heap.size Z (j+J) c5 ((l.take (k+1)).flatMap (jB T))):=ah (by rw[C.out,p.out];exact d);have bg:Hid (Ext K w5):=ah (dP D.out g (λk hk=>(Own.lt pq.out k hk).1));clear d g jM i zG Rj E;go_wp2_with(at_builtin;refine bP rfl _ _ _ rfl _ _ rfl rfl _ _ f ?_);clear f;go_roundg I;exact⟨k+1,Z,j+J,c5,by omega,by go_num,rfl,X,bg⟩;omega
  .have HE:Hid ((l.take k).flatMap (jB T)=l.flatMap (jB T)):=ah (by rw[tL' (by omega)]);have a2:=N.out.trans' L.out;clear P;by_cases M:4096<((l.flatMap (jB T)).length:Int)
   .have C:Hid (kN T l=7):=ah (by rw[Q.out,pP' M]);have hd:decide (4096<(j:Int))=true:=(by rw[aW,B.out,HE.out];exact M);have ap:decide (4096<j)=true:=(by rw[aW];rw[aW]at hd;omega);clear M;go_wp2;go_ret2;exact⟨none,0,0,by rw[C.out];rfl,a2,by rw[qX,C.out,nN' (by decide)];exact au.nil_ _⟩
   .have C:Hid (kN T l=0):=ah (by rw[Q.out,nN' M]);have hd:decide (4096<(j:Int))=false:=(by rw[bf,B.out,HE.out];exact M);have ap:decide (4096<j)=false:=(by rw[bf];rw[bf]at hd;omega);have aq:Hid (au wr ⟨A2,j,c2⟩ (l.flatMap (jB T))):=ah (by rw[<- HE.out];exact aB.ints H.out);clear M;go_wp2;go_ret2;exact⟨A2,j,c2,by rw[C.out];rfl,a2,by rw[qX,C.out,pP' rfl];exact aq.out⟩
 .have aa:(aS T l != 0)=true:=bN' F
  have HZ:Hid (kN T l=aS T l/\kN T l≠0):=ah (by
   have h1:kN T l=aS T l:=by rw[kN,pP' F]
   exact⟨h1,by rw[h1];exact F⟩)
  have hb:=N.out.trans' O.out;clear F P;go_wp2;go_ret2;exact⟨none,0,0,by rw[HZ.out.1];rfl,hb,by rw[qX,nN' HZ.out.2];exact au.nil_ _⟩
def ltS:List Int->List Int->Bool
 |_,[]=>false
 |[],_::_=>true
 |a::r,b::s=>decide (a<b)||(a==b&&ltS r s)
theorem CU:∀l:List Int,ltS l l=false
 |[]=>rfl
 |a::r=>by simp[ltS,CU r]
theorem Ip:∀{a b c:List Int},ltS a b=true->ltS b c=true->ltS a c=true
 |_,[],_,h,_=>by simp[ltS]at h
 |_,_::_,[],_,h=>by simp[ltS]at h
 |[],_::_,_::_,_,_=>rfl
 |x::a,y::b,z::c,h,k=>by
  simp only[ltS,oT',aW,aQ,bq']at h k |-;rcases h with h|⟨rfl,h⟩<;>rcases k with k|⟨rfl,k⟩
  .exact .inl (by omega)
  .exact .inl h
  .exact .inl k
  .exact .inr ⟨rfl,Ip h k⟩
theorem Iq:∀{a b:List Int},ltS a b=false->ltS b a=false->a=b
 |[],[],_,_=>rfl
 |[],_::_,h,_=>by simp[ltS]at h
 |_::_,[],_,h=>by simp[ltS]at h
 |x::a,y::b,h,k=>by
  simp only[ltS,oF',bf,aF',aP]at h k;have e:x=y:=by omega
  subst e;rw[Iq (h.2.resolve_left (λh=>h rfl)) (k.2.resolve_left (λh=>h rfl))]
theorem RU{a b:List Int}(h:ltS a b=true):ltS b a=false:=by
 cases k:ltS b a with
 |false=>rfl
 |true=>have:=Ip h k;rw[CU]at this;cases this
theorem Ir:∀x y:List UInt8,Op.bytesLess x y=ltS (x.map λb=>(b.toNat:Int)) (y.map λb=>(b.toNat:Int))
 |_,[]=>by cases ‹List UInt8› <;>rfl
 |[],_::_=>rfl
 |a::x,b::y=>by
  have c:decide (a<b)=decide ((a.toNat:Int)<b.toNat):=by rw[decide_eq_decide,UInt8.lt_iff_toNat_lt];omega
  have d:(a==b)=((a.toNat:Int)==(b.toNat:Int)):=by
   by_cases e:a=b
   .subst e;simp
   .have:a.toNat≠b.toNat:=λh=>e (UInt8.toNat_inj.1 h)
    rw[beq_eq_false_iff_ne.2 e,beq_eq_false_iff_ne.2 (by omega)]
  simp only[Op.bytesLess,List.map_cons,ltS,Ir x y,c,d]
theorem RV{a b:List Int}(c:IsB a)(d:IsB b):Op.bytesLess (sB a).toList (sB b).toList=ltS a b:=by
 rw[Ir,ByteArray.toList_eq,ByteArray.toList_eq];show ltS (nums (sB a)) (nums (sB b))=_
 rw[yJ c,yJ d]
abbrev Nm:=List Int×List Int×List Int
def oJ(T:aj)(l:List Int):List Int×Int:=if eF T l≠0 then([],eF T l)else if kN T (kF T l)≠0 then([],kN T (kF T l))else(kF T (qX T (kF T l)),eF T (qX T (kF T l)))
def jX(T:aj)(l:List Int):List Int×Int:=if(oJ T l).2≠0 then([],(oJ T l).2)else jU (oJ T l).1
theorem Si(ht:aN w t T)(W:au w ⟨A,n,c⟩ l):
 Calls prog 124 #[t.v,.slice A n c] w (Iz w (oJ T l).1 (oJ T l).2):=by
 have f:=dI w t;have g:=ah f;have p:=ah (ht.ay f);have J:=ah (Bv T t l A n c (tW' w t) p.out (W.ext f));have I:Hid (oJ T l=if eF T l≠0 then([],eF T l)else if kN T (kF T l)≠0 then([],kN T (kF T l))else(kF T (qX T (kF T l)),eF T (qX T (kF T l)))):=rfl;generalize eF T l=E0 at*;generalize kF T l=R0 at*;generalize oJ T l=D at*;go_enter func124,ntmps124;go_wp2_with fail;refine J.out.mono ?_;rintro e K⟨B,m,d,rfl,h,q⟩;have i:=ah h;have r:=ah q;have X:=bT' t h;have s:=g.out.trans' h;by_cases k:E0=0
 case neg=>
  have L:(E0 != 0)=true:=bN' k;have b:=ah (I.out.trans (pP' k));go_wp2;go_ret2;exact⟨none,0,0,by rw[b.out];rfl,s,by rw[b.out];exact au.nil_ _⟩
 have j:=ah (I.out.trans (nN' (by rw[k];simp)));have L:(E0 != 0)=false:=bZ' k;have x:=ah (Sj T t R0 B m d K (p.out.ay i.out) r.out);generalize kN T R0=E1 at*;generalize qX T R0=R1 at*;go_wp2_with fail;refine x.out.mono ?_;rintro e M⟨N,O,P,rfl,y,z⟩;have a:=ah (i.out.trans' y);have C:=ah z;have Y:=bT' t a.out;have E:=g.out.trans' a.out;by_cases o:E1=0
 case neg=>
  have Q:(E1 != 0)=true:=bN' o;have b:=ah (j.out.trans (pP' o));go_wp2;go_ret2;exact⟨none,0,0,by rw[b.out];rfl,E,by rw[b.out];exact au.nil_ _⟩
 have b:=ah (j.out.trans (nN' (by rw[o];simp)));have Q:(E1 != 0)=false:=bZ' o;have x:=ah (Bv T t R1 N O P M (p.out.ay a.out) C.out);go_wp2_with fail;refine x.out.mono ?_;rintro e Z⟨R,S,U,rfl,F,G⟩;have H:=ah G;have V:=g.out.trans' (a.out.trans' F);go_wp2;go_ret2;exact⟨R,S,U,by rw[b.out];rfl,V,by rw[b.out];exact H.out⟩
theorem Sl(ht:aN w t T)(z:au w ⟨A,n,c⟩ l):
 Calls prog 70 #[t.v,.slice A n c] w (xk w (jX T l)):=by
 have a:=dI w t;have r:=ah (Si T t l A n c (tW' w t) (ht.ay a) (z.ext a));have g:Hid (jX T l=if(oJ T l).2≠0 then([],(oJ T l).2)else jU (oJ T l).1):=rfl;generalize oJ T l=S at*;generalize jX T l=D at*;obtain⟨s,h⟩:=S;simp only[]at r g;go_enter func70,ntmps70;go_wp2_with fail;refine r.out.mono ?_;rintro e x⟨B,m,d,rfl,i,j⟩;have k:=ah j;have b:=a.trans' i;by_cases f:h=0
 case neg=>
  have y:(h != 0)=true:=bN' f;have o:=ah (g.out.trans (pP' f));go_wp2;go_ret2;exact⟨by rw[o.out];rfl,b⟩
 have o:=ah (g.out.trans (nN' (by rw[f];simp)));have y:(h != 0)=false:=bZ' f;go_wp2_with fail;refine(uenc_spec s B m d x k.out).mono ?_;rintro e C⟨rfl,p⟩;have q:=b.trans' p;go_wp2;go_ret2;exact⟨by rw[o.out];rfl,q⟩
def eX(ks B:List Int):Bool:=B.any λx=>ks.any λy=>y==x
def lastB(B:List Int):Int:=B.foldl (λk x=>if x=10 then k else x) (-1)
def bM(T:aj)(l:List Int):List Int:=l.map (jK T)
def jI(B:List Int):List Int:=if lastB B= -1 then[]else[lastB B]
def H8(b1 b2 b3 b4 b5 b6 b7 b8:Bool):Int:=if b1 then(if b2 then 2 else if !b3 then 3 else if b4&&b5 then 4 else 0)else if b6 then(if b7 then 5 else if !b8 then 6 else 0)else 1
def vT(B:List Int):Int:=match B with
 |[]=>0
 |f::r=>H8 (eX [1,2] [f]) (eX [0,11] (f::r)) (eX [1,2,3,4] (jI (f::r))) (eX [4] (f::r)) (eX [3] (f::r)) (eX [0] [f]) (eX [1,2,3,11] (f::r)) (eX [0,4] (jI (f::r)))
def dY(B:List Int):Nat:=B.foldl (λs b=>s ||| 2 ^ b.toNat) 0
def InB(B:List Int):Prop:=∀x∈B,0<=x/\x<=11
theorem InB.snoc{B:List Int}{x:Int}(h:InB (B++[x])):InB B/\0<=x/\x<=11:=⟨λy a=>h y (by simp[a]),h x (by simp)⟩
theorem BQ(B:List Int)(x:Int):dY (B++[x])=dY B ||| 2 ^ x.toNat:=by
 unfold dY;rw[List.foldl_append];rfl
theorem BR{p:List Int->Prop}(c:p [])(d:∀B x,p B->p (B++[x])):∀B,p B:=by
 intro B;have a:∀R:List Int,p R.reverse:=by
  intro R
  induction R with
  |nil=>exact c
  |cons x R ih=>
   rw[List.reverse_cons];exact d _ _ ih
 have b:=a B.reverse;rwa[List.reverse_reverse]at b
theorem BU:∀(B:List Int),InB B->dY B<4096:=by
 refine BR (λ_=>by decide) (λB x a h=>?_);obtain⟨b,c,d⟩:=h.snoc;rw[BQ];exact Nat.or_lt_two_pow (n:=12) (a b) (Nat.pow_lt_pow_right (by decide) (by omega))
theorem zu(i:Nat):∀(B:List Int),InB B->(dY B).testBit i=B.any λx=>x==(i:Int):=by
 refine BR (λ_=>by simp[dY]) (λB x a h=>?_);obtain⟨b,c,d⟩:=h.snoc;rw[BQ,Nat.testBit_or,a b,List.any_append,Nat.testBit_two_pow];congr 1;simp only[List.any_cons,List.any_nil,Bool.or_false];rw[Bool.eq_iff_iff,aW,bq'];omega
theorem Qh(a B:List Int)(n:InB a)(j:InB B):(dY B &&& dY a != 0)=eX a B:=by
 rw[Bool.eq_iff_iff,bne_iff_ne];constructor
 .intro h;rcases Bool.eq_false_or_eq_true (eX a B)with c|c
  .exact c
  .exfalso;apply h;apply Nat.eq_of_testBit_eq;intro i;rw[Nat.testBit_and,zu i B j,zu i a n,Nat.zero_testBit,aF'];by_cases b:(B.any λx=>x==(i:Int))=true
   .right;rw[List.any_eq_true]at b;obtain⟨x,g,d⟩:=b;rw[bq']at d;subst d;unfold eX at c;rw[List.any_eq_false]at c;have:=c _ g;rw[List.any_eq_false];intro z o f;rw[bq']at f;subst f;exact this (List.any_eq_true.2 ⟨_,o,by simp⟩)
   .left;exact Bool.eq_false_iff.2 b
 .intro h p;unfold eX at h;rw[List.any_eq_true]at h;obtain⟨x,b,k⟩:=h;rw[List.any_eq_true]at k;obtain⟨y,q,l⟩:=k;rw[bq']at l;subst l;have r:=j _ b;have m:(dY B &&& dY a).testBit y.toNat=true:=by
   rw[Nat.testBit_and,zu _ B j,zu _ a n,aQ,List.any_eq_true,List.any_eq_true];exact⟨⟨y,b,by rw[bq'];omega⟩,⟨y,q,by rw[bq'];omega⟩⟩
  rw[p,Nat.zero_testBit]at m;cases m
theorem zx(a:Nat)(b:a<4096):(BitVec.ofInt 64 (a:Int)).toNat=a:=by
 rw[BitVec.ofInt_natCast,BitVec.toNat_ofNat];exact Nat.mod_eq_of_lt (by omega)
theorem Ql(a b:Nat)(d:a<4096)(c:b<4096):bits .and .i64 (a:Int) (b:Int)=((a &&& b:Nat):Int):=by
 have f:a &&& b<2 ^ 12:=Nat.and_lt_two_pow _ c;show IntKind.i64.wrap ((BitVec.ofInt 64 (a:Int) &&& BitVec.ofInt 64 (b:Int)).toNat:Int)=_
 rw[BitVec.toNat_and,zx a d,zx b c,IntKind.wrap_i64];omega
theorem Qn(a b:Nat)(c:a<4096)(d:b<4096):bits .or .i64 (a:Int) (b:Int)=((a ||| b:Nat):Int):=by
 have f:a ||| b<2 ^ 12:=Nat.or_lt_two_pow c d;show IntKind.i64.wrap ((BitVec.ofInt 64 (a:Int) ||| BitVec.ofInt 64 (b:Int)).toNat:Int)=_
 rw[BitVec.toNat_or,zx a c,zx b d,IntKind.wrap_i64];omega
theorem qW(a B:List Int)(b:InB a)(c:InB B)(m:Int)(d:m=(dY a:Nat)):(bits .and .i64 ((dY B:Nat):Int) m != 0)=eX a B:=by
 subst d;rw[Ql _ _ (BU B c) (BU a b),<- Qh a B b c,Bool.eq_iff_iff,bne_iff_ne,bne_iff_ne];omega
theorem Qi:∀n:Fin 64,n.val<=11->wrap64 (2 ^ n.val)=((2 ^ n.val:Nat):Int):=by decide+kernel
theorem Qo{k:Int}(a:0<=k)(b:k<=11):wrap64 (2 ^ k.toNat)=((2 ^ k.toNat:Nat):Int):=Qi ⟨k.toNat,by omega⟩ (by simp only;omega)
theorem GX{a b:Int}:∀{l:List Sp},valuesL a b l=true->a<=0->0<=b->∀c,a<=fG l c/\fG l c<=b
 |[],_,h0,h1,c=>⟨h0,h1⟩
 |s::r,h,h0,h1,c=>by
  simp only[valuesL,aQ,Bool.not_eq_true',oF',bf]at h;rw[fG];by_cases d:s.lo<=c/\c<=s.hi
  .rw[pP' d];omega
  .rw[nN' d];exact GX h.2 h0 h1 c
theorem zy{T:aj}(h:bC T=true)(c:Int):0<=jK T c/\jK T c<=11:=by
 simp only[bC,aQ]at h;have a:valuesB T=true:=by simp only[h]
 simp only[valuesB,cols,nN,aQ]at a;have b:=GX a.2.2.2.1 (by omega) (by omega) c;unfold jK kV;split
 .omega
 .split
  .unfold xu
   repeat' split
   all_goals omega
  .exact b
theorem BX{T:aj}(h:bC T=true)(l:List Int):InB (bM T l):=by
 intro x a;unfold bM at a;rw[List.mem_map]at a;obtain⟨c,_,rfl⟩:=a;exact zy h c
theorem GZ(k:Nat)(a:k<l.length):bM T (l.take (k+1))=bM T (l.take k)++[jK T l[k]]:=by
 unfold bM;rw[tS' a,List.map_append];rfl
theorem GY(B:List Int)(x:Int):lastB (B++[x])=if x=10 then lastB B else x:=by
 unfold lastB;rw[List.foldl_append];rfl
theorem Qj:∀B,InB B-> -1<=lastB B/\lastB B<=11/\lastB B≠10:=by
 refine BR (λ_=>by decide) (λB x a h=>?_);obtain⟨b,c,d⟩:=h.snoc;rw[GY];split
 .exact a b
 .omega
theorem H7{B:List Int}(h:InB B):InB (jI B):=by
 have:=Qj B h;unfold jI;split
 .intro x a;cases a
 .intro x a;rw[List.mem_singleton]at a;subst a;omega
theorem zA(k:Int)(b:0<=k)(c:k<=11)(w:World):cW' 241 #[.int .i64 k] w (.int .i64 ((2 ^ k.toNat:Nat):Int)):=by
 have a:=ah (Qo b c);have d:k<=64:=by omega
 go_enter func241,ntmps241;go_wp2;go_ret;exact⟨bG a.out,rfl⟩
theorem Qm(a b:Int)(w:World):cW' 240 #[.int .i64 a,.int .i64 b] w (.bool (bits .and .i64 a b != 0)):=by
 go_enter func240,ntmps240;go_wp2;go_ret;exact⟨rfl,rfl⟩
def Qk(T:aj)(w0:World)(l:List Int)(gh:Nat)(s5 s10:Value)(wx:World):Prop:=
 ∃(k:Nat),k+gh=l.length/\s10=.int .i64 k/\s5=.int .i64 ((dY (bM T (l.take k)):Nat):Int)/\Hid (Ext w0 wx)
theorem H6(ht:aN w t T)(I:au w ⟨A,n,c⟩ l)(p:bC T=true)(M:l.length<=4096):
 cE' 239 #[t.v,.slice A n c] w (.int .i64 ((dY (bM T l):Nat):Int)):=by
 have a:=dI w t;have r:=ah a;have N:=ah (ht.ay a);have O:=ah (I.ext a);have P:=ah (iR p);have Q:=ah λl=>BX p l
 have s:=ah λc=>zy p c
 have R:=I.len.1;subst R;have S:=ah M;clear ht I a M p;go_enter func239,ntmps239;go_wp2;go_loopg[5,10] l.length (λU V z W=>Qk T (tW' w t) l U V z W);exact⟨0,by omega,rfl,rfl,ah eR'⟩;obtain⟨k,X,rfl,rfl,f⟩:=hrel;have g:=r.out.trans' f.out;have J:=bT' t f.out;have Y:l.length<=4096:=S.out;by_cases h:k<l.length
 .obtain⟨B,rfl⟩:=gS' gk;obtain⟨b,o,rfl,a0⟩:=(O.out.ext f.out).at_ h;have HK:=ah (GZ T l k h);generalize l[k]=x at*;have a2:=z0' k;have a3:(k:Int)<(l.length:Int):=by omega
  have i:=s.out x;have C:=ah (BU _ (Q.out (l.take k)));have j:2 ^ (jK T x).toNat<4096:=Nat.pow_lt_pow_right (n:=12) (by decide) (by omega)
  have K:Hid (∀y:Int,y=jK T x->bits .or .i64 ((dY (bM T (l.take k)):Nat):Int) ((2 ^ y.toNat:Nat):Int)=((dY (bM T (l.take (k+1))):Nat):Int)):=ah (by
   rintro y rfl
   rw[Qn _ _ C.out j,HK.out,BQ])
  clear j g;go_wp2_with fail;refine(BO t T x wr (N.out.ay f.out) P.out).mono ?_;rintro e w3⟨rfl,m⟩;have D:=ah (f.out.trans' m);clear m J;obtain⟨q,E⟩:=eX' (jK T x);have ho:=K.out q E;rw[<- E]at i |-;clear E K;obtain⟨F,G⟩:=i;generalize dY (bM T (l.take k))=S1 at*;obtain⟨L,d⟩:∃L:Nat,L=dY (bM T (l.take (k+1))):=⟨_,rfl⟩;have H:=ah d;rw[<- d]at ho;clear d;go_wp2_with fail;refine(zA q F G w3).mono ?_;rintro e w4⟨rfl,rfl⟩;generalize((2 ^ q.toNat:Nat):Int)=P2 at*;go_wp2;go_roundg B;exact⟨k+1,by omega,by go_num,by rw[<- H.out],D⟩;omega
 .have HE:Hid (l.take k=l):=ah (tL' (by omega));clear J;go_wp2;go_ret;exact⟨by rw[HE.out];rfl,g⟩
def QC(T:aj)(w0:World)(l:List Int)(gh:Nat)(s5:Value)(wx:World):Prop:=
 gh<=l.length/\s5=.int .i64 ((gh:Int)-1)/\Hid (Ext w0 wx)/\Hid (lastB (bM T l)=lastB (bM T (l.take gh)))
theorem H9(x:Int):dY [x]=2 ^ x.toNat:=by
 unfold dY;simp
theorem Qp(ht:aN w t T)(M:au w ⟨A,n,c⟩ l)(N:bC T=true)(R:l.length<=4096):
 cE' 243 #[t.v,.slice A n c] w (.int .i64 ((dY (jI (bM T l)):Nat):Int)):=by
 have d:=dI w t;have g:=ah d;have S:=ah (ht.ay d);have U:=ah (M.ext d);have V:=ah (iR N);have z:=ah λc=>zy N c
 have W:=M.len.1;subst W;have X:=ah R;clear ht M d R N;have Y:l.length<=4096:=X.out;go_enter func243,ntmps243;go_wp2;go_loopg[5] l.length (λZ s5 wx=>QC T (tW' w t) l Z s5 wx);exact⟨lr' _,rfl,ah eR',ah (by rw[List.take_length])⟩;obtain⟨a2,rfl,i,B⟩:=hrel;have j:=g.out.trans' i.out;cases gk with
 |zero=>
  have C:Hid (dY (jI (bM T l))=0):=ah (by rw[jI,B.out];rfl);go_wp2;go_ret;exact⟨by rw[C.out];rfl,j⟩
 |succ k=>
  have m:k<l.length:=by omega
  have e0:((k+1:Nat):Int)-1=(k:Int):=by omega
  rw[e0];obtain⟨b,o,rfl,p⟩:=(U.out.ext i.out).at_ m;have D:Hid (lastB (bM T (l.take (k+1)))=if jK T l[k]=10 then lastB (bM T (l.take k))else jK T l[k]):=ah (by rw[GZ T l k m,GY]);generalize l[k]=x at*;have E:=z0' k;have a4:(k:Int)<(l.length:Int):=by omega
  have a5:decide ((0:Int)<=(k:Int))=true:=dt' E;have r:=z.out x;have rT:=λF:ak wr=>bT' t (i.out.trans' F.h)
  have rX:∀F:ak wr,F.w.cell? ⟨b,o+k,none⟩=some (.int .i64 x):=dJ p;have G:Hid (∀w',Ext wr w'->cE' 242 #[t.v,.int .i64 x] w' (.int .i64 (jK T x))):=ah (λw' h=>BO t T x w' (S.out.ay (i.out.trans' h)) V.out);obtain⟨q,O⟩:=eY' (jK T x);rw[O]at G D r;clear O;obtain⟨I,J⟩:=r;go_wp2_with fail;refine rX' ?_
  repeat(go_big_quiet_step((go_at_call 242;with_reducible exact aI (G.out _ (ak.h _)))))
  refine wpQuiet_nil ?_;rintro _⟨P,rfl⟩;clear rT rX p G;obtain⟨y,f⟩:=eX' P.w;have s:Hid (Ext _ y):=ah (by rw[f];exact i.out.trans' P.h);rw[<- f];clear f j;have K:=g.out.trans' s.out;by_cases a:q=10
  .have e1:(q != 10)=false:=by rw[a];rfl
   have L:=ah (B.out.trans (D.out.trans (pP' a)));clear a;go_wp2;go_roundg k;exact⟨by omega,by go_num,s,L⟩;omega
  .have e1:(q != 10)=true:=bN' a
   have C:Hid (dY (jI (bM T l))=2 ^ q.toNat):=ah (by
    have h1:=B.out.trans (D.out.trans (nN' a))
    rw[jI,h1,nN' (by omega),H9])
   clear a;go_wp2_with fail;refine(zA q I J y).mono ?_;rintro e w5⟨rfl,rfl⟩;generalize Q:((2 ^ q.toNat:Nat):Int)=P2 at*;have HP:=ah Q;clear Q;go_wp2;go_ret;exact⟨by rw[C.out,HP.out];rfl,K⟩
end Go.Proofs.YtpmgophlhmcogaaGreatDoor
