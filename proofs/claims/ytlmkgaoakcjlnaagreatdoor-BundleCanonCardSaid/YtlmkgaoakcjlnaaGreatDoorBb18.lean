/- Part Bb18. -/
import Derived.Test.YtlmkgaoakcjlnaaGreatDoorBb17
import Derived.Shelf.Strings.OnBuilder
import Derived.Lib.AppendZerosOnto
import Derived.Lib.Overlaps
open Go.Proofs.Tryz
namespace Go.Proofs.YtlmkgaoakcjlnaaGreatDoor
set_option maxHeartbeats 25600000
set_option maxRecDepth 100000
open Go.RowKit
def ltS:List Int->List Int->Bool
 |_,[]=>false
 |[],_::_=>true
 |a::r,b::s=>decide (a<b)||(a==b&&ltS r s)
theorem MV:∀l:List Int,ltS l l=false
 |[]=>rfl
 |a::r=>by simp[ltS,MV r]
theorem Vr:∀{a b c:List Int},ltS a b=true->ltS b c=true->ltS a c=true
 |_,[],_,h,_=>by simp[ltS]at h
 |_,_::_,[],_,h=>by simp[ltS]at h
 |[],_::_,_::_,_,_=>rfl
 |x::a,y::b,z::c,h,k=>by
  simp only[ltS,Bool.or_eq_true,au,aW,beq_iff_eq]at h k |-;rcases h with h|⟨rfl,h⟩<;>rcases k with k|⟨rfl,k⟩
  .exact .inl (by omega)
  .exact .inl h
  .exact .inl k
  .exact .inr ⟨rfl,Vr h k⟩
theorem Vs:∀{a b:List Int},ltS a b=false->ltS b a=false->a=b
 |[],[],_,_=>rfl
 |[],_::_,h,_=>by simp[ltS]at h
 |_::_,[],_,h=>by simp[ltS]at h
 |x::a,y::b,h,k=>by
  simp only[ltS,Bool.or_eq_false_iff,aA,Bool.and_eq_false_iff,aP]at h k;have e:x=y:=by omega
  subst e;rw[Vs (h.2.resolve_left (λh=>h rfl)) (k.2.resolve_left (λh=>h rfl))]
theorem aXx{a b:List Int}(h:ltS a b=true):ltS b a=false:=by
 cases k:ltS b a with
 |false=>rfl
 |true=>have:=Vr h k;rw[MV]at this;cases this
theorem aY9{a b:List Int}(h:ltS a b=true):a≠b:=λe=>by rw[e,MV]at h;cases h
theorem Vt:∀x y:List UInt8,Op.bytesLess x y=ltS (x.map λb=>(b.toNat:Int)) (y.map λb=>(b.toNat:Int))
 |_,[]=>by cases ‹List UInt8› <;>rfl
 |[],_::_=>rfl
 |a::x,b::y=>by
  have c:decide (a<b)=decide ((a.toNat:Int)<b.toNat):=by rw[decide_eq_decide,UInt8.lt_iff_toNat_lt];omega
  have d:(a==b)=((a.toNat:Int)==(b.toNat:Int)):=by
   by_cases e:a=b
   .subst e;simp
   .have:a.toNat≠b.toNat:=λh=>e (UInt8.toNat_inj.1 h)
    rw[beq_eq_false_iff_ne.2 e,beq_eq_false_iff_ne.2 (by omega)]
  simp only[Op.bytesLess,List.map_cons,ltS,Vt x y,c,d]
theorem aY7{a b:List Int}(c:IsB a)(d:IsB b):Op.bytesLess (sB a).toList (sB b).toList=ltS a b:=by
 rw[Vt,ByteArray.toList_eq,ByteArray.toList_eq];show ltS (nums (sB a)) (nums (sB b))=_
 rw[Fz c,Fz d]
abbrev Nm:=List Int × List Int × List Int
abbrev P3:=Nm × Nat
abbrev kyP(p:P3):List Int:=p.1.2.2
def sW(y:List Int)(L:List P3):Nat->Nat
 |0=>0
 |k+1=>if h:k<L.length then if ltS y (kyP L[k])=true then sW y L k else k+1 else k+1
def zL(L:List P3)(x:P3):List P3:=L.take (sW (kyP x) L L.length)++x::L.drop (sW (kyP x) L L.length)
def lS(l:List Nm):List P3:=l.zipIdx.foldl zL []
theorem aXv(l:List Nm)(x:Nm):lS (l++[x])=zL (lS l) (x,l.length):=by
 unfold lS;rw[List.zipIdx_append,List.foldl_append];simp
theorem aXj(L:List P3)(x:P3):(zL L x).Perm (x::L):=by
 unfold zL;have h:= @List.perm_middle _ x (L.take (sW (kyP x) L L.length)) (L.drop (sW (kyP x) L L.length));rwa[List.take_append_drop]at h
theorem Vu(l:List Nm):(lS l).Perm l.zipIdx:=by
 have:∀(z L:List P3),(z.foldl zL L).Perm (L++z):=by
  intro z
  induction z with
  |nil=>intro L;simp
  |cons x r ih=>
   intro L;refine(ih (zL L x)).trans ?_;have a:=(aXj L x).append_right r;exact a.trans (by rw[List.cons_append];exact List.perm_middle.symm)
 exact this l.zipIdx []
theorem aY1(l:List Nm):(lS l).length=l.length:=by rw[(Vu l).length_eq,List.length_zipIdx]
theorem aXh{l:List Nm}{p:P3}:p∈lS l↔l[p.2]? =some p.1:=by
 rw[(Vu l).mem_iff];obtain⟨x,i⟩:=p;rw[List.mem_zipIdx_iff_getElem?]
def AZ(L:List P3):Nat->Nat->Option P3
 |0,_=>none
 |g+1,i=>if h:i<L.length then if kyP L[i]=kyP L[i - 1]then some L[i]else AZ L g (i+1)else none
def ED(l:List Nm):Option P3:=AZ (lS l) (lS l).length 1
def oJ(T:aj)(l:List Int):List Int × Int:=if eP T l≠0 then([],eP T l)else if kN T (kF T l)≠0 then([],kN T (kF T l))else(kF T (qK T (kF T l)),eP T (qK T (kF T l)))
def kS(T:aj)(l:List Int):List Int × Int:=if(oJ T l).2≠0 then([],(oJ T l).2)else lM (oJ T l).1
theorem aYY(T:aj)(t:TV)(l:List Int)(A:Option Addr)(n c:Nat)(w:World)(ht:aV w t T)(X:aF w ⟨A,n,c⟩ l):
 Calls prog 92 #[t.v,.slice A n c] w (He w (oJ T l).1 (oJ T l).2):=by
 have f:=cZ w t;have g:=ah f;have q:=ah (ht.aB f);have M:=ah (JU T t l A n c (tW' w t) q.out (X.ext f));have J:Hid (oJ T l=if eP T l≠0 then([],eP T l)else if kN T (kF T l)≠0 then([],kN T (kF T l))else(kF T (qK T (kF T l)),eP T (qK T (kF T l)))):=rfl;generalize eP T l=E0 at*;generalize kF T l=R0 at*;generalize oJ T l=D at*;go_enter func92,ntmps92;go_wp2_with fail;refine M.out.mono ?_;rintro e K⟨B,m,d,rfl,h,r⟩;have i:=ah h;have s:=ah r;have Y:∀k:Nat,K.cell? ⟨w.heap.size,k,none⟩=t.v.cells[k]? :=aQ h;have x:=g.out.trans' h;by_cases o:E0=0
 case neg=>
  have N:(E0 != 0)=true:=bN' o;have b:=ah (J.out.trans (if_pos o));go_wp2;go_ret2;exact⟨none,0,0,by rw[b.out];rfl,x,by rw[b.out];exact aF.nil_ _⟩
 have j:=ah (J.out.trans (if_neg (by rw[o];simp)));have N:(E0 != 0)=false:=bZ' o;have y:=ah (aYb T t R0 B m d K (q.out.aB i.out) s.out);generalize kN T R0=E1 at*;generalize qK T R0=R1 at*;go_wp2_with fail;refine y.out.mono ?_;rintro e L⟨O,P,Q,rfl,z,C⟩;have a:=ah (i.out.trans' z);have E:=ah C;have Z:∀k:Nat,L.cell? ⟨w.heap.size,k,none⟩=t.v.cells[k]? :=aQ a.out;have F:=g.out.trans' a.out;by_cases p:E1=0
 case neg=>
  have R:(E1 != 0)=true:=bN' p;have b:=ah (j.out.trans (if_pos p));go_wp2;go_ret2;exact⟨none,0,0,by rw[b.out];rfl,F,by rw[b.out];exact aF.nil_ _⟩
 have b:=ah (j.out.trans (if_neg (by rw[p];simp)));have R:(E1 != 0)=false:=bZ' p;have y:=ah (JU T t R1 O P Q L (q.out.aB a.out) E.out);go_wp2_with fail;refine y.out.mono ?_;rintro e w3⟨S,U,V,rfl,G,H⟩;have I:=ah H;have W:=g.out.trans' (a.out.trans' G);go_wp2;go_ret2;exact⟨S,U,V,by rw[b.out];rfl,W,by rw[b.out];exact I.out⟩
theorem aYU(T:aj)(t:TV)(l:List Int)(A:Option Addr)(n c:Nat)(w:World)(ht:aV w t T)(X:aF w ⟨A,n,c⟩ l):
 Calls prog 65 #[t.v,.slice A n c] w (He w (oJ T l).1 (oJ T l).2):=by
 have f:=cZ w t;have g:=ah f;have q:=ah (ht.aB f);have M:=ah (Ib T t l A n c (tW' w t) q.out (X.ext f));have J:Hid (oJ T l=if eP T l≠0 then([],eP T l)else if kN T (kF T l)≠0 then([],kN T (kF T l))else(kF T (qK T (kF T l)),eP T (qK T (kF T l)))):=rfl;generalize eP T l=E0 at*;generalize kF T l=R0 at*;generalize oJ T l=D at*;go_enter func65,ntmps65;go_wp2_with fail;refine M.out.mono ?_;rintro e K⟨B,m,d,rfl,h,r⟩;have i:=ah h;have s:=ah r;have Y:∀k:Nat,K.cell? ⟨w.heap.size,k,none⟩=t.v.cells[k]? :=aQ h;have x:=g.out.trans' h;by_cases o:E0=0
 case neg=>
  have N:(E0 != 0)=true:=bN' o;have b:=ah (J.out.trans (if_pos o));go_wp2;go_ret2;exact⟨none,0,0,by rw[b.out];rfl,x,by rw[b.out];exact aF.nil_ _⟩
 have j:=ah (J.out.trans (if_neg (by rw[o];simp)));have N:(E0 != 0)=false:=bZ' o;have y:=ah (aYZ T t R0 B m d K (q.out.aB i.out) s.out);generalize kN T R0=E1 at*;generalize qK T R0=R1 at*;go_wp2_with fail;refine y.out.mono ?_;rintro e L⟨O,P,Q,rfl,z,C⟩;have a:=ah (i.out.trans' z);have E:=ah C;have Z:∀k:Nat,L.cell? ⟨w.heap.size,k,none⟩=t.v.cells[k]? :=aQ a.out;have F:=g.out.trans' a.out;by_cases p:E1=0
 case neg=>
  have R:(E1 != 0)=true:=bN' p;have b:=ah (j.out.trans (if_pos p));go_wp2;go_ret2;exact⟨none,0,0,by rw[b.out];rfl,F,by rw[b.out];exact aF.nil_ _⟩
 have b:=ah (j.out.trans (if_neg (by rw[p];simp)));have R:(E1 != 0)=false:=bZ' p;have y:=ah (Ib T t R1 O P Q L (q.out.aB a.out) E.out);go_wp2_with fail;refine y.out.mono ?_;rintro e w3⟨S,U,V,rfl,G,H⟩;have I:=ah H;have W:=g.out.trans' (a.out.trans' G);go_wp2;go_ret2;exact⟨S,U,V,by rw[b.out];rfl,W,by rw[b.out];exact I.out⟩
theorem aYd(T:aj)(t:TV)(l:List Int)(A:Option Addr)(n c:Nat)(w:World)(ht:aV w t T)(z:aF w ⟨A,n,c⟩ l):
 Calls prog 48 #[t.v,.slice A n c] w (xA w (kS T l)):=by
 have a:=cZ w t;have r:=ah (aYY T t l A n c (tW' w t) (ht.aB a) (z.ext a));have g:Hid (kS T l=if(oJ T l).2≠0 then([],(oJ T l).2)else lM (oJ T l).1):=rfl;generalize oJ T l=S at*;generalize kS T l=D at*;obtain⟨s,h⟩:=S;simp only[]at r g;go_enter func48,ntmps48;go_wp2_with fail;refine r.out.mono ?_;rintro e x⟨B,m,d,rfl,i,j⟩;have k:=ah j;have b:=a.trans' i;by_cases f:h=0
 case neg=>
  have y:(h != 0)=true:=bN' f;have o:=ah (g.out.trans (if_pos f));go_wp2;go_ret2;exact⟨by rw[o.out];rfl,b⟩
 have o:=ah (g.out.trans (if_neg (by rw[f];simp)));have y:(h != 0)=false:=bZ' f;go_wp2_with fail;refine(uenc_spec s B m d x k.out).mono ?_;rintro e C⟨rfl,p⟩;have q:=b.trans' p;go_wp2;go_ret2;exact⟨by rw[o.out];rfl,q⟩
theorem aYc(T:aj)(t:TV)(l:List Int)(A:Option Addr)(n c:Nat)(w:World)(ht:aV w t T)(z:aF w ⟨A,n,c⟩ l):
 Calls prog 22 #[t.v,.slice A n c] w (xA w (kS T l)):=by
 have a:=cZ w t;have r:=ah (aYU T t l A n c (tW' w t) (ht.aB a) (z.ext a));have g:Hid (kS T l=if(oJ T l).2≠0 then([],(oJ T l).2)else lM (oJ T l).1):=rfl;generalize oJ T l=S at*;generalize kS T l=D at*;obtain⟨s,h⟩:=S;simp only[]at r g;go_enter func22,ntmps22;go_wp2_with fail;refine r.out.mono ?_;rintro e x⟨B,m,d,rfl,i,j⟩;have k:=ah j;have b:=a.trans' i;by_cases f:h=0
 case neg=>
  have y:(h != 0)=true:=bN' f;have o:=ah (g.out.trans (if_pos f));go_wp2;go_ret2;exact⟨by rw[o.out];rfl,b⟩
 have o:=ah (g.out.trans (if_neg (by rw[f];simp)));have y:(h != 0)=false:=bZ' f;go_wp2_with fail;refine(DN s B m d x k.out).mono ?_;rintro e C⟨rfl,p⟩;have q:=b.trans' p;go_wp2;go_ret2;exact⟨by rw[o.out];rfl,q⟩
theorem aF.MF{w:World}{s z:SV}{l:List Int}(h:aF w s l){p:Addr}(c:w.cell? p=some z.v)(v:Value):aF (w.setCell p v) s l:=
 ⟨h.1,λi x d=>by
  obtain⟨b,o,f,a⟩:=h.2 i x d;refine⟨b,o,f,?_⟩;rw[World.cell?_setCell_other _ _ _ _ (λe=> ?_)]
  .exact a
  .subst e;rw[a]at c
   cases c⟩
structure LsP(w0 w:World)(g N C:Nat)(S:List SV)(ls:List (List Int)):Prop where
 own:AQ w w0.heap.size (some ⟨g,0,none⟩) N C S
 eq:S.length=N
 len:ls.length=N
 ok:∀(i:Nat)s x,S[i]? =some s->ls[i]? =some x->aF w s x
 ext:Ext w0 w
theorem Cj.lsp{a w:World}{A:Option Addr}{N C:Nat}{ls:List (List Int)}(h:Cj a w A N C ls)(l:Ext a w):∃g S,A=some ⟨g,0,none⟩/\LsP a w g N C S ls:=by
 obtain⟨g,S,rfl,b,c,d,f⟩:=h;exact⟨g,S,rfl,b,c,d,λi s x j k=>(f i s x j k).1,l⟩
theorem LsP.aB{b w w':World}{g N C:Nat}{S:List SV}{ls:List (List Int)}(h:LsP b w g N C S ls)(a:Ext w w'):LsP b w' g N C S ls:=
 ⟨Own.ext h.own a,h.eq,h.len,λi s x c d=>(h.ok i s x c d).ext a,h.ext.trans' a⟩
theorem LsP.lists{l w:World}{g N C:Nat}{S:List SV}{ls:List (List Int)}(h:LsP l w g N C S ls):pq w ⟨some ⟨g,0,none⟩,N,C⟩ ls:=by
 obtain⟨j,k⟩:=Own.le h.own;have m:=h.eq;have d:=h.len;refine⟨⟨d.symm,by rw[d];exact j,k⟩,λi x f=> ?_⟩;have o:=(List.getElem?_eq_some_iff.1 f).1;have b:i<S.length:=by omega
 refine⟨g,0,S[i].a,S[i].n,S[i].c,rfl,?_,h.ok i S[i] x (List.getElem?_eq_getElem b) f⟩;have:=World.ownsRow.cellAt h.own i (by simp;omega);rw[Nat.zero_add,this,List.getElem?_map,List.getElem?_eq_getElem b];rfl
theorem LsP.set{m w:World}{g N C:Nat}{S:List SV}{ls:List (List Int)}(h:LsP m w g N C S ls){i:Nat}(q:i<N){z:SV}{x:List Int}(p:aF w z x):LsP m (w.setCell ⟨g,i,none⟩ z.v) g N C (S.set i z) (ls.set i x):=by
 have n:=h.eq;have o:=h.len;have c:i<S.length:=by omega
 have d:=Own.lt h.own g rfl;have k:w.cell? ⟨g,i,none⟩=some (S[i]).v:=by
  have:=World.ownsRow.cellAt h.own i (by simp;omega);rw[this,List.getElem?_map,List.getElem?_eq_getElem c];rfl
 have f:=World.ownsRow.stored h.own i z.v;refine⟨?_,by simp[n],by simp[o],λj s y a b=> ?_,h.ext.kD d.1 _⟩
 .have:=f.1;unfold AQ Own;rw[List.map_set];exact this
 .by_cases l:j=i
  .subst l;rw[List.getElem?_set_self (by omega)]at a b;injection a with a;injection b with b;subst a b;exact p.MF k _
  .rw[List.getElem?_set_ne (λe=>l e.symm)]at a b;exact(h.ok j s y a b).MF k _
noncomputable def lQ(T:aj):Int->List (List Int)->Option (Int × Int)
 |_,[]=>none
 |i,l::r=>if(gU T l).2≠0 then some (i,(gU T l).2)else lQ T (i+1) r
noncomputable def vC(T:aj)(L:List (List Int)):List (List Int) × Int × Int:=
 match lQ T 0 L with
 |some p=>([],p)
 |none=>if uw T (L.map λl=>(gU T l).1)≠0 then([],vw T (L.map λl=>(gU T l).1),uw T (L.map λl=>(gU T l).1))else(L.map λl=>(gU T l).1,0,0)
noncomputable def dR(T:aj)(s:List Int):List (List Int) × Int × Int:=
 if bY T=false then([],0,2)else if s.length=0 then([],0,10)else if(gG s).2.2≠0 then([],(gG s).2.1,(gG s).2.2)
 else if jI T (gG s).1≠0 then([],pG T (gG s).1,jI T (gG s).1)else if eP T (kZ T (gG s).1)≠0 then([],0,eP T (kZ T (gG s).1))
 else vC T (mP (kU T (kZ T (gG s).1)))
def H7(w:World)(d:List (List Int) × Int × Int)(e:Ending)(w':World):Prop:=∃A n c,e= .returned (.tuple #[.slice A n c,.int .i64 d.2.1,.int .i64 d.2.2])/\pq w' ⟨A,n,c⟩ d.1/\Ext w w'
theorem qp(w:World):pq w ⟨none,0,0⟩ []:=⟨⟨rfl,Nat.le_refl _,by simp only[maxLen];omega⟩,λi x a=>by simp at a⟩
theorem UQ{T:aj}{L:List (List Int)}{k:Nat}(a:k<L.length):lQ T k (L.drop k)=if(gU T L[k]).2≠0 then some ((k:Int),(gU T L[k]).2)else lQ T ((k+1:Nat):Int) (L.drop (k+1)):=by
 rw[drop_at L k a];rfl
theorem MG{T:aj}{l:List Int}(h:(gU T l).2=0):gQ T (gU T l).1=0:=by
 unfold gU at h |-;split at h
 .exact absurd h ‹_›
 .split at h
  .exact absurd h ‹_›
  .rename_i b a;rw[if_neg b,if_neg a];exact Decidable.not_not.1 a
theorem Ew{T:aj}{l:List Int}(h:gQ T l=0):aX T l=0:=by
 unfold gQ at h;split at h
 .rename_i a;exact absurd h a
 .rename_i a;exact Decidable.not_not.1 a
theorem Me:∀(r:List Int)(L:List (List Int))(cur:List Int),(lbG L cur r).length<=L.length+1+r.length
 |[],L,cur=>by simp[lbG]
 |c::r,L,cur=>by
  unfold lbG;split
  .have:=Me r (L++[cur]) [];simp at this |-;omega
  .have:=Me r L (cur++[c]);simp at this |-;omega
theorem MB:∀(r:List Int)(L:List (List Int))(cur:List Int)(x:List Int),x∈lbG L cur r->x∈L\/x.length<=cur.length+r.length
 |[],L,cur,x,h=>by
  unfold lbG at h;rw[List.mem_append,List.mem_singleton]at h;rcases h with h|rfl
  .exact .inl h
  .exact .inr (Nat.le_refl _)
 |c::r,L,cur,x,h=>by
  unfold lbG at h;split at h
  .rcases MB r _ _ x h with a|a
   .rw[List.mem_append,List.mem_singleton]at a;rcases a with a|rfl
    .exact .inl a
    .exact .inr (by simp)
   .exact .inr (by simp at a |-;omega)
  .rcases MB r _ _ x h with a|a
   .exact .inl a
   .exact .inr (by simp at a |-;omega)
theorem MC(l:List Int):(mP l).length<=l.length+1:=by
 have:=Me l [] [];unfold mP;simp at this;omega
theorem UM{l x:List Int}(h:x∈mP l):x.length<=l.length:=by
 rcases MB l [] [] x h with a|a
 .cases a
 .simpa using a
theorem AX{T:aj}{L:List (List Int)}{p:Int × Int}(h:lQ T 0 L=some p):vC T L=([],p):=by
 unfold vC;rw[h]
theorem GY{T:aj}{L:List (List Int)}(h:lQ T 0 L=none):vC T L=if uw T (L.map λl=>(gU T l).1)≠0 then([],vw T (L.map λl=>(gU T l).1),uw T (L.map λl=>(gU T l).1))else(L.map λl=>(gU T l).1,0,0):=by
 unfold vC;rw[h]
theorem GX{T:aj}:∀{L:List (List Int)}{i:Int},lQ T i L=none->∀l∈L,(gU T l).2=0
 |[],_,_,l,a=>by cases a
 |x::r,i,h,l,a=>by
  unfold lQ at h;split at h
  .cases h
  .rename_i b;rcases List.mem_cons.1 a with rfl|a
   .exact Decidable.not_not.1 b
   .exact GX h l a
theorem UO{α β:Type}(f:α->β)(L:List α)(M:List β)(e:M.length=L.length)(k:Nat)(a:k<L.length)(h:M.take k=(L.take k).map f):(M.set k (f L[k])).take (k+1)=(L.take (k+1)).map f:=by
 rw[List.take_succ_eq_append_getElem a,List.map_append,List.take_succ_eq_append_getElem (by simp[e,a]),List.take_set_of_le (Nat.le_refl _),h];simp
def PrL(T:aj)(w0 wb:World)(g N C:Nat)(L:List (List Int))(gh:Nat)(s53:Value)(wx:World):Prop:=
 ∃(k:Nat)(S:List SV)(M:List (List Int)),k+gh=N/\s53= .int .i64 k/\Hid (LsP w0 wx g N C S M)/\Hid (M.take k=(L.take k).map λl=>(gU T l).1)/\Hid (M.drop k=L.drop k)/\Hid (lQ T k (L.drop k)=lQ T 0 L)/\Hid (Ext wb wx)
theorem UN(T:aj)(t:TV)(s:List Int)(w:World)(ht:aV w t T)(hs:IsB s):Calls prog 46 #[t.v,.string (sB s)] w (H7 w (dR T s)):=by
 have a1:=cZ w t;have p:=ah a1;have HT:=ah (ht.aB a1);have HC:=ah (Wj t T (tW' w t) HT.out)
 have HD:Hid (dR T s=if bY T=false then([],0,2)else if s.length=0 then([],0,10)else if(gG s).2.2≠0 then([],(gG s).2.1,(gG s).2.2)
  else if jI T (gG s).1≠0 then([],pG T (gG s).1,jI T (gG s).1)else if eP T (kZ T (gG s).1)≠0 then([],0,eP T (kZ T (gG s).1))
  else vC T (mP (kU T (kZ T (gG s).1)))):=rfl
 generalize dR T s=D at*;clear ht a1;by_cases hw:bY T=false
 .have i:=ah (HD.out.trans (if_pos hw));have q:(lT T != 0)=true:=by rw[bne_iff_ne];exact λh=>by have:=(Bd T).1 h;rw[hw]at this;cases this
  clear hw HD hs;go_enter func46,ntmps46;go_wp2_with fail;refine HC.out.mono ?_;rintro e w1⟨rfl,j⟩;have G:=p.out.trans' j;clear j;go_wp2;go_ret3;exact⟨none,0,0,by rw[i.out];rfl,by rw[i.out];exact qp _,G⟩
 have K:=ah (HD.out.trans (if_neg hw));rw[(Bd T).2 (by cases h:bY T;exact absurd h hw;rfl)]at HC;have HW:Hid (bY T=true):=ah (by cases h:bY T;exact absurd h hw;rfl);clear HD hw;have a3:=xG s;by_cases h0:s.length=0
 .have i:=ah (K.out.trans (if_pos h0));rw[List.eq_nil_of_length_eq_zero h0,show([]:List Int).isEmpty=true from rfl]at a3;rw[List.eq_nil_of_length_eq_zero h0];clear K h0 hs;go_enter func46,ntmps46;go_wp2_with fail;refine HC.out.mono ?_;rintro e w1⟨rfl,j⟩;have G:=p.out.trans' j;clear j;go_wp2;go_ret3;exact⟨none,0,0,by rw[i.out];rfl,by rw[i.out];exact qp _,G⟩
 have H:=ah (K.out.trans (if_neg h0));rw[show s.isEmpty=false from by cases s with|nil=>exact absurd rfl h0|cons a b=>rfl]at a3;clear K h0;have HU:Hid (∀w':World,Calls prog 80 #[.string (sB s)] w' (GV w' (gG s))):=ah λw'=>udec_spec s hs w'
 clear hs;generalize gG s=V at*;obtain⟨l,di,de⟩:=V;simp only[]at H;go_enter func46,ntmps46;go_wp2_with fail;refine HC.out.mono ?_;rintro e w1⟨rfl,j⟩;have b9:=ah j;clear j HC;go_wp2_with fail;refine(HU.out w1).mono ?_;rintro e w2⟨A,n,c,rfl,ag,ai⟩;have O:=ah (b9.out.trans' ai);have a5:=ah ag;have al:=p.out.trans' O.out;simp only[]at a5;clear ai ag HU a3;by_cases f:de=0
 case neg=>
  have i:=ah (H.out.trans (if_pos f));have q:(de != 0)=true:=bN' f;clear f H;go_wp2;go_ret3;exact⟨none,0,0,by rw[i.out];rfl,by rw[i.out];exact qp _,al⟩
 have P:=ah (H.out.trans (if_neg (by rw[f];simp)));have q:(de != 0)=false:=bZ' f;have rT:∀k:Nat,w2.cell? ⟨w.heap.size,k,none⟩=t.v.cells[k]? :=aQ O.out;clear H al;go_wp2_with fail;refine(aPl T t l A n c w2 (HT.out.aB O.out) a5.out).mono ?_;rintro e w3⟨A3,n3,c3,rfl,am,an⟩;have Q:=ah (O.out.trans' am);have ao:=ah an;have ap:=p.out.trans' Q.out;clear am an rT q f;generalize jI T l=me at*;generalize pG T l=mi at*;generalize kZ T l=ml at*;by_cases f:me=0
 case neg=>
  have i:=ah (P.out.trans (if_pos f));have q:(me != 0)=true:=bN' f;clear f P;go_wp2;go_ret3;exact⟨none,0,0,by rw[i.out];rfl,by rw[i.out];exact qp _,ap⟩
 have R:=ah (P.out.trans (if_neg (by rw[f];simp)));have q:(me != 0)=false:=bZ' f;have rT:∀k:Nat,w3.cell? ⟨w.heap.size,k,none⟩=t.v.cells[k]? :=aQ Q.out;clear P ap;go_wp2_with fail;refine(VX T t ml A3 n3 c3 w3 (HT.out.aB Q.out) ao.out).mono ?_;rintro e w4⟨A4,n4,c4,rfl,aq,ar⟩;have a7:=ah (Q.out.trans' aq);have av:=ah ar
 have aw:Hid (eP T ml=0->(kU T ml).length<=4096):=ah (λh=>by
  have h2:=(zY h).2;have h3:=I4 (T:=T) ml;rw[kU,if_pos h]
  omega)
 have ax:=p.out.trans' a7.out;clear aq ar rT q f;generalize eP T ml=ne at*;generalize kU T ml=nl at*;by_cases f:ne=0
 case neg=>
  have i:=ah (R.out.trans (if_pos f));have q:(ne != 0)=true:=bN' f;clear f R;go_wp2;go_ret3;exact⟨none,0,0,by rw[i.out];rfl,by rw[i.out];exact qp _,ax⟩
 have ay:=ah (R.out.trans (if_neg (by rw[f];simp)));have q:(ne != 0)=false:=bZ' f;have yK:=ah (aw.out f);clear R ax f aw;go_wp2_with fail;refine(aMw nl A4 n4 c4 w4 av.out (by have:=yK.out;omega)).mono ?_;rintro e w5⟨A5,N,C,rfl,az,a8⟩;obtain⟨g,S5,rfl,a9⟩:=az.lsp a8;have bC:=ah (a7.out.trans' a8);have aD:=ah a9;have ba:Hid ((mP nl).length<=5000):=ah (by have:=MC nl;have:=yK.out;omega);have bb:Hid (∀x∈mP nl,x.length<=4096):=ah (λx G=>by have:=UM G;have:=yK.out;omega);have aE:(mP nl).length=N:=a9.len;clear a8 az a9 yK av ao a5 q;generalize mP nl=L at*;have bq:N<=5000:=by have:=ba.out;omega
 have U:=ah aE;clear aE;go_wp2;go_loopg[53] N (λgh bc wx=>PrL T w4 (tW' w t) g N C L gh bc wx);exact⟨0,S5,L,by omega,rfl,aD,ah rfl,ah rfl,ah rfl,bC⟩;obtain⟨k,S,M,br,rfl,W,X,Y,r,HB⟩:=hrel;clear aD;by_cases hk:k<N
 .obtain⟨bd,rfl⟩:=gS' gk;have I:k<L.length:=by have:=U.out;omega
  have Z:k<M.length:=by have:=W.out.len;omega
  have aL:M[k]=L[k]:=by
   have f:=Y.out;rw[drop_at M k Z,drop_at L k I]at f;exact(List.cons.inj f).1
  have aM:M.drop (k+1)=L.drop (k+1):=by
   have f:=Y.out;rw[drop_at M k Z,drop_at L k I]at f;exact(List.cons.inj f).2
  have aR:M.length=L.length:=by have:=W.out.len;have:=U.out;omega
  obtain⟨b,o,za,zn,zc,hA,aa,hz⟩:=W.out.lists.at_ Z;injection hA with hA;injection hA with bh bi;subst bh bi;rw[aL]at hz;rw[Nat.zero_add]at aa;have a0:=ah (UQ (T:=T) I);have bj:=ah (bb.out _ (List.getElem_mem I));have HZ:=ah hz;have aZ:Hid (∀y,y=(gU T L[k]).1->(M.set k y).take (k+1)=(L.take (k+1)).map λl=>(gU T l).1):=ah (λy hy=>by rw[hy];exact UO (λl=>(gU T l).1) L M aR k I X.out);have b0:Hid (∀y,(M.set k y).drop (k+1)=L.drop (k+1)):=ah (λy=>by rw[List.drop_set_of_lt (by omega)];exact aM);clear hz aL aM aR X Y Z;generalize L[k]=x at*;have bk:wr.frozen? ⟨g,k,none⟩=false:=World.ownsRow.frozenAt W.out.own k;have bs:=z0' k;have bt:(k:Int)<(N:Int):=by omega
  have rT:∀k:Nat,wr.cell? ⟨w.heap.size,k,none⟩=t.v.cells[k]? :=aQ HB.out;go_wp2_with fail;go_region_law((go_simp;go_at_call 84;refine(aR3 T t x za zn zc _ (HT.out.aB (HB.out.trans' (Ext.refl _).dL)) (HZ.out.ext (Ext.refl _).dL) bj.out).mono ?_;rintro e w6⟨B,m,d,rfl,tZ,E⟩;have iU:Hid (Ext wr w6):=ah ((Ext.refl _).dL.trans' E);have uQ:=ah tZ;have F:=ah (W.out.aB iU.out);have bu:w6.frozen? ⟨g,k,none⟩=false:=World.ownsRow.frozenAt F.out.own k;have bv:=bD (bH iU.out) aa;clear E tZ))
  all_goals
   have bl:=ah (F.out.set hk (z:=⟨B,m,d⟩) (x:=(gU T x).1) uQ.out);have rF:Hid (Ext (tW' w t) (w6.setCell ⟨g,k,none⟩ (.slice B m d))):=ah ((HB.out.trans' iU.out).kD (Nat.le_trans a7.out.b.size (Own.lt F.out.own g rfl).1) _);have bm:=ah (aZ.out _ rfl);have bn:=ah (b0.out (gU T x).1);clear rT bk aa uQ F aZ b0;generalize(gU T x).1=y at*;generalize(gU T x).2=ev at*;by_cases f:ev=0
   .have q:(ev != 0)=false:=bZ' f;have bo:=ah ((a0.out.trans (if_neg (by rw[f];simp))).symm.trans r.out);clear f a0 r;go_wp2;go_roundg bd;exact⟨k+1,S.set k ⟨B,m,d⟩,M.set k y,by omega,by go_num,bl,bm,bn,bo,rF⟩;omega
   .have q:(ev != 0)=true:=bN' f;have i:=ah (ay.out.trans (AX (r.out.symm.trans (a0.out.trans (if_pos f)))));have G:=p.out.trans' rF.out;clear f a0 r;go_wp2;go_ret3;exact⟨none,0,0,by rw[i.out];rfl,by rw[i.out];exact qp _,G⟩
 .have bp:k=N:=by omega
  subst bp
  have ab:Hid (M=L.map λl=>(gU T l).1):=ah (by
   have f:=X.out;have h2:=U.out;have h3:=W.out.len
   rwa[List.take_of_length_le (by omega),List.take_of_length_le (by omega)]at f)
  have ac:Hid (lQ T 0 L=none):=ah (by
   have h2:=U.out;rw[<- r.out,List.drop_of_length_le (by omega)]
   rfl)
  have DX:Hid (∀l∈M,aX T l=0):=ah (λl hl=>by
   rw[ab.out,List.mem_map]at hl;obtain⟨x,G,rfl⟩:=hl
   exact Ew (MG (GX ac.out x G)))
  have J:=ah (ay.out.trans (GY ac.out));rw[<- ab.out]at J;have b1:=ah (aQT T t M _ _ _ wr (HT.out.aB HB.out) W.out.lists HW.out DX.out (by have:=W.out.len;omega));have rT:∀k:Nat,wr.cell? ⟨w.heap.size,k,none⟩=t.v.cells[k]? :=aQ HB.out;clear X Y r ac DX ab;go_wp2_with fail;refine b1.out.mono ?_;rintro e w6⟨rfl,E⟩;have F:=ah (W.out.aB E);have G:=p.out.trans' (HB.out.trans' E);clear rT E b1;generalize vw T M=dmi at*;generalize uw T M=dme at*;by_cases f:dme=0
  .have q:(dme != 0)=false:=bZ' f;have i:=ah (J.out.trans (if_neg (by rw[f];simp)));clear f J;go_wp2;go_ret3;exact⟨_,_,_,by rw[i.out];rfl,by rw[i.out];exact F.out.lists,G⟩
  .have q:(dme != 0)=true:=bN' f;have i:=ah (J.out.trans (if_pos f));clear f J;go_wp2;go_ret3;exact⟨none,0,0,by rw[i.out];rfl,by rw[i.out];exact qp _,G⟩
def Tv:TypeDesc->Bool
 | .struct _=>true
 | .array _ _=>true
 |_=>false
theorem sS{P:Program}{t:TypeId}{b:Bool}(h:(P.underlying t).map Tv=some b):∀w,(isAgg t).run P w= .ok b w:=λw=>by
 cases a:P.underlying t with
 |none=>rw[a]at h;cases h
 |some d=>
  rw[a]at h;have h:Tv d=b:=by simpa using h
  subst h;simp only[isAgg,Sem.run_bind,run_underlying a,Result.andThen_ok];cases d<;>rfl
theorem sU{P:Program}{t:TypeId}{n:Nat}(h:(P.info? t).map (·.size)=some n):∀w,(Go.sizeOf t).run P w= .ok n w:=λw=>by
 cases a:P.info? t with
 |none=>rw[a]at h;cases h
 |some i=>
  rw[a]at h;have h:i.size=n:=by simpa using h
  simp[Go.sizeOf,typeInfo,a,h]
theorem sV{P:Program}{t:TypeId}{z:Value}(h:(P.info? t).map (·.zero)=some (some z)):∀w,(zeroValue t).run P w= .ok z w:=λw=>by
 cases a:P.info? t with
 |none=>rw[a]at h;cases h
 |some i=>
  rw[a]at h;have h:i.zero=some z:=by simpa using h
  simp[zeroValue,typeInfo,a,h]
def rnJ:Go.Shelf.Ren:=⟨λx=>if x=156 then 205 else if x=165 then 262 else if x=166 then 263 else if x=169 then 264 else if x=240 then 286 else if x=241 then 287 else if x=276 then 305 else 306,λx=>if x=0 then 0 else if x=3 then 3 else if x=4 then 4 else if x=9 then 9 else if x=20 then 20 else if x=31 then 29 else if x=37 then 95 else if x=70 then 210 else if x=72 then 212 else if x=75 then 215 else if x=76 then 216 else if x=127 then 228 else if x=164 then 232 else if x=5 then 5 else 218,λx=>x⟩
theorem aNs:Lays.n156 prog rnJ where
 mixed:=by kernel_rfl
 f156:=func205.trans (by kernel_rfl)
 f165:=func262.trans (by kernel_rfl)
 f166:=func263.trans (by kernel_rfl)
 f169:=func264.trans (by kernel_rfl)
 f240:=func286.trans (by kernel_rfl)
 f241:=func287.trans (by kernel_rfl)
 f276:=func305.trans (by kernel_rfl)
 f277:=func306.trans (by kernel_rfl)
 t0:=by kernel_rfl
 a0:=sS (by kernel_rfl)
 z0:=sU (by kernel_rfl)
 v0:=sV (by kernel_rfl)
 t3:=by kernel_rfl
 a3:=sS (by kernel_rfl)
 z3:=sU (by kernel_rfl)
 v3:=sV (by kernel_rfl)
 t4:=by kernel_rfl
 a4:=sS (by kernel_rfl)
 z4:=sU (by kernel_rfl)
 v4:=sV (by kernel_rfl)
 t9:=by kernel_rfl
 a9:=sS (by kernel_rfl)
 z9:=sU (by kernel_rfl)
 v9:=sV (by kernel_rfl)
 t20:=by kernel_rfl
 a20:=sS (by kernel_rfl)
 z20:=sU (by kernel_rfl)
 v20:=sV (by kernel_rfl)
 t31:=by kernel_rfl
 a31:=sS (by kernel_rfl)
 z31:=sU (by kernel_rfl)
 v31:=sV (by kernel_rfl)
 t37:=by kernel_rfl
 a37:=sS (by kernel_rfl)
 z37:=sU (by kernel_rfl)
 v37:=sV (by kernel_rfl)
 t70:=by kernel_rfl
 a70:=sS (by kernel_rfl)
 z70:=sU (by kernel_rfl)
 v70:=sV (by kernel_rfl)
 t72:=by kernel_rfl
 a72:=sS (by kernel_rfl)
 z72:=sU (by kernel_rfl)
 v72:=sV (by kernel_rfl)
 t75:=by kernel_rfl
 a75:=sS (by kernel_rfl)
 z75:=sU (by kernel_rfl)
 v75:=sV (by kernel_rfl)
 t76:=by kernel_rfl
 a76:=sS (by kernel_rfl)
 z76:=sU (by kernel_rfl)
 v76:=sV (by kernel_rfl)
 t127:=by kernel_rfl
 a127:=sS (by kernel_rfl)
 z127:=sU (by kernel_rfl)
 v127:=sV (by kernel_rfl)
 t164:=by kernel_rfl
 a164:=sS (by kernel_rfl)
 z164:=sU (by kernel_rfl)
 v164:=sV (by kernel_rfl)
theorem aNq:Builder.Extra prog rnJ where
 sizeBuilder:=by kernel_rfl
 liesBuilder:=by kernel_rfl
 t5:=by kernel_rfl
 a5:=sS (by kernel_rfl)
 z5:=sU (by kernel_rfl)
 v5:=sV (by kernel_rfl)
 infoByte:=by kernel_rfl
 cellsByte:=by kernel_rfl
 sizeByte:=by kernel_rfl
 neB5:=by decide
def toU(l:List Int):List UInt8:=l.map λn=>UInt8.ofNat n.toNat
theorem TA:∀r:List (List Int),Lib.joinTail (toU [46]) (r.map toU)=toU (jnG false r)
 |[]=>rfl
 |x::r=>by
  have h:=TA r;unfold Lib.joinTail at h |-;rw[List.map_cons,List.map_cons,List.flatten_cons,h];show _=toU ((46::x)++jnG false r)
  unfold toU;simp
theorem join_eq{ls:List (List Int)}(h:ls≠[]):(⟨(Lib.join ((ls.map sB).map (·.data.toList)) (⟨#[46]⟩:ByteArray).data.toList).toArray⟩:ByteArray)=sB (jnL ls):=by
 cases ls with
 |nil=>exact absurd rfl h
 |cons x r=>
  have a:((x::r).map sB).map (·.data.toList)=toU x::r.map toU:=by
   simp only[List.map_cons,List.map_map];rfl
  have b:(⟨#[46]⟩:ByteArray).data.toList=toU [46]:=rfl;rw[a,b,Lib.join_cons,TA];refine FH _ _ ?_;show toU x++toU (jnG false r)=_
  unfold toU;rw[<- List.map_append];rfl
theorem aO5(ls:List (List Int))(A:Option Addr)(n c:Nat)(w:World)(q:rH w ⟨A,n,c⟩ ls)(N:ls.length<=1000000):Calls prog 140 #[.slice A n c] w (xA w (oI ls)):=by
 have i:Hid (oI ls=if(jm ls).2≠0 then([],(jm ls).2)else(jnL ls,0)):=rfl;have z:=ah (Tj ls A n c w q N);have d:=ah (@LG ls);generalize oI ls=D at*;generalize jm ls=C at*;obtain⟨O,B⟩:=C;have E:n=ls.length:=q.1.1;subst E;simp only at i d;by_cases r:B=0
 case neg=>
  rw[if_pos r]at i;go_enter func140,ntmps140;go_wp2_with fail;refine z.out.mono ?_;rintro e F⟨k,rfl⟩;unfold IE2 at k;subst k;go_wp2;go_ret2;exact⟨by rw[i.out];rfl,Ext.refl _⟩
 rw[if_neg (by rw[r];simp)]at i;subst r;obtain⟨l,_,G,_⟩:=d.out rfl;have a:=List.length_pos_iff.2 l;obtain⟨b,o,rfl,m⟩:=q.at_ a;have p:=World.block_lt_of_cell? w _ m;have f:=join_eq l
 have g:=Any.strings_Join (P:=prog) aNs aNq b o c (ls.map sB) ⟨#[46]⟩ w (λj x h=>by
  rw[List.getElem?_map]at h;cases s:ls[j]? with
  |none=>rw[s]at h;cases h
  |some y=>
   rw[s]at h;simp only[Option.map_some,Option.some.injEq]at h;subst h;obtain⟨H,I,e,t⟩:=q.2 j y s;have e:some (⟨b,o,none⟩:Addr)=some ⟨H,I,none⟩:=e;injection e with e;injection e with J K;subst J K
   exact t) p (by rw[List.length_map];omega) (by rw[List.length_map];exact q.1.2.1) (by
  have:=congrArg ByteArray.size f;rw[uh]at this;have e:(⟨(Lib.join ((ls.map sB).map (·.data.toList)) (⟨#[46]⟩:ByteArray).data.toList).toArray⟩:ByteArray).size=(Lib.join ((ls.map sB).map (·.data.toList)) (⟨#[46]⟩:ByteArray).data.toList).length:=by simp[ByteArray.size]
  omega)
 rw[f,List.length_map]at g;have L:=ah g;clear g f d m a p;go_enter func140,ntmps140;go_wp2_with fail;refine z.out.mono ?_;rintro e F⟨k,rfl⟩;unfold IE2 at k;subst k;go_wp2_with fail;refine L.out.mono ?_;rintro e Q⟨rfl,M⟩;go_wp2;go_ret2;exact⟨by rw[i.out];rfl,M⟩
abbrev rJ(w:World)(base:Nat)(A:Option Addr)(n c:Nat)(ls:List (List Int)):Prop:=Own w base 9 1 A n c (ls.map λx=>Value.string (sB x))
theorem infoSt:(prog.info? 9).map (λi=>(i.zero,i.size,i.bytes))=some (some (.string ⟨#[]⟩),1,16):=by kernel_rfl
theorem rJ.sts{w:World}{a n c:Nat}{A:Option Addr}{ls:List (List Int)}(h:rJ w a A n c ls):rH w ⟨A,n,c⟩ ls:=by
 have d:=Own.len h;simp only[List.length_map,Nat.mul_one]at d;obtain⟨f,g⟩:=Own.le h;refine⟨⟨d.symm,by rw[d];exact f,g⟩,λi x j=> ?_⟩;obtain⟨b,rfl,k⟩:=Own.qc h i (.string (sB x)) (by simp[j]);exact⟨b,0,rfl,by simpa using k⟩
theorem MI{w:World}{a n c:Nat}{A:Option Addr}{ls:List (List Int)}(k:rJ w a A n c ls)(x:List Int)(p:n<=1000000)(f:a<=w.heap.size):
 ∃A' c' w',(∀ty,(Builtin.append_ #[29,29] ty #[.slice A n c,.slice (some ⟨w.heap.size,0,none⟩) 1 1]).run prog (w.alloc (.cells #[.string (sB x)] 9))= .ok (.slice A' (n+1) c') w')/\rJ w' a A' (n+1) c' (ls++[x])/\
  (w.alloc (.cells #[.string (sB x)] 9)).grownBy w' (aG A):=by
 have g:Ext w (w.alloc (.cells #[.string (sB x)] 9)):=(Ext.refl _).aC _;obtain⟨A',o,w',h,d,l,_⟩:=Ad (T:=29) underlying29 infoSt rfl (by omega) (Own.ext k g) (some ⟨w.heap.size,0,none⟩) 1 1 [.string (sB x)] rfl
  (λj u i=>by
   refine⟨w.heap.size,0,rfl,?_⟩;rw[Nat.zero_add,World.cell?_alloc_new]
   match j,i with
   |0,i=>simpa using i
   |j+1,i=>simp at i)
  (by intro u m;simp at m;subst m;rfl) (by simp only[maxLen];omega) (by omega) (Nat.le_trans f g.b.size)
 exact⟨A',o,w',h,by unfold rJ;rw[List.map_append];exact d,l⟩
noncomputable def og:Int->List (List Int)->Option (Int × Int)
 |_,[]=>none
 |i,l::r=>if(alE l).2≠0 then some (i,(alE l).2)else og (i+1) r
theorem UR{L:List (List Int)}{k:Nat}(a:k<L.length):og k (L.drop k)=if(alE L[k]).2≠0 then some ((k:Int),(alE L[k]).2)else og ((k+1:Nat):Int) (L.drop (k+1)):=by
 rw[drop_at L k a];rfl
noncomputable def vF(L:List (List Int)):List Int × Int × Int:=match og 0 L with
 |some q=>([],q)
 |none=>if(jm (L.map λl=>(alE l).1)).2≠0 then([],jm (L.map λl=>(alE l).1))else((oI (L.map λl=>(alE l).1)).1,0,(oI (L.map λl=>(alE l).1)).2)
noncomputable def eY(T:aj)(s:List Int):List Int × Int × Int:=if(dR T s).2.2≠0 then([],(dR T s).2)else vF (dR T s).1
theorem Ez{L:List (List Int)}{q:Int × Int}(h:og 0 L=some q):vF L=([],q):=by
 unfold vF;rw[h]
theorem Ey{L:List (List Int)}(h:og 0 L=none):vF L=if(jm (L.map λl=>(alE l).1)).2≠0 then([],jm (L.map λl=>(alE l).1))else((oI (L.map λl=>(alE l).1)).1,0,(oI (L.map λl=>(alE l).1)).2):=by
 unfold vF;rw[h]
theorem aSC{T:aj}{L:List (List Int)}(h:(vC T L).2.2=0):(vC T L).1=L.map (λl=>(gU T l).1)/\∀l∈L,(gU T l).2=0:=by
 cases a:lQ T 0 L with
 |some p=>
  exfalso;rw[AX a]at h;have:∀(L:List (List Int))(i:Int)(p:Int × Int),lQ T i L=some p->p.2≠0:=by
   intro L
   induction L with
   |nil=>intro i p h;cases h
   |cons x r ih=>
    intro i p h;unfold lQ at h;split at h
    .injection h with h;subst h;assumption
    .exact ih _ _ h
  exact this L 0 p a h
 |none=>
  rw[GY a]at h |-;split at h
  .exact absurd h ‹_›
  .rename_i b;rw[if_neg b];exact⟨rfl,GX a⟩
theorem AY{T:aj}{s:List Int}(h:(dR T s).2.2=0):(dR T s).1.length<=5000/\∀l∈(dR T s).1,gQ T l=0/\l.length<=4096:=by
 unfold dR at h |-;split at h
 .cases h
 split at h
 .cases h
 split at h
 .exact absurd h ‹_›
 split at h
 .exact absurd h ‹_›
 split at h
 .exact absurd h ‹_›
 rename_i f g i j b;rw[if_neg f,if_neg g,if_neg i,if_neg j,if_neg b];obtain⟨k,m⟩:=aSC h;have c:=Decidable.not_not.1 b;have p:=(zY c).2;have q:=I4 (T:=T) (kZ T (gG s).1);have r:(kU T (kZ T (gG s).1)).length<=4096:=by rw[kU,if_pos c];omega
 have n:=MC (kU T (kZ T (gG s).1));rw[k];refine⟨by rw[List.length_map];omega,λl d=> ?_⟩;rw[List.mem_map]at d;obtain⟨x,o,rfl⟩:=d;have a:=MG (m x o);exact⟨a,Et (Ew a)⟩
def aSJ(w:World)(L:List (List Int))(d:List Int × Int × Int)(e:Ending)(w':World):Prop:=∃A n c,e= .returned (.tuple #[.slice A n c,.string (sB d.1),.int .i64 d.2.1,.int .i64 d.2.2])/\(d.2.2=0->pq w' ⟨A,n,c⟩ L)/\Ext w w'
def AsL(wb:World)(L:List (List Int))(gh:Nat)(s11 s32:Value)(wx:World):Prop:=
 ∃(k:Nat)(A:Option Addr)(c:Nat),k+gh=L.length/\s32= .int .i64 k/\s11= .slice A k c/\Hid (rJ wx wb.heap.size A k c ((L.take k).map λl=>(alE l).1))/\Hid (og k (L.drop k)=og 0 L)/\Hid (Ext wb wx)
theorem UY(T:aj)(t:TV)(s:List Int)(w:World)(ht:aV w t T)(hs:IsB s):Calls prog 76 #[t.v,.string (sB s)] w (aSJ w (dR T s).1 (eY T s)):=by
 have F:=cZ w t;have q:=ah F;have HP:=ah (UN T t s (tW' w t) (ht.aB F) hs);have S:Hid (eY T s=if(dR T s).2.2≠0 then([],(dR T s).2)else vF (dR T s).1):=rfl;have G:=ah (@AY T s);generalize eY T s=D at*;generalize dR T s=Y at*;obtain⟨L,pi,pe⟩:=Y;simp only[]at S G |-;clear ht F hs;go_enter func76,ntmps76;go_wp2_with fail;refine HP.out.mono ?_;rintro e w1⟨A,n,c,rfl,U,H⟩;have I:=ah H;have r:=ah U;have V:=q.out.trans' H;simp only[]at r;clear H U HP;by_cases a:pe=0
 case neg=>
  have p:=ah (S.out.trans (if_pos a));have e1:(pe != 0)=true:=bN' a;have f:=ah a;clear a S;go_wp2_with fail
  (try simp only[Exit.inBlock,Exit.then]);refine bodyPost_ret (results_tmp4 rfl _ _ _) rfl ?_
  exact⟨none,0,0,by rw[p.out];rfl,λh=>absurd (by rw[p.out]at h;exact h) f.out,V⟩
 have W:=ah (S.out.trans (if_neg (by rw[a];simp)));have e1:(pe != 0)=false:=bZ' a;have HO:=ah (G.out a);have hn:=r.out.len.1;subst hn;have hm:L.length<=5000:=HO.out.1;clear a S G V;go_wp2;go_loopg[11,32] L.length (λgh a4 a5 wx=>AsL w1 L gh a4 a5 wx);exact⟨0,none,0,by omega,rfl,rfl,ah (Own.nil_ _ _ _ _),ah rfl,ah (Ext.refl _)⟩;obtain⟨k,A2,c2,aE,rfl,rfl,z,d,J⟩:=hrel;have N:=q.out.trans' (I.out.trans' J.out);by_cases R:k<L.length
 .obtain⟨a6,rfl⟩:=gS' gk;obtain⟨b,o,za,zn,zc,rfl,b0,hz⟩:=(r.out.ext J.out).at_ R;have g:=ah (UR R);have X:Hid (((L.take (k+1)).map λl=>(alE l).1)=((L.take k).map λl=>(alE l).1)++[(alE L[k]).1]):=ah (by rw[List.take_succ_eq_append_getElem R,List.map_append];rfl);have HE:=ah (Sv L[k] za zn zc wr hz (by have:=(HO.out.2 _ (List.getElem_mem R)).2;omega));clear hz N;generalize L[k]=x at*;generalize alE x=Y at*;obtain⟨y,ev⟩:=Y;simp only[]at g X;have b2:=z0' k;have b3:(k:Int)<(L.length:Int):=by omega
  go_wp2_with fail;refine HE.out.mono ?_;rintro e w2⟨rfl,Z⟩;have i:=ah Z;clear Z;by_cases a:ev=0
  .have e2:(ev != 0)=false:=bZ' a;have aa:=ah ((g.out.trans (if_neg (by rw[a];simp))).symm.trans d.out);obtain⟨A5,c5,w5,C,j,E⟩:=MI (Own.ext z.out i.out) y (by omega) (J.out.trans' i.out).b.size;have a0:Ext w2 (w2.alloc (.cells #[.string (sB y)] 9)):=(Ext.refl _).aC _;have bJ:Hid (rJ w5 w1.heap.size A5 (k+1) c5 ((L.take (k+1)).map λl=>(alE l).1)):=ah (by rw[X.out];exact j);have bC:Hid (Ext w1 w5):=ah (dU ((J.out.trans' i.out).trans' a0) E (λk R=>(Own.lt (Own.ext z.out i.out) k R).1));clear j E a0 a g d;go_wp2_with(at_builtin;refine dH rfl _ _ _ rfl _ _ rfl rfl _ _ C ?_);clear C;go_roundg a6;exact⟨k+1,A5,c5,by omega,by go_num,rfl,bJ,aa,bC⟩;omega
  .have e2:(ev != 0)=true:=bN' a;have p:=ah (W.out.trans (Ez (d.out.symm.trans (g.out.trans (if_pos a)))));have hx:=q.out.trans' (I.out.trans' (J.out.trans' i.out));have f:=ah a;clear a g d;go_wp2_with fail
   (try simp only[Exit.inBlock,Exit.then]);refine bodyPost_ret (results_tmp4 rfl _ _ _) rfl ?_
   exact⟨none,0,0,by rw[p.out];rfl,λh=>absurd (by rw[p.out]at h;exact h) f.out,hx⟩
 .have ac:k=L.length:=by omega
  subst ac;have a1:Hid (og 0 L=none):=ah (by rw[<- d.out,List.drop_of_length_le (by omega)];rfl);have P:=ah (W.out.trans (Ey a1.out));have B:=rJ.sts z.out;rw[List.take_length]at B;have ad:=ah (Tj _ _ _ _ wr B (by rw[List.length_map];omega));have ae:=ah (aO5 _ _ _ _ wr B (by rw[List.length_map];omega));have af:Hid ((jm (L.map λl=>(alE l).1)).2=0->(oI (L.map λl=>(alE l).1)).2=0):=ah (λh=>by unfold oI;rw[if_neg (by rw[h];simp)]);have ag:=ah (r.out.ext J.out);clear B z d a1;generalize(L.map λl=>(alE l).1)=O at*;generalize jm O=K at*;generalize oI O=M at*;obtain⟨ki,ke⟩:=K;obtain⟨m,me⟩:=M;simp only[]at P af;go_wp2_with fail;refine ad.out.mono ?_;rintro e w2⟨he,rfl⟩;unfold IE2 at he;subst he;simp only[];by_cases a:ke=0
  .have e2:(ke != 0)=false:=bZ' a;have p:=ah (P.out.trans (if_neg (by rw[a];simp)));clear a N;go_wp2_with fail;refine ae.out.mono ?_;rintro e w3⟨rfl,Q⟩;have hx:=q.out.trans' (I.out.trans' (J.out.trans' Q));have al:=ah (ag.out.ext Q);clear Q;go_wp2_with fail
   (try simp only[Exit.inBlock,Exit.then]);refine bodyPost_ret (results_tmp4 rfl _ _ _) rfl ?_
   exact⟨_,_,_,by rw[p.out];rfl,λ_=>al.out,hx⟩
  .have e2:(ke != 0)=true:=bN' a;have p:=ah (P.out.trans (if_pos a));have f:=ah a;clear a;go_wp2_with fail
   (try simp only[Exit.inBlock,Exit.then]);refine bodyPost_ret (results_tmp4 rfl _ _ _) rfl ?_
   exact⟨none,0,0,by rw[p.out];rfl,λh=>absurd (by rw[p.out]at h;exact h) f.out,N⟩
def zI(w:World)(d:List Int × Int × Int)(e:Ending)(w':World):Prop:=e= .returned (.tuple #[.string (sB d.1),.int .i64 d.2.1,.int .i64 d.2.2])/\Ext w w'
theorem aSS(T:aj)(t:TV)(s:List Int)(w:World)(ht:aV w t T)(g:IsB s):Calls prog 44 #[t.v,.string (sB s)] w (zI w (eY T s)):=by
 have a:=cZ w t;have h:=ah (UY T t s (tW' w t) (ht.aB a) g);generalize eY T s=D at*;clear ht g;go_enter func44,ntmps44;go_wp2_with fail;refine h.out.mono ?_;rintro e i⟨A,n,c,rfl,d,b⟩;have f:=a.trans' b;clear b d;go_wp2;go_ret3;exact⟨rfl,f⟩
theorem UU:∀(f:Bool)(ls:List (List Int)),(∀x∈ls,x.length<=4096)->(jnG f ls).length<=4097*ls.length
 |_,[],_=>by simp[jnG]
 |f,x::r,h=>by
  have b:=UU false r λy a=>h y (List.mem_cons_of_mem _ a)
  have c:=h x (List.mem_cons_self ..);unfold jnG;rw[List.length_append];have d:(if f=true then x else 46::x).length<=4097:=by
   split
   .omega
   .simp;omega
  simp only[List.length_cons];omega
theorem aSU{L:List (List Int)}(h:(vF L).2.2=0):L.length<=127:=by
 cases a:og 0 L with
 |some q=>
  exfalso;rw[Ez a]at h;have:∀(L:List (List Int))(i:Int)(p:Int × Int),og i L=some p->p.2≠0:=by
   intro L
   induction L with
   |nil=>intro i p h;cases h
   |cons x r ih=>
    intro i p h;unfold og at h;split at h
    .injection h with h;subst h;assumption
    .exact ih _ _ h
  exact this L 0 q a h
 |none=>
  rw[Ey a]at h;split at h
  .exact absurd h ‹_›
  .rename_i b;have:=(LG (Decidable.not_not.1 b)).2.1;rwa[List.length_map]at this
noncomputable def uniD(T:aj)(s:List Int):List Int × Int × Int:=if(eY T s).2.2≠0 then([],(eY T s).2)else((lM (jnL (dR T s).1)).1,0,(lM (jnL (dR T s).1)).2)
theorem UW{T:aj}{s:List Int}(h:(eY T s).2.2=0):(jnL (dR T s).1).length<=1000000:=by
 unfold eY at h;split at h
 .exact absurd h ‹_›
 .rename_i a;have c:=aSU h;have d:=UU true (dR T s).1 λx b=>((AY (Decidable.not_not.1 a)).2 x b).2
  unfold jnL;omega
theorem aSW(T:aj)(t:TV)(s:List Int)(w:World)(ht:aV w t T)(B:IsB s):Calls prog 45 #[t.v,.string (sB s)] w (zI w (uniD T s)):=by
 have d:=cZ w t;have C:=ah (UY T t s (tW' w t) (ht.aB d) B);have f:Hid (uniD T s=if(eY T s).2.2≠0 then([],(eY T s).2)else((lM (jnL (dR T s).1)).1,0,(lM (jnL (dR T s).1)).2)):=rfl;have l:=ah (@UW T s);generalize uniD T s=V at*;generalize eY T s=D at*;generalize(dR T s).1=L at*;obtain⟨m,K,o⟩:=D;simp only[]at f l;clear ht B;go_enter func45,ntmps45;go_wp2_with fail;refine C.out.mono ?_;rintro e E⟨A,n,c,rfl,a,g⟩;have h:=d.trans' g;simp only[]at a;clear g;by_cases b:o=0
 .have p:=ah (a b);have q:=ah (l.out b);have r:=ah (f.out.trans (if_neg (by rw[b];simp)));have F:(o != 0)=false:=bZ' b;clear b a f l;go_wp2_with fail;refine(aNA L A n c E p.out q.out).mono ?_;rintro e G⟨H,I,J,rfl,i,j⟩;have x:=ah i;have y:=h.trans' j;clear i j;go_wp2_with fail;refine(uenc_spec (jnL L) H I J G x.out).mono ?_;rintro e M⟨rfl,k⟩;have z:=y.trans' k;clear k;go_wp2;go_ret3;exact⟨by rw[r.out];rfl,z⟩
 .have r:=ah (f.out.trans (if_pos b));have F:(o != 0)=true:=bN' b;clear b a f l;go_wp2;go_ret3;exact⟨by rw[r.out];rfl,h⟩
theorem Eu(T:aj)(t:TV)(l:List Int)(A:Option Addr)(n c:Nat)(b:World)(ht:aV b t T)(g:aF b ⟨A,n,c⟩ l)(i:bY T=true)(j:l.length<=4096)(ks:List Int)(d:ks.length<=1000):∀w',Ext b w'->
 Calls prog 196 #[t.v,.slice A n c,.slice (some ⟨w'.heap.size,0,none⟩) ks.length ks.length] (w'.alloc (.cells (ks.map (Value.int .i64)).toArray 3)) λe w''=>e= .returned (.bool (dN ks (cO T l)))/\Ext w' w'':=λw' h=>by
 have a:Ext w' (w'.alloc (.cells (ks.map (Value.int .i64)).toArray 3)):=(Ext.refl _).aC _;exact(aQX T t l ks A n c _ _ _ _ (ht.aB (h.trans' a)) (g.ext (h.trans' a)) i j (aQW w' ks d) (by omega)).mono λe w'' f=>⟨f.1,a.trans' f.2⟩
theorem aQh(T:aj)(t:TV)(l:List Int)(A:Option Addr)(n c:Nat)(w:World)(ht:aV w t T)(j:aF w ⟨A,n,c⟩ l)(g:aX T l=0):
 Calls prog 127 #[t.v,.slice A n c] w λe w'=>e= .returned (.bool (mQ T l))/\Ext w w':=by
 have a:=cZ w t;have h:=ah a;have m:=ah (ht.aB a);have o:=ah (j.ext a);have r:=j.len.1;subst r;have s:=ah (qA g).1;have x:=ah (Et g);have p:=ah (rW t T l A _ c _ m.out o.out);rw[g]at p;have y:Hid (∀w',Ext (tW' w t) w'->Calls prog 196 #[t.v,.slice A l.length c,.slice (some ⟨w'.heap.size,0,none⟩) 3 3] (w'.alloc (.cells #[.int .i64 1,.int .i64 2,.int .i64 3] 3)) λe i=>e= .returned (.bool (dN [1,2,3] (cO T l)))/\Ext w' i):=ah (Eu T t l A l.length c _ m.out o.out s.out x.out [1,2,3] (by decide));have z:Hid (mQ T l=dN [1,2,3] (cO T l)):=rfl;generalize dN [1,2,3] (cO T l)=b1 at*;clear ht j a g;go_enter func127,ntmps127;go_wp2_with fail;refine p.out.mono ?_;rintro e q⟨rfl,b⟩;have d:=ah b;have B:∀k:Nat,q.cell? ⟨w.heap.size,k,none⟩=t.v.cells[k]? :=aQ b;clear b;go_wp2_with fail;refine(y.out q d.out).mono ?_;rintro e D⟨rfl,f⟩;have C:=(h.out.trans' d.out).trans' f;clear B f;go_wp2;go_ret;exact⟨by rw[z.out];rfl,C⟩
theorem aQm(q:Int):dN [1,2] [q]=((q==1)||(q==2)):=by
 rw[Bool.eq_iff_iff];simp only[dN,List.any_cons,List.any_nil,Bool.or_false,Bool.or_eq_true,beq_iff_eq];omega
theorem any0(q:Int):dN [0] [q]=(q==0):=by
 rw[Bool.eq_iff_iff];simp only[dN,List.any_cons,List.any_nil,Bool.or_false,beq_iff_eq];omega
theorem aQo(B:List Int):dN [1,2,3,4] (mD B)=((lastB B==1)||((lastB B==2)||((lastB B==4)||(lastB B==3)))):=by
 unfold mD;generalize lastB B=z;rw[Bool.eq_iff_iff];split
 .rename_i h;subst h;decide
 .simp only[dN,List.any_cons,List.any_nil,Bool.or_false,Bool.or_eq_true,beq_iff_eq];omega
theorem aQn(B:List Int):dN [0,4] (mD B)=((lastB B==0)||(lastB B==4)):=by
 unfold mD;generalize lastB B=z;rw[Bool.eq_iff_iff];split
 .rename_i h;subst h;decide
 .simp only[dN,List.any_cons,List.any_nil,Bool.or_false,Bool.or_eq_true,beq_iff_eq];omega
theorem UG(T:aj)(t:TV)(l:List Int)(A:Option Addr)(n c:Nat)(w:World)(ht:aV w t T)(hi:aF w ⟨A,n,c⟩ l)(m:aX T l=0):
 Calls prog 128 #[t.v,.slice A n c] w λe w'=>e= .returned (.tuple #[.int .i64 (vk (cO T l)),.int .i64 0])/\Ext w w':=by
 have s:=cZ w t;have f:=ah s;have y:=ah (ht.aB s);have B:=ah (hi.ext s);have hn:=hi.len.1;subst hn;have D:=ah (qA m).1;have E:=ah (Et m);have HO:=ah (rW t T l A _ c _ y.out B.out);rw[m]at HO;clear ht hi s m;by_cases K:0<l.length
 .have C:=ah (UA T l K);have af:(0:Int)<(l.length:Int):=by omega
  have ag:l.length<=4096:=E.out;have e0:((l.length:Int)==0)=false:=bF';obtain⟨b,o,hA,F⟩:=B.out.at_ K;rw[Nat.add_zero]at F;have C2:Hid (∀w',Ext (tW' w t) w'->Calls prog 196 #[t.v,.slice A l.length c,.slice (some ⟨w'.heap.size,0,none⟩) 2 2] (w'.alloc (.cells #[.int .i64 0,.int .i64 11] 3)) λe a=>e= .returned (.bool (dN [0,11] (cO T l)))/\Ext w' a):=ah (Eu T t l A l.length c _ y.out B.out D.out E.out [0,11] (by decide));have C4:Hid (∀w',Ext (tW' w t) w'->Calls prog 196 #[t.v,.slice A l.length c,.slice (some ⟨w'.heap.size,0,none⟩) 1 1] (w'.alloc (.cells #[.int .i64 4] 3)) λe a=>e= .returned (.bool (dN [4] (cO T l)))/\Ext w' a):=ah (Eu T t l A l.length c _ y.out B.out D.out E.out [4] (by decide));have C5:Hid (∀w',Ext (tW' w t) w'->Calls prog 196 #[t.v,.slice A l.length c,.slice (some ⟨w'.heap.size,0,none⟩) 1 1] (w'.alloc (.cells #[.int .i64 3] 3)) λe a=>e= .returned (.bool (dN [3] (cO T l)))/\Ext w' a):=ah (Eu T t l A l.length c _ y.out B.out D.out E.out [3] (by decide));have C7:Hid (∀w',Ext (tW' w t) w'->Calls prog 196 #[t.v,.slice A l.length c,.slice (some ⟨w'.heap.size,0,none⟩) 4 4] (w'.alloc (.cells #[.int .i64 1,.int .i64 2,.int .i64 3,.int .i64 11] 3)) λe a=>e= .returned (.bool (dN [1,2,3,11] (cO T l)))/\Ext w' a):=ah (Eu T t l A l.length c _ y.out B.out D.out E.out [1,2,3,11] (by decide));have L:Hid (∀w',Ext (tW' w t) w'->Calls prog 198 #[t.v,.int .i64 l[0]] w' λe a=>e= .returned (.int .i64 (fJ T l[0]))/\Ext w' a):=ah (λw' h=>LH t T l[0] w' (y.out.aB h) (LZ D.out));have fU:Hid (∀w',Ext (tW' w t) w'->Calls prog 197 #[t.v,.slice A l.length c] w' λe a=>e= .returned (.int .i64 (lastB (cO T l)))/\Ext w' a):=ah (λw' h=>aQS T t l A _ c w' (y.out.aB h) (B.out.ext h) D.out E.out);subst hA;have M:=ah (aQm (fJ T l[0]));have N:=ah (any0 (fJ T l[0]));have O:=ah (aQo (cO T l));have P:=ah (aQn (cO T l));generalize l[0]=x0 at*;generalize fJ T x0=q at*;generalize lastB (cO T l)=z at*;generalize dN [1,2] [q]=b1 at*;generalize dN [0,11] (cO T l)=b2 at*;generalize dN [1,2,3,4] (mD (cO T l))=b3 at*;generalize dN [4] (cO T l)=b4 at*;generalize dN [3] (cO T l)=b5 at*;generalize dN [0] [q]=b6 at*;generalize dN [1,2,3,11] (cO T l)=b7 at*;generalize dN [0,4] (mD (cO T l))=b8 at*;generalize vk (cO T l)=R at*;clear y B D E;go_enter func128,ntmps128;go_wp2_with fail;refine HO.out.mono ?_;rintro e w1⟨rfl,i⟩;have Q:=ah i;have d:∀k:Nat,w1.cell? ⟨w.heap.size,k,none⟩=t.v.cells[k]? :=aQ i;clear i HO;go_wp2_with fail;refine(fU.out w1 Q.out).mono ?_;rintro e w2⟨rfl,S⟩;have x:=ah (Q.out.trans' S);have U:=bD (bH x.out) F;have V:Hid (∀w',Ext w2 w'->Calls prog 198 #[t.v,.int .i64 x0] w' λe a=>e= .returned (.int .i64 q)/\Ext w' a):=ah (λw' h=>L.out w' (x.out.trans' h));clear S d F fU L;have d:∀W:ak w2,∀k:Nat,W.w.cell? ⟨w.heap.size,k,none⟩=t.v.cells[k]? :=λW=>aQ (x.out.trans' W.h)
  have rX:∀W:ak w2,W.w.cell? ⟨b,o,none⟩=some (.int .i64 x0):=dD U;go_wp2_with fail;refine rX' ?_
  repeat(go_big_quiet_step((go_at_call 198;with_reducible exact aS (V.out _ (ak.h _)))))
  refine wpQuiet_nil ?_;rintro _⟨yw,rfl⟩;clear d rX U V;obtain⟨H,G⟩:=eX' yw.w;have j:Hid (Ext (tW' w t) H):=ah (by rw[G];exact x.out.trans' yw.h);rw[<- G];clear G;have d:∀k:Nat,H.cell? ⟨w.heap.size,k,none⟩=t.v.cells[k]? :=aQ j.out;cases b1
  case true=>
   have hq:(q==1)=true\/((q==1)=false/\(q==2)=true):=by
    have:=M.out;cases h1:(q==1)
    .rw[h1,Bool.false_or]at this;exact .inr ⟨rfl,this.symm⟩
    .exact .inl rfl
   rcases hq with q1|⟨q1,q2⟩
   all_goals
    go_wp2_with fail;refine(C2.out H j.out).mono ?_;rintro e w5⟨rfl,p⟩;have r:=ah (j.out.trans' p);clear d p;have d:∀k:Nat,w5.cell? ⟨w.heap.size,k,none⟩=t.v.cells[k]? :=aQ r.out;cases b2
    case true=>
     have g:=f.out.trans' r.out;clear d;go_wp2;go_ret2;exact⟨by rw[C.out];rfl,g⟩
    cases b3
    case false=>
     have m:z≠1/\z≠2/\z≠4/\z≠3:=by
      have h:=O.out.symm;simp only[Bool.or_eq_false_iff,aP]at h;exact h
     obtain⟨I,X,J,z3⟩:=m;have e1:(z != 1)=true:=bN' I;have e2:(z != 2)=true:=bN' X;have e4:(z != 4)=true:=bN' J;have e3:(z != 3)=true:=bN' z3;clear I X J z3;have g:=f.out.trans' r.out;clear d;go_wp2;go_ret2;exact⟨by rw[C.out];rfl,g⟩
    have m:(z != 1)=false\/((z != 1)=true/\(z != 2)=false)\/((z != 1)=true/\(z != 2)=true/\(z != 4)=false)\/((z != 1)=true/\(z != 2)=true/\(z != 4)=true/\(z != 3)=false):=by
     have h:=O.out.symm;simp only[Bool.or_eq_true,beq_iff_eq]at h;simp only[bne_iff_ne,bne_eq_false_iff_eq];omega
    rcases m with I|⟨I,X⟩|⟨I,X,J⟩|⟨I,X,J,z3⟩
    all_goals
     go_wp2_with fail;refine(C4.out w5 r.out).mono ?_;rintro e w6⟨rfl,Y⟩;have jC:=ah (r.out.trans' Y);clear d Y;have d:∀k:Nat,w6.cell? ⟨w.heap.size,k,none⟩=t.v.cells[k]? :=aQ jC.out;cases b4
     case false=>
      have g:=f.out.trans' jC.out;clear d;go_wp2;go_ret2;exact⟨by rw[C.out];rfl,g⟩
     go_wp2_with fail;refine(C5.out w6 jC.out).mono ?_;rintro e w7⟨rfl,Z⟩;have rF:=ah (jC.out.trans' Z);clear d Z;have d:∀k:Nat,w7.cell? ⟨w.heap.size,k,none⟩=t.v.cells[k]? :=aQ rF.out;cases b5
     all_goals
      have g:=f.out.trans' rF.out;clear d;go_wp2;go_ret2;exact⟨by rw[C.out];rfl,g⟩
  have hq:(q==1)=false/\(q==2)=false:=by
   have h:=M.out.symm;rwa[Bool.or_eq_false_iff]at h
  obtain⟨q1,q2⟩:=hq;cases b6
  case false=>
   have q0:(q==0)=false:=N.out.symm;have g:=f.out.trans' j.out;clear d;go_wp2;go_ret2;exact⟨by rw[C.out];rfl,g⟩
  have q0:(q==0)=true:=N.out.symm;go_wp2_with fail;refine(C7.out H j.out).mono ?_;rintro e w5⟨rfl,p⟩;have r:=ah (j.out.trans' p);clear d p;have d:∀k:Nat,w5.cell? ⟨w.heap.size,k,none⟩=t.v.cells[k]? :=aQ r.out;cases b7
  case true=>
   have g:=f.out.trans' r.out;clear d;go_wp2;go_ret2;exact⟨by rw[C.out];rfl,g⟩
  cases b8
  case false=>
   have m:(z != 0)=true/\(z != 4)=true:=by
    have h:=P.out.symm;simp only[Bool.or_eq_false_iff,aP]at h;simp only[bne_iff_ne];exact h
   obtain⟨z0,J⟩:=m;have g:=f.out.trans' r.out;clear d;go_wp2;go_ret2;exact⟨by rw[C.out];rfl,g⟩
  have m:(z != 0)=false\/((z != 0)=true/\(z != 4)=false):=by
   have h:=P.out.symm;simp only[Bool.or_eq_true,beq_iff_eq]at h;simp only[bne_iff_ne,bne_eq_false_iff_eq];omega
  rcases m with z0|⟨z0,J⟩
  all_goals
   have g:=f.out.trans' r.out;clear d;go_wp2;go_ret2;exact⟨by rw[C.out];rfl,g⟩
 .have h0:l=[]:=List.eq_nil_of_length_eq_zero (by omega);subst h0;go_enter func128,ntmps128;go_wp2_with fail;refine HO.out.mono ?_;rintro e w1⟨rfl,i⟩;have g:=f.out.trans' i;clear i;go_wp2;go_ret2;exact⟨rfl,g⟩
theorem aQk(B:List Int):0<=vk B:=by
 unfold vk;split
 .omega
 .unfold LX
  repeat' split
  all_goals omega
theorem aQj(T:aj)(t:TV)(ls:List (List Int))(A:Option Addr)(n c:Nat)(w:World)(ht:aV w t T)(hi:pq w ⟨A,n,c⟩ ls)(hw:bY T=true)(g:∀l∈ls,aX T l=0)(hm:ls.length<=1000000):
 Calls prog 64 #[t.v,.slice A n c] w (UD w T ls):=by
 have q:=cZ w t;have D:=ah q;have X:=ah (ht.aB q);have HI:=ah (hi.ext q);have HW:=ah hw;have HZ:=ah g;have HM:=ah hm;have hn:=hi.len.1;subst hn;clear ht hi q hw g hm;go_enter func64,ntmps64;go_wp2;go_loopg[6,16] ls.length (λL s6 a2 M=>UF T (tW' w t) ls L s6 a2 M);exact⟨0,by omega,rfl,rfl,ah (Ext.refl _)⟩;obtain⟨k,N,rfl,rfl,d⟩:=hrel;have s:∀k:Nat,wr.cell? ⟨w.heap.size,k,none⟩=t.v.cells[k]? :=aQ d.out;have ae:ls.length<=1000000:=HM.out;by_cases j:k<ls.length
 .obtain⟨f,rfl⟩:=gS' gk;obtain⟨b,o,H,I,J,rfl,P,g⟩:=(Cm HI.out d.out).at_ j;have Q:=ah g;have Y:=ah (Md (mQ T) ls k j);have R:=ah (HZ.out _ (List.getElem_mem j));clear g;generalize ls[k]=x at*;have HO:=ah (rW t T x H I J wr (X.out.aB d.out) Q.out);rw[R.out]at HO;have S:=z0' k;have U:(k:Int)<(ls.length:Int):=by omega
  go_wp2_with fail;refine HO.out.mono ?_;rintro e w1⟨rfl,E⟩;have y:=ah (d.out.trans' E);have jL:=ah E;clear s E HO;have s:∀k:Nat,w1.cell? ⟨w.heap.size,k,none⟩=t.v.cells[k]? :=aQ y.out;have gI:=ah (aQh T t x H I J w1 (X.out.aB y.out) (Q.out.ext jL.out) R.out);generalize mQ T x=p at*;cases m:(ls.take k).any (mQ T)
  .rw[m]at Y;clear m;go_wp2_with fail;refine gI.out.mono ?_;rintro e w2⟨rfl,a⟩;have i:=ah (y.out.trans' a);clear a s;go_wp2;go_roundg f;exact⟨k+1,by omega,by go_num,by rw[Y.out];rfl,i⟩;omega
  .rw[m]at Y;clear m;go_wp2;go_roundg f;exact⟨k+1,by omega,by go_num,by rw[Y.out];rfl,y⟩;omega
 .have HE:Hid (ls.take k=ls):=ah (List.take_of_length_le (by omega));rw[HE.out];clear s;cases m:ls.any (mQ T)
  .have Z:=ah m;have C:=ah (GR (T:=T) (ls:=ls) (λh=>by rw[m]at h;cases h));clear m;go_wp2;go_loopg[37] ls.length (λL F M=>GU T (tW' w t) ls L F M);exact⟨0,by omega,rfl,ah (λ_=>rfl),d⟩;obtain⟨k,N,rfl,K,d⟩:=hrel;have G:=D.out.trans' d.out;by_cases j:k<ls.length
   .obtain⟨f,rfl⟩:=gS' gk;obtain⟨b,o,H,I,J,rfl,P,g⟩:=(Cm HI.out d.out).at_ j;have S:=z0' k;have U:(k:Int)<(ls.length:Int):=(by omega);have z:=ah (UG T t ls[k] H I J wr (X.out.aB d.out) g (HZ.out _ (List.getElem_mem j)));clear g G;generalize ls[k]=x at*;generalize vk (cO T x)=r at*;have s:∀k:Nat,wr.cell? ⟨w.heap.size,k,none⟩=t.v.cells[k]? :=aQ d.out;go_wp2_with fail;refine z.out.mono ?_;rintro e w2⟨rfl,a⟩;have i:=ah (d.out.trans' a);clear a s;go_wp2;go_roundg f;exact⟨k+1,by omega,by go_num,ah (λh=>by rw[Z.out]at h;cases h),i⟩;omega
   .go_wp2;go_ret2;exact⟨by rw[C.out.1,C.out.2];rfl,G⟩
  .have Z:=ah m;clear m;go_wp2;go_loopg[37] ls.length (λL F M=>GU T (tW' w t) ls L F M);exact⟨0,by omega,rfl,ah (λ_=>rfl),d⟩;obtain⟨k,N,rfl,K,d⟩:=hrel;have G:=D.out.trans' d.out;by_cases j:k<ls.length
   .obtain⟨f,rfl⟩:=gS' gk;obtain⟨b,o,H,I,J,rfl,P,g⟩:=(Cm HI.out d.out).at_ j;have B:=ah (UE (T:=T) j);have z:=ah (UG T t ls[k] H I J wr (X.out.aB d.out) g (HZ.out _ (List.getElem_mem j)));clear g G;have a5:=ah (aQk (cO T ls[k]));generalize ls[k]=x at*;generalize vk (cO T x)=r at*;have s:∀k:Nat,wr.cell? ⟨w.heap.size,k,none⟩=t.v.cells[k]? :=aQ d.out;have S:=z0' k;have U:(k:Int)<(ls.length:Int):=(by omega);by_cases V:r=0
    .have e1:decide (0<r)=false:=by rw[V];rfl
     have a6:Hid (ls.any (mQ T)=true->frR T ((k+1:Nat):Int) (ls.drop (k+1))=frR T 0 ls):=ah (λh=>by
      have W:=B.out;rw[if_neg (by rw[V];simp)]at W
      rw[<- W];exact K.out h)
     clear V B K;go_wp2_with fail;refine z.out.mono ?_;rintro e w2⟨rfl,a⟩;have i:=ah (d.out.trans' a);clear a s;go_wp2;go_roundg f;exact⟨k+1,by omega,by go_num,a6,i⟩;omega
    .have e1:decide (0<r)=true:=decide_eq_true (by have:=a5.out;omega)
     have C:Hid (vw T ls=k/\uw T ls=19):=ah (by
      have W:=B.out;rw[if_pos V]at W
      exact UC Z.out ((K.out Z.out).symm.trans W))
     clear V B K;go_wp2_with fail;refine z.out.mono ?_;rintro e w2⟨rfl,a⟩;have G:=(D.out.trans' d.out).trans' a;clear a s;go_wp2;go_ret2;exact⟨by rw[C.out.1,C.out.2];rfl,G⟩
   .have C:=ah (GR (T:=T) (ls:=ls) (λh=>by rw[<- K.out h,List.drop_of_length_le (by omega)];rfl));go_wp2;go_ret2;exact⟨by rw[C.out.1,C.out.2];rfl,G⟩
def aWl(wo:World)(x:List Int)(g:Nat)(s13 s66:Value)(wx:World):Prop:=
 ∃j:Nat,g+j=x.length/\s66= .int .i64 j/\s13= .string (sB (x.take j))/\Ext wo wx
theorem MH(T:aj)(t:TV)(s:List Int)(w:World)(ht:aV w t T)(hs:IsB s):Calls prog 21 #[t.v,.string (sB s)] w (H7 w (dR T s)):=by
 have aE:=cZ w t;have r:=ah aE;have HT:=ah (ht.aB aE);have HC:=ah (VZ t T (tW' w t) HT.out)
 have HD:Hid (dR T s=if bY T=false then([],0,2)else if s.length=0 then([],0,10)else if(gG s).2.2≠0 then([],(gG s).2.1,(gG s).2.2)
  else if jI T (gG s).1≠0 then([],pG T (gG s).1,jI T (gG s).1)else if eP T (kZ T (gG s).1)≠0 then([],0,eP T (kZ T (gG s).1))
  else vC T (mP (kU T (kZ T (gG s).1)))):=rfl
 generalize dR T s=D at*;by_cases hw:bY T=false
 .have p:=ah (HD.out.trans (if_pos hw));have J:(lT T != 0)=true:=by rw[bne_iff_ne];exact λh=>by have:=(Bd T).1 h;rw[hw]at this;cases this
  go_enter func21,ntmps21;go_wp2_with fail;refine HC.out.mono ?_;rintro e w1⟨rfl,W⟩;have G:=r.out.trans' W;go_wp2;go_ret3;exact⟨none,0,0,by rw[p.out];rfl,by rw[p.out];exact qp _,G⟩
 have aM:=ah (HD.out.trans (if_neg hw));rw[(Bd T).2 (by cases h:bY T;exact absurd h hw;rfl)]at HC;have HW:Hid (bY T=true):=ah (by cases h:bY T;exact absurd h hw;rfl);have aR:=xG s;by_cases h0:s.length=0
 .have p:=ah (aM.out.trans (if_pos h0));rw[List.eq_nil_of_length_eq_zero h0,show([]:List Int).isEmpty=true from rfl]at aR;rw[List.eq_nil_of_length_eq_zero h0];go_enter func21,ntmps21;go_wp2_with fail;refine HC.out.mono ?_;rintro e w1⟨rfl,W⟩;have G:=r.out.trans' W;go_wp2;go_ret3;exact⟨none,0,0,by rw[p.out];rfl,by rw[p.out];exact qp _,G⟩
 have ai:=ah (aM.out.trans (if_neg h0));rw[show s.isEmpty=false from by cases s with|nil=>exact absurd rfl h0|cons a b=>rfl]at aR;have HU:Hid (∀w':World,Calls prog 56 #[.string (sB s)] w' (GV w' (gG s))):=ah λw'=>Zc s hs w'
 generalize gG s=V at*;obtain⟨l,di,de⟩:=V;simp only[]at ai;go_enter func21,ntmps21;go_wp2_with fail;refine HC.out.mono ?_;rintro e w1⟨rfl,W⟩;have bp:=ah W;go_wp2_with fail;refine(HU.out w1).mono ?_;rintro e w2⟨A,n,c,rfl,bq,F⟩;have a5:=ah (bp.out.trans' F);have b0:=ah bq;have br:=r.out.trans' a5.out;simp only[]at b0;by_cases f:de=0
 case neg=>
  have p:=ah (ai.out.trans (if_pos f));have J:(de != 0)=true:=bN' f;go_wp2;go_ret3;exact⟨none,0,0,by rw[p.out];rfl,by rw[p.out];exact qp _,br⟩
 have b1:=ah (ai.out.trans (if_neg (by rw[f];simp)));have J:(de != 0)=false:=bZ' f;have rT:∀k:Nat,w2.cell? ⟨w.heap.size,k,none⟩=t.v.cells[k]? :=aQ a5.out;go_wp2_with fail;refine(aPb T t l A n c w2 (HT.out.aB a5.out) b0.out).mono ?_;rintro e w3⟨A3,n3,c3,rfl,K,a6⟩;have a7:=ah (a5.out.trans' K);have bs:=ah a6;have bt:=r.out.trans' a7.out;generalize jI T l=me at*;generalize pG T l=mi at*;generalize kZ T l=ml at*;by_cases f:me=0
 case neg=>
  have p:=ah (b1.out.trans (if_pos f));have J:(me != 0)=true:=bN' f;go_wp2;go_ret3;exact⟨none,0,0,by rw[p.out];rfl,by rw[p.out];exact qp _,bt⟩
 have b4:=ah (b1.out.trans (if_neg (by rw[f];simp)));have J:(me != 0)=false:=bZ' f;have rT:∀k:Nat,w3.cell? ⟨w.heap.size,k,none⟩=t.v.cells[k]? :=aQ a7.out;go_wp2_with fail;refine(Nh T t ml A3 n3 c3 w3 (HT.out.aB a7.out) bs.out).mono ?_;rintro e w4⟨A4,n4,c4,rfl,bu,bv⟩;have am:=ah (a7.out.trans' bu);have bw:=ah bv
 have bx:Hid (eP T ml=0->(kU T ml).length<=4096):=ah (λh=>by
  have h2:=(zY h).2;have h3:=I4 (T:=T) ml;rw[kU,if_pos h]
  omega)
 have bz:=r.out.trans' am.out;generalize eP T ml=ne at*;generalize kU T ml=nl at*;by_cases f:ne=0
 case neg=>
  have p:=ah (b4.out.trans (if_pos f));have J:(ne != 0)=true:=bN' f;go_wp2;go_ret3;exact⟨none,0,0,by rw[p.out];rfl,by rw[p.out];exact qp _,bz⟩
 have X:=ah (b4.out.trans (if_neg (by rw[f];simp)));have J:(ne != 0)=false:=bZ' f;have yK:=ah (bx.out f);go_wp2_with fail;refine(aMq nl A4 n4 c4 w4 bw.out (by have:=yK.out;omega)).mono ?_;rintro e w5⟨A5,N,C,rfl,bA,b5⟩;obtain⟨g,S5,rfl,b6⟩:=bA.lsp b5;have bC:=ah (am.out.trans' b5);have bB:=ah b6;have bE:Hid ((mP nl).length<=5000):=ah (by have:=MC nl;have:=yK.out;omega);have bG:Hid (∀x∈mP nl,x.length<=4096):=ah (λx G=>by have:=UM G;have:=yK.out;omega);have bJ:(mP nl).length=N:=b6.len;generalize mP nl=L at*;have c8:N<=5000:=by have:=bE.out;omega
 have a8:=ah bJ;go_wp2;go_loopg[57] N (λgh bL wx=>PrL T w4 (tW' w t) g N C L gh bL wx);exact⟨0,S5,L,by omega,rfl,bB,ah rfl,ah rfl,ah rfl,bC⟩;obtain⟨k,S,M,c9,rfl,HP,b7,b8,H,HB⟩:=hrel;by_cases hk:k<N
 .obtain⟨an,rfl⟩:=gS' gk;have Y:k<L.length:=by have:=a8.out;omega
  have ao:k<M.length:=by have:=HP.out.len;omega
  have ba:M[k]=L[k]:=by
   have f:=b8.out;rw[drop_at M k ao,drop_at L k Y]at f;exact(List.cons.inj f).1
  have bN:M.drop (k+1)=L.drop (k+1):=by
   have f:=b8.out;rw[drop_at M k ao,drop_at L k Y]at f;exact(List.cons.inj f).2
  have bO:M.length=L.length:=by have:=HP.out.len;have:=a8.out;omega
  obtain⟨b,o,za,zn,zc,hA,ap,hz⟩:=HP.out.lists.at_ ao;injection hA with hA;injection hA with bR aq;subst bR aq;rw[ba]at hz;rw[Nat.zero_add]at ap;have O:=ah (UQ (T:=T) Y);have ar:=ah (bG.out _ (List.getElem_mem Y));have HZ:=ah hz;have av:Hid (∀y,y=(gU T L[k]).1->(M.set k y).take (k+1)=(L.take (k+1)).map λl=>(gU T l).1):=ah (λy hy=>by rw[hy];exact UO (λl=>(gU T l).1) L M bO k Y b7.out);have aw:Hid (∀y,(M.set k y).drop (k+1)=L.drop (k+1)):=ah (λy=>by rw[List.drop_set_of_lt (by omega)];exact bN);have bc:Hid (M.set k L[k]=M):=ah (by rw[<- ba];exact List.set_getElem_self _);generalize L[k]=x at*;have ca:=z0' k;have cb:(k:Int)<(N:Int):=by omega
  have bS:=HZ.out.len.1;subst bS;have aa:=ah (Lp x za x.length zc wr HZ.out);have bd:Hid (gU T x=if(nZ x).2≠0 then([],(nZ x).2)else if gQ T (nZ x).1≠0 then([],gQ T (nZ x).1)else((nZ x).1,0)):=rfl;have P:Hid (nZ x=if(jG x&&isX x)=true then alD x else(x,0)):=rfl;have be:Hid (nZ x=(x,0)->gU T x=if gQ T x≠0 then([],gQ T x)else(x,0)):=ah (λh=>by rw[bd.out,h];exact if_neg (by simp));generalize cc:gU T x=Dx at*;cases ab:jG x
  .rw[ab]at aa P;have I:=ah (be.out P.out);have bf:=ap;have Z:=HZ;have a0:=HP;have U:=HB;have Q:Hid (M=M.set k x):=ah bc.out.symm;go_wp2_with fail;refine aa.out.mono ?_;rintro e w0⟨rfl,rfl⟩;have rT:∀j:Nat,wr.cell? ⟨w.heap.size,j,none⟩=t.v.cells[j]? :=aQ U.out;go_wp2_with fail;go_region_law((go_simp;go_at_call 63;refine(Nj T t x za x.length zc _ (HT.out.aB (U.out.trans' (Ext.refl _).dL)) (Z.out.ext (Ext.refl _).dL)).mono ?_;rintro e w6⟨rfl,q⟩;have iU:Hid (Ext wr w6):=ah ((Ext.refl _).dL.trans' q);clear q))
   all_goals
    have a1:=ah (a0.out.aB iU.out);have rF:=ah (U.out.trans' iU.out);generalize gQ T x=ev at*;by_cases f:ev=0
    .have J:(ev != 0)=false:=bZ' f;have i:Dx=(x,0):=I.out.trans (if_neg (by rw[f];simp));have a2:Hid (lQ T ((k+1:Nat):Int) (L.drop (k+1))=lQ T 0 L):=ah (by rw[<- H.out,O.out,i];exact(if_neg (by simp)).symm);have a3:Hid (M.take (k+1)=(L.take (k+1)).map λl=>(gU T l).1):=ah (by rw[Q.out];exact av.out x (by rw[i]));have a4:Hid (M.drop (k+1)=L.drop (k+1)):=ah (by rw[Q.out];exact aw.out x);go_wp2;go_roundg an;exact⟨k+1,S,M,by omega,by go_num,a1,a3,a4,a2,rF⟩;omega
    .have J:(ev != 0)=true:=bN' f;have i:Dx=([],ev):=I.out.trans (if_pos f);have p:Hid (D=([],((k:Int),ev))):=ah (X.out.trans (AX (by rw[<- H.out,O.out,i];exact if_pos f)));have G:=r.out.trans' rF.out;go_wp2;go_ret3;exact⟨none,0,0,by rw[p.out];rfl,by rw[p.out];exact qp _,G⟩
  .rw[ab]at aa P;have bT:=ah (En ab);have bh:=ah (Mc ab);go_wp2_with fail;refine aa.out.mono ?_;rintro e w0⟨rfl,rfl⟩;generalize wr=wo at*;go_wp2;go_loopg[13,66] x.length (λgh bV bW wx=>aWl wo x gh bV bW wx);exact⟨0,by omega,rfl,rfl,Ext.refl _⟩;obtain⟨j,hg,rfl,rfl,hb⟩:=hrel;have R:=ah hb;by_cases hj:j<x.length
   .obtain⟨b2,o2,aq,cd⟩:=(HZ.out.ext R.out).at_ hj;subst aq;have hr:=bT.out _ (List.getElem_mem hj);have bX:Hid (x.take j++[x[j]]=x.take (j+1)):=ah (List.take_succ_eq_append_getElem hj).symm;have ce:(x.take j).length<=4096:=(by rw[List.length_take];have:=ar.out;omega);have cf:x.length<=4096:=ar.out;have bZ:∀cs,Ext wo (wr.alloc (.cells cs 5)):=λcs=>R.out.aC _
    generalize x[j]=xj at*;have bi:=yF wr #[.int .u8 xj] [xj] 1 rfl rfl (by omega);have cg:[xj].length<=1:=Nat.le_refl _;generalize[xj]=E at*;generalize x.take j=S0 at*;go_wp2;go_roundg (x.length - (j+1));exact⟨j+1,by omega,by go_num,by rw[bX.out],bZ _⟩;omega
   .have he:x.take j=x:=List.take_of_length_le (by omega);rw[he];have ac:=ah (Sm x bh.out wr);have bj:=bD (bH R.out) ap;have c0:=ah (HZ.out.ext R.out);have bk:=ah (HP.out.aB R.out);have nH:=ah (HB.out.trans' R.out);cases bl:isX x
    .rw[bl]at ac P;have I:=ah (be.out P.out);go_wp2_with fail;refine ac.out.mono ?_;rintro e w2⟨rfl,F⟩;have bf:=bD (bH F) bj;have Z:=ah (c0.out.ext F);have a0:=ah (bk.out.aB F);have U:=ah (nH.out.trans' F);have Q:Hid (M=M.set k x):=ah bc.out.symm;have rT:∀j:Nat,w2.cell? ⟨w.heap.size,j,none⟩=t.v.cells[j]? :=aQ U.out;go_wp2_with fail;go_region_law((go_simp;go_at_call 63;refine(Nj T t x za x.length zc _ (HT.out.aB (U.out.trans' (Ext.refl _).dL)) (Z.out.ext (Ext.refl _).dL)).mono ?_;rintro e w6⟨rfl,q⟩;have iU:Hid (Ext w2 w6):=ah ((Ext.refl _).dL.trans' q);clear q))
     all_goals
      have a1:=ah (a0.out.aB iU.out);have rF:=ah (U.out.trans' iU.out);generalize gQ T x=ev at*;by_cases f:ev=0
      .have J:(ev != 0)=false:=bZ' f;have i:Dx=(x,0):=I.out.trans (if_neg (by rw[f];simp));have a2:Hid (lQ T ((k+1:Nat):Int) (L.drop (k+1))=lQ T 0 L):=ah (by rw[<- H.out,O.out,i];exact(if_neg (by simp)).symm);have a3:Hid (M.take (k+1)=(L.take (k+1)).map λl=>(gU T l).1):=ah (by rw[Q.out];exact av.out x (by rw[i]));have a4:Hid (M.drop (k+1)=L.drop (k+1)):=ah (by rw[Q.out];exact aw.out x);go_wp2;go_roundg an;exact⟨k+1,S,M,by omega,by go_num,a1,a3,a4,a2,rF⟩;omega
      .have J:(ev != 0)=true:=bN' f;have i:Dx=([],ev):=I.out.trans (if_pos f);have p:Hid (D=([],((k:Int),ev))):=ah (X.out.trans (AX (by rw[<- H.out,O.out,i];exact if_pos f)));have G:=r.out.trans' rF.out;go_wp2;go_ret3;exact⟨none,0,0,by rw[p.out];rfl,by rw[p.out];exact qp _,G⟩
    .rw[bl]at ac P;have HE:Hid (nZ x=alD x):=P;have ax:Hid (Dx=if(alD x).2≠0 then([],(alD x).2)else if gQ T (alD x).1≠0 then([],gQ T (alD x).1)else((alD x).1,0)):=ah (by rw[<- HE.out];exact bd.out);go_wp2_with fail;refine ac.out.mono ?_;rintro e w2⟨rfl,F⟩;have c1:=ah (aMh x bh.out (by have:=ar.out;omega) w2);have bi:=bD (bH F) bj;have ay:=ah (bk.out.aB F);have c2:=ah (nH.out.trans' F);generalize alD x=AD at*;obtain⟨y,ya⟩:=AD;simp only[]at ax;go_wp2_with fail;refine c1.out.mono ?_;rintro e w3⟨B,m,d,rfl,a6,K⟩;have ch:w3.frozen? ⟨g,k,none⟩=false:=World.ownsRow.frozenAt (ay.out.aB K).own k;have bm:=bD (bH K) bi;have a0:=ah ((ay.out.aB K).set hk (z:=⟨B,m,d⟩) (x:=y) a6);have U:Hid (Ext (tW' w t) (w3.setCell ⟨g,k,none⟩ (.slice B m d))):=ah ((c2.out.trans' K).kD (Nat.le_trans am.out.b.size (Own.lt (ay.out.aB K).own g rfl).1) _);have bf:(w3.setCell ⟨g,k,none⟩ (.slice B m d)).cell? ⟨g,k,none⟩=some (.slice B m d):=World.cell?_setCell_same _ _ _ bm;have Z:Hid (aF (w3.setCell ⟨g,k,none⟩ (.slice B m d)) ⟨B,m,d⟩ y):=ah (a6.MF (z:=⟨za,x.length,zc⟩) bm _);by_cases f:ya=0
     .have J:(ya != 0)=false:=bZ' f;have I:Hid (Dx=if gQ T y≠0 then([],gQ T y)else(y,0)):=ah (ax.out.trans (if_neg (by rw[f];simp)));have Q:Hid True:=ah trivial;go_wp2_with fail;generalize w3.setCell ⟨g,k,none⟩ (.slice B m d)=wz at*;have rT:∀j:Nat,wz.cell? ⟨w.heap.size,j,none⟩=t.v.cells[j]? :=aQ U.out;go_wp2_with fail;go_region_law((go_simp;go_at_call 63;refine(Nj T t y B m d _ (HT.out.aB (U.out.trans' (Ext.refl _).dL)) (Z.out.ext (Ext.refl _).dL)).mono ?_;rintro e w6⟨rfl,q⟩;have iU:Hid (Ext wz w6):=ah ((Ext.refl _).dL.trans' q);clear q))
      all_goals
       have a1:=ah (a0.out.aB iU.out);have rF:=ah (U.out.trans' iU.out);generalize gQ T y=ev at*;by_cases f:ev=0
       .have J:(ev != 0)=false:=bZ' f;have i:Dx=(y,0):=I.out.trans (if_neg (by rw[f];simp));have a2:Hid (lQ T ((k+1:Nat):Int) (L.drop (k+1))=lQ T 0 L):=ah (by rw[<- H.out,O.out,i];exact(if_neg (by simp)).symm);have a3:Hid ((M.set k y).take (k+1)=(L.take (k+1)).map λl=>(gU T l).1):=ah (by exact av.out y (by rw[i]));have a4:Hid ((M.set k y).drop (k+1)=L.drop (k+1)):=ah (by exact aw.out y);go_wp2;go_roundg an;exact⟨k+1,(S.set k ⟨B,m,d⟩),(M.set k y),by omega,by go_num,a1,a3,a4,a2,rF⟩;omega
       .have J:(ev != 0)=true:=bN' f;have i:Dx=([],ev):=I.out.trans (if_pos f);have p:Hid (D=([],((k:Int),ev))):=ah (X.out.trans (AX (by rw[<- H.out,O.out,i];exact if_pos f)));have G:=r.out.trans' rF.out;go_wp2;go_ret3;exact⟨none,0,0,by rw[p.out];rfl,by rw[p.out];exact qp _,G⟩
     .have J:(ya != 0)=true:=bN' f;have i:Dx=([],ya):=ax.out.trans (if_pos f);have p:Hid (D=([],((k:Int),ya))):=ah (X.out.trans (AX (by rw[<- H.out,O.out,i];exact if_pos f)));have G:=r.out.trans' U.out;go_wp2;go_ret3;exact⟨none,0,0,by rw[p.out];rfl,by rw[p.out];exact qp _,G⟩
 .have c5:k=N:=by omega
  subst c5
  have bn:Hid (M=L.map λl=>(gU T l).1):=ah (by
   have f:=b7.out;have h2:=a8.out;have h3:=HP.out.len
   rwa[List.take_of_length_le (by omega),List.take_of_length_le (by omega)]at f)
  have bo:Hid (lQ T 0 L=none):=ah (by
   have h2:=a8.out;rw[<- H.out,List.drop_of_length_le (by omega)]
   rfl)
  have DX:Hid (∀l∈M,aX T l=0):=ah (λl hl=>by
   rw[bn.out,List.mem_map]at hl;obtain⟨x,G,rfl⟩:=hl
   exact Ew (MG (GX bo.out x G)))
  have az:=ah (X.out.trans (GY bo.out));rw[<- bn.out]at az;have c6:=ah (aQj T t M _ _ _ wr (HT.out.aB HB.out) HP.out.lists HW.out DX.out (by have:=HP.out.len;omega));have rT:∀k:Nat,wr.cell? ⟨w.heap.size,k,none⟩=t.v.cells[k]? :=aQ HB.out;go_wp2_with fail;refine c6.out.mono ?_;rintro e w6⟨rfl,q⟩;have c7:=ah (HP.out.aB q);have G:=r.out.trans' (HB.out.trans' q);generalize vw T M=dmi at*;generalize uw T M=dme at*;by_cases f:dme=0
  .have J:(dme != 0)=false:=bZ' f;have p:=ah (az.out.trans (if_neg (by rw[f];simp)));go_wp2;go_ret3;exact⟨_,_,_,by rw[p.out];rfl,by rw[p.out];exact c7.out.lists,G⟩
  .have J:(dme != 0)=true:=bN' f;have p:=ah (az.out.trans (if_pos f));go_wp2;go_ret3;exact⟨none,0,0,by rw[p.out];rfl,by rw[p.out];exact qp _,G⟩
def sgA:List (List Int):=[[97],[98],[109],[114,110],[65],[111],[48],[120,121],[206,177],[208,176],[97,98],[120,110,45,45,98,99,104,101,114,45,107,118,97]]
def sgP(r:List Int):List Int × List Int:=if 0<aT 5 r then(sgA.getD (aT 12 r.tail).toNat [],r.tail.tail)else wI woV (1+aT 3 r.tail).toNat r.tail.tail
theorem aZd(r:List Int):IsB (sgP r).1/\(sgP r).1.length<=20:=by
 unfold sgP;split
 .have:=fZ r.tail (n:=12) (by decide);show IsB (sgA.getD _ [])/\(sgA.getD _ []).length<=20
  rw[getD_lt _ _ _ (by simp[sgA];omega)];have h:∀x∈sgA,(∀c∈x,0<=c/\c<256)/\x.length<=20:=by decide
  exact h _ (List.getElem_mem _)
 .have:=fZ r.tail (n:=3) (by decide);obtain⟨a,b⟩:=H6 GZ (1+aT 3 r.tail).toNat r.tail.tail;exact⟨a,by show(mV _ _ _).length<=20;omega⟩
def VD(w0 w:World)(g:Nat)(r:List Int)(e:Ending)(w':World):Prop:=e= .returned (.string (sB (sgP r).1))/\Src w0 w' g (sgP r).2/\Kp [g] w w'/\Ext w0 w'
def SgL(w0 w:World)(g:Nat)(T rr:List Int)(gh:Nat)(s4 sk:Value)(wx:World):Prop:=
 ∃(acc r:List Int),sk= .int .i64 gh/\s4= .string (sB acc)/\Src w0 wx g r/\Ext w0 wx/\Hid (T=acc++mV woV gh r)/\Hid (rr=r.drop (2*gh))/\acc.length+4*gh<=1000/\Kp [g] w wx
theorem aZH(b w:World)(g:Nat)(r:List Int)(hs:Src b w g r)(hb:Ext b w):
 Calls prog 43 #[.pointer (some ⟨g,0,none⟩)] w (VD b w g r):=by
 have ay:=hs.lt;have az:=fZ r (n:=5) (by decide);have HV:Hid (sgP r=if 0<aT 5 r then(sgA.getD (aT 12 r.tail).toNat [],r.tail.tail)else wI woV (1+aT 3 r.tail).toNat r.tail.tail):=rfl;unfold VD;generalize sgP r=V at*;have HS:=ah hs;have aD:(⟨#[]⟩:ByteArray)=sB []:=rfl;go_enter func43,ntmps43;go_wp2_with fail;refine(iq b w g r 5 (by decide) (by decide) HS.out hb).mono ?_;rintro e c⟨rfl,l,AP,I⟩;have m:=ah l;have o:=ah AP;have p:=ah I;have aE:=AP.size;have aL:=l.lt;by_cases k:0<aT 5 r
 .have d0:decide (0<aT 5 r)=true:=decide_eq_true k;have J:=ah (HV.out.trans (if_pos k));have hv:=fZ r.tail (n:=12) (by decide);obtain⟨v,s⟩:∃v:Nat,aT 12 r.tail=v:=⟨(aT 12 r.tail).toNat,by omega⟩;have L:v<12:=by omega
  obtain⟨y,t⟩:=eY' (sgA.getD v []);have a:Hid (V=(y,r.tail.tail)):=ah (by rw[J.out,s,Int.toNat_natCast,t]);have N:=ah s;have O:Ext c (c.alloc (.cells #[.string ⟨#[97]⟩,.string ⟨#[98]⟩,.string ⟨#[109]⟩,.string ⟨#[114,110]⟩,.string ⟨#[65]⟩,.string ⟨#[111]⟩,.string ⟨#[48]⟩,.string ⟨#[120,121]⟩,.string ⟨#[206,177]⟩,.string ⟨#[208,176]⟩,.string ⟨#[97,98]⟩,.string ⟨#[120,110,45,45,98,99,104,101,114,45,107,118,97]⟩] 9)):=(Ext.refl _).aC _;have d:(c.alloc (.cells #[.string ⟨#[97]⟩,.string ⟨#[98]⟩,.string ⟨#[109]⟩,.string ⟨#[114,110]⟩,.string ⟨#[65]⟩,.string ⟨#[111]⟩,.string ⟨#[48]⟩,.string ⟨#[120,121]⟩,.string ⟨#[206,177]⟩,.string ⟨#[208,176]⟩,.string ⟨#[97,98]⟩,.string ⟨#[120,110,45,45,98,99,104,101,114,45,107,118,97]⟩] 9)).cell? ⟨c.heap.size,v,none⟩=some (.string (sB y)):=by
   rw[World.cell?_alloc_new,<- t]
   match v,L with
   |0,_|1,_|2,_|3,_|4,_|5,_|6,_|7,_|8,_|9,_|10,_|11,_=>rfl
   |n+12,h=>exact absurd h (by omega)
  have P:=ah O;have Q:=ah d;have aM:=z0' v;have aR:(v:Int)<12:=by omega
  generalize aT 5 r=q at*;go_wp2_with fail;refine(iq b _ g r.tail 12 (by decide) (by decide) (m.out.kp (M:=[]) (Kp.dn P.out) (by simp)) (p.out.trans' P.out)).mono ?_;rintro e w3⟨rfl,R,x,S⟩;rw[N.out];have aZ:w3.cell? ⟨c.heap.size,v,none⟩=some (.string (sB y)):=(x.cell ⟨c.heap.size,v,none⟩ (by simp) (by simp;omega)).trans Q.out;have jM:=ah R;have T:=ah ((o.out.trans (Kp.dn P.out)).trans x);have U:=ah S;go_wp2;go_ret;exact⟨by rw[a.out];rfl,by rw[a.out];exact jM.out,T.out,U.out⟩
 .have d0:decide (0<aT 5 r)=false:=decide_eq_false k;have J:=ah (HV.out.trans (if_neg k));have hv:=fZ r.tail (n:=3) (by decide);obtain⟨K,hK⟩:∃K:Nat,1+aT 3 r.tail=K:=⟨(1+aT 3 r.tail).toNat,by omega⟩;have b0:K<4:=by omega
  have W:aT 3 r.tail=(K:Int) - 1:=by omega
  obtain⟨y,t⟩:=eY' (mV woV K r.tail.tail);have a:Hid (V=(y,r.tail.tail.drop (2*K))):=ah (by rw[J.out,hK,Int.toNat_natCast,wI,t]);have HY:=ah t;have X:=ah W;have b1:(1:Int)+((K:Int) - 1)=(K:Int):=by omega
  generalize Y:r.tail.tail.drop (2*K)=rr at*;have Z:=ah Y;generalize aT 5 r=q at*;go_wp2_with fail;refine(iq b c g r.tail 3 (by decide) (by decide) m.out p.out).mono ?_;rintro e w4⟨rfl,a0,a1,a2⟩;rw[X.out];have a3:=ah a0;have a4:=ah a2;have a5:=ah (o.out.trans a1);go_wp2;go_loopg[3,4] K (λgh s4 sk wx=>SgL b w g y rr gh s4 sk wx);exact⟨[],r.tail.tail,by go_num,rfl,a3.out,a4.out,ah HY.out.symm,ah Z.out.symm,by simp;omega,a5.out⟩;obtain⟨F,f,rfl,rfl,a6,a7,A,B,b2,a8⟩:=hrel;have C:=ah a6;have bn:=ah a7;have D:=ah a8;rcases Nat.eq_zero_or_pos gk with k|av
  .subst k;have he:y=F:=(by rw[A.out];simp[mV]);have a9:rr=f:=(by rw[B.out];rfl);subst he a9;go_wp2;go_ret;exact⟨by rw[a.out];rfl,by rw[a.out];exact C.out,D.out,bn.out⟩
  .obtain⟨G,rfl⟩:=gS' gk;have b3:decide ((0:Int)<((G+1:Nat):Int))=true:=(by simp);obtain⟨z,hz⟩:=eY' (woV f);have ab:aY z=true:=(by rw[<- hz];exact GZ f);have ad:Hid (y=(F++enc1 z)++mV woV G f.tail.tail):=ah (by rw[A.out,mV,hz];simp);have ae:Hid (rr=f.tail.tail.drop (2*G)):=ah (by rw[B.out,MR]);have HZ:=ah hz;have af:=ah ab;have b4:=BM z;have b5:F.length<=1000:=(by omega);go_wp2_with fail;refine(Qc b wr g f C.out bn.out).mono ?_;rintro e H⟨rfl,ag,ai,al⟩;rw[HZ.out];have i:Ext H (H.alloc (.cells #[.int .i64 z] 3)):=(Ext.refl _).aC _;have HE:=ah (DN [z] (some ⟨H.heap.size,0,none⟩) 1 1 _ (iC H z));rw[MQ af.out]at HE;have kR:=ah (ag.kp (M:=[]) (Kp.dn i) (by simp));have bC:=ah (al.trans' i);have am:=ah ((D.out.trans ai).trans (Kp.dn i));go_wp2_with fail;refine HE.out.mono ?_;rintro e w6⟨rfl,j⟩;have an:=ah (kR.out.kp (M:=[]) (Kp.dn j) (by simp));have jC:=ah (bC.out.trans' j);have ao:=ah (am.out.trans (Kp.dn j));generalize hE:enc1 z=E at*;go_wp2;go_roundg G;exact⟨F++E,f.tail.tail,by go_num,rfl,an.out,jC.out,ad,ae,by rw[List.length_append];omega,ao.out⟩;omega
def pO(m:List Int):Nat->List Int->List (List Int)
 |0,_=>[]
 |n+1,r=>if aT 8 r=0 then nK m::pO m n r.tail else(sgP r.tail).1::pO m n (sgP r.tail).2
def CJ(m:List Int):List (List Int):=if aT 10 m.tail=0 then pO m (14+aT 6 m.tail.tail).toNat m.tail.tail.tail else pO m (aT 6 m).toNat m.tail.tail
theorem Hl(m:List Int):∀(n:Nat)(r:List Int),(∀x∈pO m n r,IsB x/\x.length<=63)/\(pO m n r).length=n
 |0,_=>⟨λx a=>(by cases a),rfl⟩
 |n+1,r=>by
  unfold pO;split
  .obtain⟨b,c⟩:=Hl m n r.tail;exact⟨λx a=>(List.mem_cons.1 a).elim (λe=>e▸Vq m) (b x),by rw[List.length_cons,c]⟩
  .obtain⟨b,c⟩:=Hl m n (sgP r.tail).2;obtain⟨d,f⟩:=aZd r.tail;exact⟨λx a=>(List.mem_cons.1 a).elim (λe=>e▸⟨d,by omega⟩) (b x),by rw[List.length_cons,c]⟩
theorem VI(m:List Int):(∀x∈CJ m,IsB x/\x.length<=63)/\(CJ m).length<=19:=by
 unfold CJ;split
 .obtain⟨a,b⟩:=Hl m (14+aT 6 m.tail.tail).toNat m.tail.tail.tail;have:=fZ m.tail.tail (n:=6) (by decide);exact⟨a,by omega⟩
 .obtain⟨a,b⟩:=Hl m (aT 6 m).toNat m.tail.tail;have:=fZ m (n:=6) (by decide);exact⟨a,by omega⟩
def RwL(w:World)(g:Nat)(L:List (List Int))(m:List Int)(gh:Nat)(s4 s5:Value)(wx:World):Prop:=
 ∃(A:Option Addr)(c:Nat)(acc:List (List Int))(r:List Int),s5= .int .i64 gh/\s4= .slice A acc.length c/\rJ wx (g+1) A acc.length c acc/\Src w wx g r/\Ext w wx/\Hid (L=acc++pO m gh r)/\acc.length+gh<21/\g<wx.heap.size
theorem aZT(m:List Int)(A:Option Addr)(n c:Nat)(w:World)(h:aF w ⟨A,n,c⟩ m):
 Calls prog 13 #[.slice A n c] w λe w'=>∃B k d,e= .returned (.slice B k d)/\rJ w' w.heap.size B k d (CJ m)/\Ext w w':=by
 have HI:=ah h;go_enter func13,ntmps13;go_wp2_with fail;refine(Nk m A n c w HI.out).mono ?_;rintro e w1⟨rfl,I,X⟩;have av:=I.lt;generalize hg:w.heap.size=g at*;have HG:=ah hg;go_wp2_with fail;refine(iq w w1 g m 6 (by decide) (by decide) I X).mono ?_;rintro e w2⟨rfl,J,ay,Y⟩;obtain⟨L,hL⟩:=eY' (CJ m);have Z:=ah hL;have HV:Hid (L=if aT 10 m.tail=0 then pO m (14+aT 6 m.tail.tail).toNat m.tail.tail.tail else pO m (aT 6 m).toNat m.tail.tail):=ah (by rw[<- hL];rfl);have az:=fZ m (n:=6) (by decide);generalize aT 6 m=v6 at*;have a1:=ah J;have a2:=ah Y;have aD:=J.lt;go_wp2_with fail;refine(iq w w2 g m.tail 10 (by decide) (by decide) a1.out a2.out).mono ?_;rintro e K⟨rfl,s,y,z⟩;have O:=ah s;have i:=ah z;have a3:=s.lt
 have aE:Hid (∃(N:Nat)(r:List Int),N<21/\L=pO m N r):=ah (by
  have:=fZ m.tail.tail (n:=6) (by decide);rw[HV.out];split
  .exact⟨_,_,by omega,rfl⟩
  .exact⟨_,_,by omega,rfl⟩)
 by_cases H:aT 10 m.tail=0
 case' pos=>
  have e0:(aT 10 m.tail==0)=true:=by rw[beq_iff_eq];exact H
  have C:=ah (HV.out.trans (if_pos H));have aM:=fZ m.tail.tail (n:=6) (by decide);obtain⟨N,hN⟩:∃N:Nat,14+aT 6 m.tail.tail=N:=⟨(14+aT 6 m.tail.tail).toNat,by omega⟩;have HJ:Hid (L=pO m N m.tail.tail.tail):=ah (by rw[C.out,hN,Int.toNat_natCast]);have a5:N<21:=by omega
  have a6:aT 6 m.tail.tail=(N:Int) - 14:=by omega
  have a7:=ah a6;have aR:(14:Int)+((N:Int) - 14)=(N:Int):=by omega
  generalize aT 10 m.tail=q at*;go_wp2_with fail;refine(iq w K g m.tail.tail 6 (by decide) (by decide) O.out i.out).mono ?_;rintro e D⟨rfl,t,E,f⟩;rw[a7.out];have l:=ah t;have o:=ah f;have a8:=t.lt;generalize m.tail.tail.tail=rr at*
 case' neg=>
  have e0:(aT 10 m.tail==0)=false:=by rw[aP];exact H
  have C:=ah (HV.out.trans (if_neg H));obtain⟨N,hN⟩:∃N:Nat,v6=N:=⟨v6.toNat,by omega⟩;subst hN;have HJ:Hid (L=pO m N m.tail.tail):=ah (by rw[C.out,Int.toNat_natCast]);have a5:N<21:=by omega
  generalize aT 10 m.tail=q at*;have l:=O;have o:=i;have a8:=a3;generalize m.tail.tail=rr at*
 all_goals
  go_wp2;go_loopg[4,5] N (λgh s4 s5 wx=>RwL w g L m gh s5 s4 wx);exact⟨none,0,[],rr,rfl,rfl,Own.nil_ _ _ _ _,l.out,o.out,ah (by rw[HJ.out];rfl),by simp;omega,by omega⟩;obtain⟨T,c4,a,r,rfl,rfl,P,aa,ab,HR,b3,b4⟩:=hrel;have HO:=ah P;have ae:=ah aa;have bT:=ah ab;rcases Nat.eq_zero_or_pos gk with H|ap
  .subst H;have HF:Hid (L=a):=ah (by rw[HR.out];simp[pO]);go_wp2;go_ret;exact⟨T,_,c4,rfl,by rw[Z.out,HF.out];exact Own.lower HO.out (by have:=HG.out;omega),bT.out⟩
  .obtain⟨j,rfl⟩:=gS' gk;have hd:decide ((0:Int)<((j+1:Nat):Int))=true:=(by simp);have HT:Hid (pO m (j+1) r=if aT 8 r=0 then nK m::pO m j r.tail else(sgP r.tail).1::pO m j (sgP r.tail).2):=rfl;go_wp2_with fail;refine(iq w wr g r 8 (by decide) (by decide) ae.out bT.out).mono ?_;rintro e K⟨rfl,s,y,z⟩;have dP:Hid (rJ K (g+1) T a.length c4 a):=ah (Own.kp HO.out y (λb Q=>by have:=(Own.lt HO.out b Q).1;simp;omega));have b7:=y.size;have O:=ah s;have i:=ah z;by_cases U:aT 8 r=0
   case' pos=>
    have e1:(aT 8 r==0)=true:=(by rw[beq_iff_eq];exact U);have R:=ah (HR.out.trans (congrArg (a++ ·) (HT.out.trans (if_pos U))));generalize aT 8 r=q at*;go_wp2_with fail;refine(Vp m A n c K (HI.out.ext i.out)).mono ?_;rintro e D⟨rfl,f⟩;have l:=ah (O.out.kp (M:=[]) (Kp.dn f) (by simp));have V:=ah (Own.ext dP.out f);have o:=ah (i.out.trans' f);have oU:=f.b.size;generalize nK m=x at*;generalize r.tail=rr at*
   case' neg=>
    have e1:(aT 8 r==0)=false:=(by rw[aP];exact U);have R:=ah (HR.out.trans (congrArg (a++ ·) (HT.out.trans (if_neg U))));generalize aT 8 r=q at*;go_wp2_with fail;refine(aZH w K g r.tail O.out i.out).mono ?_;rintro e D⟨rfl,t,E,f⟩;have l:=ah t;have V:Hid (rJ D (g+1) T a.length c4 a):=ah (Own.kp dP.out E (λb Q=>by have:=(Own.lt dP.out b Q).1;simp;omega));have o:=ah f;have oU:=E.size;generalize(sgP r.tail).1=x at*;generalize(sgP r.tail).2=rr at*
   all_goals
    have F:Ext D (D.alloc (.cells #[.string (sB x)] 9)):=(Ext.refl _).aC _;obtain⟨A5,c5,W,S,G,p⟩:=MI V.out x (by omega) (by omega);have bJ:=ah G;have Nv:Kp (aG T).toList (D.alloc (.cells #[.string (sB x)] 9)) W:=Kp.ou p (by intro b Q;simp[Q]);have kR:Hid (Src w W g rr):=ah ((l.out.kp (M:=[]) (Kp.dn F) (by simp)).kp Nv (by simp only[Option.mem_toList];intro e;have:=(Own.lt V.out g e).1;omega));have bC:Hid (Ext w W):=ah (dU (o.out.trans' F) p (λk hk=>by have:=(Own.lt V.out k hk).1;have:=HG.out;omega));have pz:D.heap.size<=W.heap.size:=Nat.le_trans F.b.size p.size;have ag:Hid (L=(a++[x])++pO m j rr):=ah (by rw[R.out];simp);go_wp2_with(at_builtin;refine dH rfl _ _ _ rfl _ _ rfl rfl _ _ S ?_);go_roundg j;exact⟨A5,c5,a++[x],rr,by go_num,by simp,by simpa using bJ.out,kR.out,bC.out,ag,by simp;omega,by omega⟩;omega
def nmC(p:Nm):List Value:=[.string (sB p.1),.string (sB p.2.1),.string (sB p.2.2)]
def dV(l:List Nm):List Value:=l.flatMap nmC
abbrev rO(w:World)(base:Nat)(A:Option Addr)(n c:Nat)(l:List Nm):Prop:=Own w base 32 3 A n c (dV l)
def NmS(w:World)(s:SV)(l:List Nm):Prop:=xB s l.length/\∀i x,l[i]? =some x->∃b o,s.a=some ⟨b,o,none⟩/\w.cell? ⟨b,o+i*3,none⟩=some (.string (sB x.1))/\w.cell? ⟨b,o+i*3+1,none⟩=some (.string (sB x.2.1))/\w.cell? ⟨b,o+i*3+2,none⟩=some (.string (sB x.2.2))
theorem infoNm:(prog.info? 32).map (λi=>(i.zero,i.size,i.bytes))=some (some (.agg #[.string ⟨#[]⟩,.string ⟨#[]⟩,.string ⟨#[]⟩]),3,48):=by kernel_rfl
theorem yM:∀l:List Nm,(dV l).length=l.length*3
 |[]=>rfl
 |x::r=>by
  show(nmC x++dV r).length=_
  rw[List.length_append,yM r,List.length_cons];show 3+_=_
  omega
theorem EF(a b:List Nm):dV (a++b)=dV a++dV b:=List.flatMap_append
theorem MW(l:List Nm):∀u∈dV l,u.oneCell'=true:=by
 intro u a;simp only[dV,nmC,List.mem_flatMap,List.mem_cons,List.not_mem_nil,or_false]at a;obtain⟨x,_,rfl|rfl|rfl⟩:=a<;>rfl
theorem aYl(l:List Nm)(k:Nat):dV (l.take k)=(dV l).take (k*3):=by
 by_cases h:k<=l.length
 .have e:dV l=dV (l.take k)++dV (l.drop k):=by rw[<- EF,List.take_append_drop]
  rw[e,List.take_left' (by rw[yM,List.length_take];omega)]
 .rw[List.take_of_length_le (by omega),List.take_of_length_le (by rw[yM];omega)]
theorem aYj{l:List Nm}{i:Nat}{x:Nm}(h:l[i]? =some x):(dV l)[i*3]? =some (.string (sB x.1))/\(dV l)[i*3+1]? =some (.string (sB x.2.1))/\(dV l)[i*3+2]? =some (.string (sB x.2.2)):=by
 obtain⟨b,rfl⟩:=List.getElem?_eq_some_iff.1 h;have e:dV l=dV (l.take i)++(nmC l[i]++dV (l.drop (i+1))):=by
  have c:nmC l[i]++dV (l.drop (i+1))=dV (l.drop i):=by rw[drop_at l i b];rfl
  rw[c,<- EF,List.take_append_drop]
 have a:(dV (l.take i)).length=i*3:=by rw[yM,List.length_take];omega
 rw[e];refine⟨?_,?_,?_⟩
 .rw[List.getElem?_append_right (by omega),a,Nat.sub_self];rfl
 .rw[List.getElem?_append_right (by omega),a,show i*3+1 - i*3=1 by omega];rfl
 .rw[List.getElem?_append_right (by omega),a,show i*3+2 - i*3=2 by omega];rfl
theorem rO.nms{w:World}{a n c:Nat}{A:Option Addr}{l:List Nm}(h:rO w a A n c l):NmS w ⟨A,n,c⟩ l:=by
 have d:=Own.len h;rw[yM]at d;obtain⟨t,f⟩:=Own.le h;refine⟨⟨by show n=l.length;omega,by show l.length<=c;omega,f⟩,λi x g=> ?_⟩;obtain⟨j,k,m⟩:=aYj g;obtain⟨b,rfl,o⟩:=Own.qc h _ _ j;obtain⟨y,p,q⟩:=Own.qc h _ _ k;obtain⟨z,r,s⟩:=Own.qc h _ _ m;cases p;cases r;exact⟨b,0,rfl,by simpa using o,by simpa using q,by simpa using s⟩
theorem NmS.ext{w w':World}{s:SV}{l:List Nm}(h:NmS w s l)(a:Ext w w'):NmS w' s l:=
 ⟨h.1,λi x c=>by
  obtain⟨b,o,d,f,g,j⟩:=h.2 i x c
  exact⟨b,o,d,bD (bH a) f,bD (bH a) g,bD (bH a) j⟩⟩
theorem NmS.at_{w:World}{A:Option Addr}{n c:Nat}{l:List Nm}(h:NmS w ⟨A,n,c⟩ l){i:Nat}(a:i<l.length):∃b o,A=some ⟨b,o,none⟩/\w.cell? ⟨b,o+i*3,none⟩=some (.string (sB l[i].1))/\w.cell? ⟨b,o+i*3+1,none⟩=some (.string (sB l[i].2.1))/\w.cell? ⟨b,o+i*3+2,none⟩=some (.string (sB l[i].2.2)):=
 h.2 i _ (List.getElem?_eq_getElem a)
theorem NmS.nil_(w:World):NmS w ⟨none,0,0⟩ []:=⟨⟨rfl,Nat.le_refl _,by simp only[maxLen];omega⟩,λi x a=>by simp at a⟩
theorem Vz(w:World)(x:Nm)(t:TypeId){j:Nat}{v:Value}(h:(nmC x)[j]? =some v):(w.alloc (.cells #[.string (sB x.1),.string (sB x.2.1),.string (sB x.2.2)] t)).cell? ⟨w.heap.size,0+j,none⟩=some v:=by
 rw[Nat.zero_add,World.cell?_alloc_new];show((nmC x).toArray)[j]? =_
 rw[List.getElem?_toArray];exact h
theorem aYw{w:World}{a n c:Nat}{A:Option Addr}{l:List Nm}(i:rO w a A n c l)(x:Nm)(q:n<=1000000)(f:a<=w.heap.size):
 ∃A' c' w',(∀ty,(Builtin.append_ #[38,38] ty #[.slice A n c,.slice (some ⟨w.heap.size,0,none⟩) 1 1]).run prog (w.alloc (.cells #[.string (sB x.1),.string (sB x.2.1),.string (sB x.2.2)] 32))= .ok (.slice A' (n+1) c') w')/\rO w' a A' (n+1) c' (l++[x])/\
  (w.alloc (.cells #[.string (sB x.1),.string (sB x.2.1),.string (sB x.2.2)] 32)).grownBy w' (aG A):=by
 have g:Ext w (w.alloc (.cells #[.string (sB x.1),.string (sB x.2.1),.string (sB x.2.2)] 32)):=(Ext.refl _).aC _;obtain⟨A',m,w',h,d,k,_⟩:=Ad (T:=38) underlying38 infoNm rfl (by omega) (Own.ext i g) (some ⟨w.heap.size,0,none⟩) 1 1 (nmC x) rfl
  (λj u o=>⟨w.heap.size,0,rfl,Vz w x _ o⟩)
  (λu p=>MW [x] u (by simpa[dV]using p)) (by simp only[maxLen];omega) (by omega) (Nat.le_trans f g.b.size)
 exact⟨A',m,w',h,by unfold rO;rw[EF];simpa[dV]using d,k⟩
theorem Hf(w:World)(p t ty c:TypeId)(z b o d h:Nat)(a:Addr)(f k:Nat)(g:List Value)
 (x:prog.underlying p=some (.slice c)) (q:(prog.info? c).map (·.size)=some z) (y:g.length=Nat.min f d*z)
 (l:∀j v,g[j]? =some v->w.cell? (a.add j)=some v) (A:∀j,j<g.length->(w.cell? ⟨b,o+j,none⟩).isSome=true) (B:∀j,j<g.length->w.frozen? ⟨b,o+j,none⟩=false) (C:∀v∈g,v.oneCell'=true):
 (Builtin.copy_ #[p,t] ty #[.slice (some ⟨b,o,none⟩) d h,.slice (some a) f k]).run prog w= .ok (goInt (Nat.min f d)) (w.setCells b o g):=by
 have r:=run_loadCells_list (P:=prog) w a g l;have m:=run_storeCells_cells (P:=prog) b o g 0 w (by simpa using A) (by simpa using B) C;cases n:(prog.info? c)with
 |none=>simp[n]at q
 |some i=>
  have s:i.size=z:=by simpa[n]using q
  simp[Builtin.copy_,run_underlying x,Builtin.lenOf,Builtin.firstCells,sizeOf,typeInfo,n,s,<- y,r,m]
theorem Vy{g b c i:Nat}{o:List Nm}{x:Nm}{w:World}{a:Array Value}(d:b<=g)(l:i<=o.length)(f:w.heap[g]? =some (.cells a 32 (0,0)))(h:o.length+1<=c)(j:c<=maxLen)(k:a.size=c*3)
 (ht:a.toList.take ((o.length+1)*3)=dV (o.take i)++(nmC x++dV (o.drop i))):rO w b (some ⟨g,0,none⟩) (o.length+1) c (o.take i++x::o.drop i):=by
 have e:dV (o.take i++x::o.drop i)=dV (o.take i)++(nmC x++dV (o.drop i)):=by rw[EF];rfl
 refine⟨?_,.inr ⟨g,c,a,rfl,d,f,h,j,k,by rw[e];exact ht⟩⟩;rw[yM];simp;omega
theorem aYm(P w:World)(A:Option Addr)(c:Nat)(o:List Nm)(x:Nm)(i:Nat)(l:rO w P.heap.size A o.length c o)(hx:Ext P w)(hi:i<=o.length)(hb:o.length<=1000):
 Calls prog 53 #[.slice A o.length c,.int .i64 i,.slice (some ⟨w.heap.size,0,none⟩) 1 1] (w.alloc (.cells #[.string (sB x.1),.string (sB x.2.1),.string (sB x.2.2)] 32))
  λe w'=>∃A' c',e= .returned (.slice A' (o.length+1) c')/\rO w' P.heap.size A' (o.length+1) c' (o.take i++x::o.drop i)/\Ext P w'/\Kp (aG A).toList (w.alloc (.cells #[.string (sB x.1),.string (sB x.2.1),.string (sB x.2.2)] 32)) w':=by
 have bn:=Own.le l;by_cases b1:i=o.length
 .subst b1;obtain⟨A5,c5,w5,U,J,K⟩:=aYw l x (by omega) hx.b.size;have X:rO w5 P.heap.size A5 (o.length+1) c5 (o.take o.length++x::o.drop o.length):=by rw[List.take_length,List.drop_length];exact J
  have ai:Ext P w5:=dU (hx.trans' ((Ext.refl _).aC _)) K (λk hk=>(Own.lt l k hk).1);have al:=Kp.ou (M:=(aG A).toList) K (by intro b hb;simp[hb]);have b3:¬((1:Int)=0):=by omega
  have HF:=ah X;have HX:=ah ai;have HK:=ah al;clear X ai al l J K hx;generalize o.length=n at*;go_enter func53,ntmps53;cases A with
  |none=>
   go_wp2_with(at_builtin;refine dH rfl _ _ _ rfl _ _ rfl rfl _ _ U ?_)
   all_goals(go_ret;exact⟨_,_,rfl,HF.out,HX.out,HK.out⟩)
  |some a=>
   obtain⟨ab,ao,bo⟩:=a;go_wp2_with(at_builtin;refine dH rfl _ _ _ rfl _ _ rfl rfl _ _ U ?_)
   all_goals(go_ret;exact⟨_,_,rfl,HF.out,HX.out,HK.out⟩)
 have bp:i<o.length:=by omega
 have a4:=Own.qc l;obtain⟨bq,h'|⟨g,br,m,h',a5,hg,bs,b4,bt,b5⟩⟩:=l
 .omega
 injection h' with e1 e2 e3;subst e1 e3;have am:g<w.heap.size:=(Array.getElem?_eq_some_iff.1 hg).1;obtain⟨W,R⟩:=eX' (w.alloc (.cells #[.string (sB x.1),.string (sB x.2.1),.string (sB x.2.2)] 32));rw[<- R];have L:Ext w W:=by rw[R];exact(Ext.refl _).aC _
 have S:W.heap[g]? =some (.cells m 32 (0,0)):=by rw[L.b.block _ am];exact hg
 have an:∀(j:Nat)(v:Value),(nmC x)[j]? =some v->W.cell? ⟨w.heap.size,0+j,none⟩=some v:=λj v f=>by rw[R];exact Vz w x _ f
 have b6:W.heap.size=w.heap.size+1:=by rw[R];simp
 have a6:∀j,j<c*3->(W.cell? ⟨g,j,none⟩).isSome=true:=λj f=>by rw[cell_of_row W g j m _ (0,0) S,Array.getElem?_eq_getElem (by omega)];rfl
 have Y:∀(j:Nat)(v:Value),(dV o)[j]? =some v->W.cell? ⟨g,j,none⟩=some v:=λj v f=>by
  obtain⟨b,e,h⟩:=a4 j v f;cases e;rw[L.b.cell (p:=⟨g,j,none⟩) am];exact h
 have ap:∀j,W.frozen? ⟨g,j,none⟩=false:=λj=>frozen_of_row W g j m _ S
 have aq:∀v∈nmC x,v.oneCell'=true:=λv hv=>MW [x] v (by simpa[dV]using hv)
 have bu:=yM o;have F:(dV (o.drop i)).length=(o.length - i)*3:=by rw[yM,List.length_drop]
 have T:(prog.info? 32).map (·.size)=some 3:=by
  obtain⟨q,hq,_,h2,_⟩:=info_parts infoNm;rw[hq];simp[h2]
 have b3:¬((1:Int)=0):=by omega
 have bv:¬((i:Int)=(o.length:Int)):=by omega
 have Z:dV o=dV (o.take i)++dV (o.drop i):=by rw[<- EF,List.take_append_drop]
 have z:(dV (o.take i)).length=i*3:=by rw[yM,List.length_take];omega
 have ar:∀v∈dV (o.drop i),v.oneCell'=true:=MW _;have VB:∀(j:Nat)(v:Value),(dV (o.drop i))[j]? =some v->W.cell? ⟨g,i*3+j,none⟩=some v:=λj v f=>Y _ v (by rw[Z,List.getElem?_append_right (by omega),z,Nat.add_sub_cancel_left];exact f)
 have b8:prog.follows .mixedOrders=true:=by kernel_rfl
 have bw:(0:Int)<=(i:Int)+1:=by omega
 have bx:(i:Int)<=(o.length:Int)+1:=by omega
 have bl:i<=o.length:=by omega
 have bz:IntKind.i64.wrap ((i:Int)+1)=(i:Int)+1:=by rw[IntKind.wrap_i64];omega
 have bA:IntKind.i64.wrap ((o.length:Int)+1)=(o.length:Int)+1:=by rw[IntKind.wrap_i64];omega
 have bB:((i:Int)+1).toNat=i+1:=by omega
 have bC:((o.length:Int)+1).toNat=o.length+1:=by omega
 by_cases a7:o.length+1<=c
 .have av:∀lb cb,(callFunc 101 #[.slice (some ⟨w.heap.size,0,none⟩) 1 1,.slice (some ⟨g,(i+1)*3,none⟩) lb cb]).run prog W= .ok (.value (.bool false)) W:=λlb cb=>by
   rw[run_callFunc_extern func101 (by kernel_rfl) (by kernel_rfl) (by kernel_rfl) (e:=Extern.SlicesOverlaps.overlaps #[38,38] #[4]) (by kernel_rfl),
    Lib.run_overlaps_apart W 38 4 32 underlying38 3 Tryz.sizeOf32 ⟨w.heap.size,0,none⟩ ⟨g,(i+1)*3,none⟩ 1 1 lb cb (by show w.heap.size≠g;omega) 32 32 3 m.size
     (by rw[R];simp[World.shape?,World.alloc,-World.alloc_eq]) (by simp[World.shape?,S]) (by omega) (by rw[R];simp[World.frozen?,World.alloc,-World.alloc_eq]) (by rw[R];simp[World.frozen?,World.alloc,-World.alloc_eq])]
   rfl
  have bE:((c:Nat):Int)<(o.length:Int)+1->False:=by omega
  have b9:decide ((c:Int)<(o.length:Int)+1)=false:=dF';have bG:¬(c=i+1):=by omega
  have bJ:¬(c=i):=by omega
  have a0:∀r B sc,(Builtin.copy_ #[38,38] r #[.slice (some ⟨g,(i+1)*3,none⟩) (o.length - i) B,.slice (some ⟨g,i*3,none⟩) (o.length+1 - i) sc]).run prog W.drew= .ok (goInt ((o.length+1 - i).min (o.length - i))) (W.drew.setCells g ((i+1)*3) (dV (o.drop i))):=λr B sc=>
   Hf W.drew _ _ r 32 3 g ((i+1)*3) (o.length - i) B ⟨g,i*3,none⟩ (o.length+1 - i) sc (dV (o.drop i)) underlying38 T (by rw[F];simp only[Nat.min_def];split<;>omega)
    (λj v f=>by rw[Addr.add_lit];exact VB j v f) (λj f=>a6 _ (by omega)) (λj f=>ap _) ar
  clear R;go_enter func53,ntmps53;go_wp2_with(simp only[av]);go_region_law_o (refine step_copy_runI rfl _ _ 38 38 rfl _ _ (by simp[Act.eval,Act.put]) (by simp[Act.eval,Act.put]) (a0 _ _ _) ?_);obtain⟨Q,C⟩:=eX' (W.drew.setCells g ((i+1)*3) (dV (o.drop i)));have a1:∀k,k<c*3->(Q.cell? ⟨g,k,none⟩).isSome=true:=λk hk=>by
   rw[C];refine isSome_setCells g _ _ _ (λj f=> ?_) _ (a6 k hk);have h5:j<(o.length - i)*3:=(by rw[<- F];exact f);exact a6 ((i+1)*3+j) (by omega)
  have aw:∀r B,(Builtin.copy_ #[38,38] r #[.slice (some ⟨g,i*3,none⟩) (o.length+1 - i) B,.slice (some ⟨w.heap.size,0,none⟩) 1 1]).run prog Q= .ok (goInt ((1:Nat).min (o.length+1 - i))) (Q.setCells g (i*3) (nmC x)):=λr B=>
   Hf Q _ _ r 32 3 g (i*3) (o.length+1 - i) B ⟨w.heap.size,0,none⟩ 1 1 (nmC x) underlying38 T (by show 3=_;simp only[Nat.min_def];split<;>omega)
    (λj v f=>by
     rw[Addr.add_lit,C,World.cell?_setCells_out g _ _ _ _ (λh _=>absurd h (by show w.heap.size≠g;omega))]
     exact an j v f)
    (λj f=>by have H:j<3:=f;exact a1 _ (by omega)) (λj f=>by rw[C,World.frozen?_setCells];exact ap _) aq
  have ax:(i+1)*3+(dV (o.drop i)).length<=m.size:=by omega
  obtain⟨qm,I,s⟩:=wH (g:=g) (dV (o.drop i)) ((i+1)*3) m W.drew S ax;have ba:qm.size=m.size:=by
   have:=congrArg List.length s;simp only[Array.length_toList,List.length_append,List.length_take,List.length_drop]at this;omega
  rw[<- C]at I |-;obtain⟨zM,N,D⟩:=wH (g:=g) (nmC x) (i*3) qm Q I (by show i*3+3<=_;omega);have ay:zM.size=m.size:=by
   have:=congrArg List.length D;have H:(nmC x).length=3:=rfl;simp only[Array.length_toList,List.length_append,List.length_take,List.length_drop,H]at this;omega
  have HF:Hid (rO (Q.setCells g (i*3) (nmC x)) P.heap.size (some ⟨g,0,none⟩) (o.length+1) c (o.take i++x::o.drop i)):=ah (Vy a5 hi N a7 b4 (by omega) (by
   have t1:qm.toList.take (i*3)=dV (o.take i):=by
    rw[s,List.append_assoc,List.take_append_of_le_length (by rw[List.length_take,Array.length_toList];omega),List.take_take,Nat.min_eq_left (by omega),aYl,<- b5,List.take_take,Nat.min_eq_left (by omega)]
   have t2:qm.toList.drop (i*3+3)=dV (o.drop i)++m.toList.drop ((i+1)*3+(dV (o.drop i)).length):=by
    rw[s,List.append_assoc];exact List.drop_left' (by rw[List.length_take,Array.length_toList];omega)
   have H:(nmC x).length=3:=rfl;rw[D,H,t1,t2,List.append_assoc,<- List.append_assoc (nmC x),<- List.append_assoc (dV (o.take i))]
   exact List.take_left' (by rw[List.length_append,List.length_append,H,z,F];omega)))
  have HX:Hid (Ext P (Q.setCells g (i*3) (nmC x))):=ah (rG a5 _ _ _ (by rw[C];exact rG a5 _ _ _ (hx.trans' L).dL));have HK:Hid (Kp [g] W (Q.setCells g (i*3) (nmC x))):=ah (Kp.trans (by rw[C];exact(Kp.dn (Ext.refl _).dL).trans (CG (by simp) _ _ _)) (CG (by simp) _ _ _));clear C s D I N a1 a0 av;go_wp2_with(refine wpList_copy_runI _ rfl _ _ 38 38 rfl _ _ rfl rfl (aw _ _) ?_);go_ret;exact⟨_,_,rfl,HF.out,HX.out,HK.out⟩
 .have bb:c<o.length+1:=by omega
  obtain⟨q,hq,hz,bc,az⟩:=info_parts infoNm;have b9:decide ((c:Int)<(o.length:Int)+1)=true:=dT';have aD:(o.length:Int)+1 - (i:Int)=((o.length+1 - i:Nat):Int):=by omega
  have a9:i+(o.length+1 - i)=o.length+1:=by omega
  have a3:(Builtin.firstCells q.size i (.slice (some ⟨g,0,none⟩) i c)).run prog W.drew= .ok (dV (o.take i)).toArray W.drew:=by
   rw[bc]
   exact run_firstCells_some W.drew 3 i ⟨g,0,none⟩ i c (dV (o.take i)) z (λj v f=>by
    rw[Addr.add_lit,Nat.zero_add]
    exact Y j v (by rw[Z,List.getElem?_append_left (List.getElem?_eq_some_iff.1 f).1];exact f))
  obtain⟨G,hG⟩:=eX' (grownCap W (o.length+1) c 32);have bd:o.length+1<=G:=by rw[hG];exact grownCap_ge W _ _ _
  have be:G<=maxLen:=by rw[hG];exact grownCap_le_maxLen W _ _ _ (by unfold maxLen;omega)
  obtain⟨d,E⟩:∃d:Array Value,d=(dV (o.take i)).toArray++Builtin.zeroCells (.agg #[.string ⟨#[]⟩,.string ⟨#[]⟩,.string ⟨#[]⟩]:Value).cells (o.length+1 - i)++Builtin.zeroCells (.agg #[.string ⟨#[]⟩,.string ⟨#[]⟩,.string ⟨#[]⟩]:Value).cells (G - (o.length+1)):=⟨_,rfl⟩;have bf:∀r,(Builtin.append_ #[38,3] r #[.slice (some ⟨g,0,none⟩) i c,.int .i64 ((o.length:Int)+1 - (i:Int))]).run prog W= .ok (.slice (some ⟨W.heap.size,0,none⟩) (o.length+1) G) (W.drew.alloc (.cells d 32)):=λr=>by
   have h:=Lib.run_append_grow_zeros W 38 3 r 32 q _ .i64 .i64 underlying38 underlying3 hq hz (some ⟨g,0,none⟩) i c _ a3 (o.length+1 - i) (by omega) (by omega) (by omega) (by omega) (by rw[az];omega) (by rw[az,a9];exact growslice_fits bb (by omega));rw[a9,<- hG]at h;rw[aD,E];exact h
  have bL:d.size=G*3:=by
   rw[E];simp[Builtin.zeroCells,Value.cells,z];omega
  have aE:d.toList.take (i*3)=dV (o.take i):=by
   rw[E];simp only[Array.toList_append,List.append_assoc];exact List.take_left' z
  clear E a3 hG;have bN:¬(G=i):=by omega
  have bm:¬(G=i+1):=by omega
  have bO:¬(c=i):=by omega
  have hN:∀j,j<G*3->((W.drew.alloc (.cells d 32)).cell? ⟨W.heap.size,j,none⟩).isSome=true:=λj f=>by
   rw[World.cell?_alloc_at (w:=W.drew) d _ W.heap.size j rfl,Array.getElem?_eq_getElem (by omega)];rfl
  have aa:∀j,(W.drew.alloc (.cells d 32)).frozen? ⟨W.heap.size,j,none⟩=false:=λj=>World.frozen?_alloc_at (w:=W.drew) d _ W.heap.size j rfl
  have MX:∀b,b<W.heap.size->∀j v,W.cell? ⟨b,j,none⟩=some v->(W.drew.alloc (.cells d 32)).cell? ⟨b,j,none⟩=some v:=λb hb j v h=>by rw[World.cell?_alloc_past (w:=W.drew) _ b j hb];exact h
  have aL:∀(V:World),(∀y,V.cell? y=(W.drew.alloc (.cells d 32)).cell? y)->(∀y,V.frozen? y=(W.drew.alloc (.cells d 32)).frozen? y)->∀r B,(Builtin.copy_ #[38,38] r #[.slice (some ⟨W.heap.size,i*3,none⟩) (o.length+1 - i) B,.slice (some ⟨w.heap.size,0,none⟩) 1 1]).run prog V= .ok (goInt ((1:Nat).min (o.length+1 - i))) (V.setCells W.heap.size (i*3) (nmC x)):=λV O ac r B=>
   Hf V _ _ r 32 3 W.heap.size (i*3) (o.length+1 - i) B ⟨w.heap.size,0,none⟩ 1 1 (nmC x) underlying38 T (by show 3=_;simp only[Nat.min_def];split<;>omega)
    (λj v f=>by rw[Addr.add_lit,O];exact MX _ (by omega) _ v (an j v f))
    (λj f=>by have H:j<3:=f;rw[O];exact hN _ (by omega)) (λj f=>by rw[ac];exact aa _) aq
  have aM:∀(V:World),(∀y,V.cell? y=((W.drew.alloc (.cells d 32)).setCells W.heap.size (i*3) (nmC x)).cell? y)->(∀y,V.frozen? y=((W.drew.alloc (.cells d 32)).setCells W.heap.size (i*3) (nmC x)).frozen? y)->∀r B sc,(Builtin.copy_ #[38,38] r #[.slice (some ⟨W.heap.size,(i+1)*3,none⟩) (o.length - i) B,.slice (some ⟨g,i*3,none⟩) (o.length - i) sc]).run prog V= .ok (goInt ((o.length - i).min (o.length - i))) (V.setCells W.heap.size ((i+1)*3) (dV (o.drop i))):=λV O ac r B sc=>
   Hf V _ _ r 32 3 W.heap.size ((i+1)*3) (o.length - i) B ⟨g,i*3,none⟩ (o.length - i) sc (dV (o.drop i)) underlying38 T (by rw[F];simp only[Nat.min_def];split<;>omega)
    (λj v f=>by
     rw[Addr.add_lit,O,World.cell?_setCells_out _ _ _ _ _ (λh _=>absurd h (by show g≠W.heap.size;omega))]
     exact MX _ (by omega) _ v (VB j v f))
    (λj f=>by
     have h5:j<(o.length - i)*3:=(by rw[<- F];exact f);rw[O]
     exact isSome_setCells _ _ _ _ (λt ht=>by have H:t<3:=ht;exact hN _ (by omega)) _ (hN _ (by omega)))
    (λj f=>by rw[ac,World.frozen?_setCells];exact aa _) ar
  obtain⟨qm,I,s⟩:=wH (g:=W.heap.size) (nmC x) (i*3) d (W.alloc (.cells d 32)).drew (heap_alloc_new W _) (by show i*3+3<=_;omega);have ba:qm.size=G*3:=by
   have:=congrArg List.length s;have H:(nmC x).length=3:=rfl;simp only[Array.length_toList,List.length_append,List.length_take,List.length_drop,H]at this;omega
  obtain⟨zM,N,D⟩:=wH (g:=W.heap.size) (dV (o.drop i)) ((i+1)*3) qm ((W.alloc (.cells d 32)).drew.setCells W.heap.size (i*3) (nmC x)).drew I (by omega);have ay:zM.size=G*3:=by
   have:=congrArg List.length D;simp only[Array.length_toList,List.length_append,List.length_take,List.length_drop]at this;omega
  have MZ:P.heap.size<=W.heap.size:=Nat.le_trans hx.b.size L.b.size
  have HF:Hid (rO (((W.alloc (.cells d 32)).drew.setCells W.heap.size (i*3) (nmC x)).drew.setCells W.heap.size ((i+1)*3) (dV (o.drop i))) P.heap.size (some ⟨W.heap.size,0,none⟩) (o.length+1) G (o.take i++x::o.drop i)):=ah (Vy MZ hi N bd be ay (by
   have t1:qm.toList.take ((i+1)*3)=dV (o.take i)++nmC x:=by
    rw[s,aE];exact List.take_left' (by have H:(nmC x).length=3:=rfl;rw[List.length_append,z,H];omega)
   rw[D,t1,List.append_assoc (dV (o.take i))]
   exact List.take_left' (by have H:(nmC x).length=3:=rfl;rw[List.length_append,List.length_append,H,z,F];omega)))
  have HX:Hid (Ext P (((W.alloc (.cells d 32)).drew.setCells W.heap.size (i*3) (nmC x)).drew.setCells W.heap.size ((i+1)*3) (dV (o.drop i)))):=ah (rG MZ _ _ _ (rG MZ _ _ _ (((hx.trans' L).aC _).dL)).dL);have HK:Hid (Kp (aG (some ⟨g,0,none⟩)).toList W (((W.alloc (.cells d 32)).drew.setCells W.heap.size (i*3) (nmC x)).drew.setCells W.heap.size ((i+1)*3) (dV (o.drop i)))):=ah (Kp.dn (rG (Nat.le_refl _) _ _ _ (rG (Nat.le_refl _) _ _ _ (((Ext.refl _).aC _).dL)).dL));have bh:∀x,((W.alloc (.cells d 32)).drew).cell? x=(W.drew.alloc (.cells d 32)).cell? x:=λx=>rfl
  have bi:∀x,((W.alloc (.cells d 32)).drew).frozen? x=(W.drew.alloc (.cells d 32)).frozen? x:=λx=>rfl
  have bj:∀y,(((W.alloc (.cells d 32)).drew.setCells W.heap.size (i*3) (nmC x)).drew).cell? y=((W.drew.alloc (.cells d 32)).setCells W.heap.size (i*3) (nmC x)).cell? y:=λy=>rfl
  have bk:∀y,(((W.alloc (.cells d 32)).drew.setCells W.heap.size (i*3) (nmC x)).drew).frozen? y=((W.drew.alloc (.cells d 32)).setCells W.heap.size (i*3) (nmC x)).frozen? y:=λy=>rfl
  clear I N s D aE hN aa MX R aD a9 b6;go_enter func53,ntmps53
  go_wp2_with(first
   |(at_builtin;refine Lib.wpList_append_run _ rfl _ _ _ _ rfl _ _ rfl rfl _ _ (bf _) ?_)
   |(refine wpList_copy_runI _ rfl _ _ 38 38 rfl _ _ rfl rfl (aL _ bh bi _ _) ?_))
  go_region_law_o (refine step_copy_runI rfl _ _ 38 38 rfl (.slice (some ⟨W.heap.size,(i+1)*3,none⟩) (o.length - i) (G - (i+1))) (.slice (some ⟨g,i*3,none⟩) (o.length - i) (c - i)) (by simp[Act.eval,Act.put]) (by simp[Act.eval,Act.put]) (aM _ bj bk 3 (G - (i+1)) (c - i)) ?_);go_wp2;go_ret;exact⟨_,_,rfl,HF.out,HX.out,HK.out⟩
end Go.Proofs.YtlmkgaoakcjlnaaGreatDoor
