/- Part Bz25. -/
import Derived.Test.YtpmgophlhmcogaaGreatDoorBz21
import Derived.Test.YtpmgophlhmcogaaGreatDoorBz24
open Go.Proofs.Tryz
namespace Go.Proofs.YtpmgophlhmcogaaGreatDoor
set_option maxHeartbeats 25600000
set_option maxRecDepth 100000
open Go.RowKit
def uM:List Mp->List SV->List Value
 |m::L,s::Z=>.int .i64 m.lo:: .slice s.a s.n s.c::uM L Z
 |_,_=>[]
theorem Dp:∀(L:List Mp)(Z:List SV),L.length=Z.length->(uM L Z).length=L.length*2
 |[],[],_=>rfl
 |m::L,s::Z,h=>by simp only[uM,List.length_cons,Dp L Z (by simpa using h)];omega
 |[],_::_,h=>by simp at h
 |_::_,[],h=>by simp at h
theorem DX:∀(L:List Mp)(Z:List SV)(i:Nat)(m:Mp)(s:SV),L[i]? =some m->Z[i]? =some s->(uM L Z)[i*2]? =some (.int .i64 m.lo)/\(uM L Z)[i*2+1]? =some (.slice s.a s.n s.c)
 |[],_,i,m,s,h,_=>by simp at h
 |_::_,[],i,m,s,_,h=>by simp at h
 |x::L,y::Z,0,m,s,h,h'=>by simp at h h';subst h h';simp[uM]
 |x::L,y::Z,i+1,m,s,h,h'=>by
  simp only[List.getElem?_cons_succ]at h h';have:=DX L Z i m s h h';rw[show(i+1)*2=i*2+2 from by omega];exact this
def lD(M:List Nat)(w:World)(base:Nat)(A:Option Addr)(n c:Nat)(L:List Mp):Prop:=
 ∃Z,L.length=Z.length/\Own w base 71 2 A n c (uM L Z)/\∀(i:Nat)(m:Mp)(s:SV),L[i]? =some m->Z[i]? =some s->au (hide M w) s m.to
theorem lD.nil_(M:List Nat)(w:World)(a:Nat):lD M w a none 0 0 []:=⟨[],rfl,Own.nil_ _ _ _ _,λi m s h=>by simp at h⟩
theorem lD.lt{M:List Nat}{w:World}{a n c:Nat}{A:Option Addr}{L:List Mp}(h:lD M w a A n c L):∀k,aK A=some k->a<=k/\k<w.heap.size:=by
 obtain⟨Z,_,h,_⟩:=h;exact h.lt
theorem lD.len{M:List Nat}{w:World}{a n c:Nat}{A:Option Addr}{L:List Mp}(h:lD M w a A n c L):n=L.length/\n<=c/\c<=maxLen:=by
 obtain⟨Z,b,h,_⟩:=h;have d:=h.len;rw[Dp L Z b]at d;exact⟨by omega,h.le⟩
theorem lD.maps{M:List Nat}{w:World}{g n c:Nat}{A:Option Addr}{L:List Mp}(h:lD M w g A n c L){j:List Nat}(C:∀b,aK A=some b->b∉j)(D:∀b∈j,b∈M):bn (hide j w) ⟨A,n,c⟩ L:=by
 obtain⟨r,E,s⟩:=h.len;obtain⟨Z,F,h,ht⟩:=h;refine⟨⟨r,by show L.length<=c;omega,s⟩,λi x k=>?_⟩;have o:i<Z.length:=by have:=(List.getElem?_eq_some_iff.1 k).1;omega
 obtain⟨t,y⟩:=DX L Z i x Z[i] k (List.getElem?_eq_getElem o);obtain⟨b,rfl,z⟩:=h.tK _ _ t;obtain⟨G,d,l⟩:=h.tK _ _ y;injection d with d;injection d with d;subst d;have q:b∉j:=C b rfl;refine⟨b,0,Z[i].a,Z[i].n,Z[i].c,rfl,?_,?_,?_⟩
 .rw[vW,nN' q,Nat.zero_add];exact z
 .rw[vW,nN' q,Nat.zero_add];exact l
 .refine(ht i x Z[i] k (List.getElem?_eq_getElem o)).sub λp v f=>?_
  rw[vW]at f |-;by_cases m:p.block∈M
  .rw[pP' m]at f;cases f
  .rw[nN' m]at f;rw[nN' λB=>m (D _ B)];exact f
theorem lD.kp{M d N:List Nat}{w w':World}{a n c:Nat}{A:Option Addr}{L:List Mp}(h:lD M w a A n c L)(f:Kp N w w')(l:∀b,aK A=some b->b∉N)(o:∀b∈M,b∈d)(p:∀b∈d,b∈M\/w.heap.size<=b)(q:∀b∈N,b∈M\/w.heap.size<=b):lD d w' a A n c L:=by
 obtain⟨Z,g,h,ht⟩:=h;exact⟨Z,g,Own.kp h f l,λi m s j k=>(ht i m s j k).keep (Df (f.mono q) o p)⟩
theorem Own.types{w:World}{r s:Nat}{k l:TypeId}{t x y z A B:Nat}{m n:Option Addr}{C D:List Value}(E:Own w r k t m y A C)(F:Own w s l x n z B D)(i:k≠l):∀b,aK m=some b->aK n≠some b:=by
 intro b h c;rcases E.2 with⟨d,_⟩|⟨g,o,p,d,_,q,_⟩
 .injection d with d;subst d;cases h
 .injection d with d;subst d;rcases F.2 with⟨a,_⟩|⟨G,j,H,a,_,f,_⟩
  .injection a with a;subst a;cases c
  .injection a with a;subst a;simp only[aK,Option.map_some,Option.some.injEq]at h c;subst h c;rw[q]at f;injection f with f;injection f with _ f;exact i f
theorem Kp.via{M N:List Nat}{a b c:World}(h:Kp M a b)(k:Kp N b c)(i:∀x∈N,x∈M\/a.heap.size<=x):Kp M a c:=
 ⟨k.os.trans h.os,k.tape.trans h.tape,k.output.trans h.output,Nat.le_trans h.size k.size,λp d f=>(k.block p (lt' d h.size) (λg=>(i p g).elim f (λj=>by omega))).trans (h.block p d f)⟩
structure lU(we w0 w:World)(g tb bs:Nat)(E M:List Nat)(A9:Option Addr)(n9 c9:Nat)(fZ:Option Addr)(n10 c10:Nat)(D:nV)(r:List Int):Prop where
 src:Src w0 w g r
 ext:Ext w0 w
 kp:Kp [g,tb] we w
 oth:∀k,k≠9->k≠10->w.cell? ⟨tb,k,none⟩=we.cell? ⟨tb,k,none⟩
 um:∀k,w.frozen? ⟨tb,k,none⟩=false
 v9:w.cell? ⟨tb,9,none⟩=some (.slice A9 n9 c9)
 v10:w.cell? ⟨tb,10,none⟩=some (.slice fZ n10 c10)
 o9:lD M w bs A9 n9 c9 D.dec
 o10:aB w bs fZ n10 c10 D.exc
 hg:g∈M
 ht:tb∈M
 h9:∀b,aK A9=some b->b∈M
 h10:∀b,aK fZ=some b->b∈M
 hM:∀b∈M,b<w.heap.size
 hE:∀b∈E,b∈M/\b<bs
section
variable {we w0 w w':World}{g tb bs n9 c9 n10 c10:Nat}{E M M' N:List Nat}{A9 fZ:Option Addr}{D:nV}{r r':List Int}
theorem lU.step(h:lU we w0 w g tb bs E M A9 n9 c9 fZ n10 c10 D r)(j:Kp N w w')(x:Src w0 w' g r')(a:Ext w0 w')(d:tb∉N)(l:∀b∈M,b∈M')(o:∀b∈M',b∈M\/w.heap.size<=b)(y:∀b∈M',b<w'.heap.size)
 (m:∀b∈N,b=g\/b∈M'/\we.heap.size<=b/\aK A9≠some b/\aK fZ≠some b) (z:g<bs):lU we w0 w' g tb bs E M' A9 n9 c9 fZ n10 c10 D r':=by
 have c:=h.hM tb h.ht;have p:∀b,aK A9=some b->b∉N:=λb a f=>by
  rcases m b f with rfl|⟨_,_,i,_⟩
  .have:=(h.o9.lt b a).1;omega
  .exact i a
 have q:∀b,aK fZ=some b->b∉N:=λb a f=>by
  rcases m b f with rfl|⟨_,_,_,i⟩
  .have:=(Own.lt h.o10 b a).1;omega
  .exact i a
 have n:∀b∈N,b∈M\/w.heap.size<=b:=λb f=>by
  rcases m b f with rfl|⟨i,_⟩
  .exact .inl h.hg
  .exact o b i
 exact⟨x,a,h.kp.via j λb f=>by
  rcases m b f with rfl|⟨_,i,_⟩
  .exact .inl (by simp)
  .exact .inr i,λk s t=>(j.cell ⟨tb,k,none⟩ c d).trans (h.oth k s t),λk=>(j.frozen ⟨tb,k,none⟩ c d).trans (h.um k),(j.cell ⟨tb,9,none⟩ c d).trans h.v9,(j.cell ⟨tb,10,none⟩ c d).trans h.v10,
  h.o9.kp j p l o n,Own.kp h.o10 j q,l g h.hg,l tb h.ht,λb a=>l b (h.h9 b a),λb a=>l b (h.h10 b a),y,λb a=>⟨l b (h.hE b a).1,(h.hE b a).2⟩⟩
theorem lU.next(h:lU we w0 w g tb bs E M A9 n9 c9 fZ n10 c10 D r)(c:Kp [g] w w')(d:Src w0 w' g r')(a:Ext w0 w')(f:g<tb)(i:tb<bs):lU we w0 w' g tb bs E M A9 n9 c9 fZ n10 c10 D r':=
 h.step c d a (by simp;omega) (λ_ h=>h) (λ_ h=>.inl h) (λb a=>lt' (h.hM b a) c.size) (λb a=>.inl (by simpa using a)) (by omega)
theorem lU.more(h:lU we w0 w g tb bs E M A9 n9 c9 fZ n10 c10 D r)(a:Ext w w')(c:g<bs)(f:∀b∈M,b∈M')(i:∀b∈M',b∈M\/w.heap.size<=b)(j:∀b∈M',b<w'.heap.size):lU we w0 w' g tb bs E M' A9 n9 c9 fZ n10 c10 D r:=
 h.step (N:=[]) (Kp.dN a) (h.src.kp (M:=[]) (Kp.dN a) (by simp)) (h.ext.trans' a) (by simp) f i j (λb d=>(by cases d)) c
theorem lU.ay(h:lU we w0 w g tb bs E M A9 n9 c9 fZ n10 c10 D r)(c:Ext w w')(a:g<bs):lU we w0 w' g tb bs E M A9 n9 c9 fZ n10 c10 D r:=
 h.more c a (λ_ h=>h) (λ_ h=>.inl h) (λb d=>lt' (h.hM b d) c.b.size)
theorem JC:3≠71:=by decide
end
theorem MF{w:World}{f p:Nat}{x:Int}(h:aB w f (some ⟨p,0,none⟩) 1 1 [x])(y:Int):aB (w.setCell ⟨p,0,none⟩ (.int .i64 y)) f (some ⟨p,0,none⟩) 1 1 [y]:=by
 refine⟨rfl,.inr ?_⟩;rcases h.2 with⟨a,_⟩|⟨g,i,b,a,j,k,m,n,c,q⟩
 .cases a
 .injection a with a _ o;injection a with a;injection a with a;subst a o;refine⟨p,1,b.setIfInBounds 0 (.int .i64 y),rfl,j,?_,m,n,by simpa using c,?_⟩
  .unfold World.setCell;simp only[Array.getElem?_modify,if_true,k,Option.map_some];rfl
  .have d:b.size=1:=by simpa using c
   obtain⟨l,rfl⟩:∃l,b=⟨l⟩:=⟨b.toList,rfl⟩;simp at d
   match l,d with
   |[z],_=>rfl
section
variable {we w0 w w':World}{g tb bs n9 c9 n10 c10:Nat}{E M:List Nat}{A9 fZ:Option Addr}{D:nV}{r:List Int}
end
structure qL(we w0 w:World)(g tb bs:Nat)(E M:List Nat)(A9:Option Addr)(n9 c9:Nat)(fZ:Option Addr)(n10 c10:Nat)(D:nV)(r:List Int)(mb:Nat)(lo:Int)(A:Option Addr)(n c:Nat)(«to»:List Int):Prop where
 st:lU we w0 w g tb bs E M A9 n9 c9 fZ n10 c10 D r
 m0:w.cell? ⟨mb,0,none⟩=some (.int .i64 lo)
 m1:w.cell? ⟨mb,1,none⟩=some (.slice A n c)
 fz:w.frozen? ⟨mb,1,none⟩=false
 own:aB w bs A n c «to»
 hmb:mb∈M
 bmb:bs<=mb
 hA:∀b,aK A=some b->b∈M
 d1:aK A9≠some mb
 d2:aK fZ≠some mb
 d3:∀b,aK A=some b->aK fZ≠some b
 d4:aK A≠some mb
section
variable {we w0 w w':World}{g tb bs n9 c9 n10 c10 mb n c:Nat}{E M M' N:List Nat}{A9 fZ A:Option Addr}{D:nV}{r r' «to»:List Int}{lo x:Int}{p:Nat}
theorem qL.next(h:qL we w0 w g tb bs E M A9 n9 c9 fZ n10 c10 D r mb lo A n c «to»)(d:Kp [g] w w')(l:Src w0 w' g r')(i:Ext w0 w')(j:g<tb)(k:tb<bs):qL we w0 w' g tb bs E M A9 n9 c9 fZ n10 c10 D r' mb lo A n c «to»:=by
 have f:mb∉[g]:=by have:=h.bmb;simp;omega
 have a:=h.st.hM mb h.hmb;exact⟨h.st.next d l i j k,(d.cell ⟨mb,0,none⟩ a f).trans h.m0,(d.cell ⟨mb,1,none⟩ a f).trans h.m1,(d.frozen ⟨mb,1,none⟩ a f).trans h.fz,Own.kp h.own d (λb i=>by have:=(Own.lt h.own b i).1;simp;omega),h.hmb,h.bmb,h.hA,h.d1,h.d2,h.d3,h.d4⟩
theorem qL.ay(h:qL we w0 w g tb bs E M A9 n9 c9 fZ n10 c10 D r mb lo A n c «to»)(a:Ext w w')(b:g<tb)(d:tb<bs):qL we w0 w' g tb bs E M A9 n9 c9 fZ n10 c10 D r mb lo A n c «to»:=
 h.next (Kp.dN a) (h.st.src.kp (M:=[]) (Kp.dN a) (by simp)) (h.st.ext.trans' a) b d
theorem qL.put(h:qL we w0 w g tb bs E M A9 n9 c9 fZ n10 c10 D r mb lo (some ⟨p,0,none⟩) 1 1 [x])(l:g<tb)(m:tb<bs)(n:we.heap.size<=bs)(o:w0.heap.size<=tb)(y:Int):
 qL we w0 (w.setCell ⟨p,0,none⟩ (.int .i64 y)) g tb bs E M A9 n9 c9 fZ n10 c10 D r mb lo (some ⟨p,0,none⟩) 1 1 [y]:=by
 have i:=Own.lt h.own p rfl;have d:Kp [p] w (w.setCell ⟨p,0,none⟩ (.int .i64 y)):=Kp.setCell _ _ _ _ (by simp);have j:aK A9≠some p:=by
  obtain⟨Z,_,k,_⟩:=h.st.o9;exact Own.types h.own k JC p rfl
 have a:mb≠p:=λe=>h.d4 (by rw[e];rfl)
 have c:=h.st.hM mb h.hmb;refine⟨h.st.step d (h.st.src.kp d (by simp;omega)) (h.st.ext.lG (by show w0.heap.size<=p;omega) _) (by simp;omega) (λ_ h=>h) (λ_ h=>.inl h) (λb f=>by simpa using h.st.hM b f) (λb f=>?_) (by omega),(d.cell ⟨mb,0,none⟩ c (by simpa using a)).trans h.m0,(d.cell ⟨mb,1,none⟩ c (by simpa using a)).trans h.m1,(d.frozen ⟨mb,1,none⟩ c (by simpa using a)).trans h.fz,?_,h.hmb,h.bmb,h.hA,h.d1,h.d2,h.d3,h.d4⟩
 .simp at f;subst f;exact .inr ⟨h.hA _ rfl,by omega,j,h.d3 _ rfl⟩
 .exact MF h.own y
end
structure XSt(wo w0 w:World)(g:Nat)(r:List Int)(mb:Nat)(lo:Int)(A:Option Addr)(n c:Nat)(«to»:List Int):Prop where
 kp:Kp [g] wo w
 src:Src w0 w g r
 ext:Ext w0 w
 m0:w.cell? ⟨mb,0,none⟩=some (.int .i64 lo)
 m1:w.cell? ⟨mb,1,none⟩=some (.slice A n c)
 fz:w.frozen? ⟨mb,1,none⟩=false
 own:aB w wo.heap.size A n c «to»
 bmb:wo.heap.size<=mb
 d:aK A≠some mb
section
variable {wo w0 w w':World}{g mb n c:Nat}{A:Option Addr}{r r' «to»:List Int}{lo:Int}
theorem XSt.lt(h:XSt wo w0 w g r mb lo A n c «to»):mb<w.heap.size:=World.block_lt_of_cell? w _ h.m0
theorem XSt.next(h:XSt wo w0 w g r mb lo A n c «to»)(a:Kp [g] w w')(j:Src w0 w' g r')(i:Ext w0 w')(k:g<wo.heap.size):XSt wo w0 w' g r' mb lo A n c «to»:=by
 have f:mb∉[g]:=by have:=h.bmb;simp;omega
 exact⟨h.kp.trans a,j,i,(a.cell ⟨mb,0,none⟩ h.lt f).trans h.m0,(a.cell ⟨mb,1,none⟩ h.lt f).trans h.m1,(a.frozen ⟨mb,1,none⟩ h.lt f).trans h.fz,Own.kp h.own a (λb i=>by have:=(Own.lt h.own b i).1;simp;omega),h.bmb,h.d⟩
theorem XSt.ay(h:XSt wo w0 w g r mb lo A n c «to»)(a:Ext w w')(b:g<wo.heap.size):XSt wo w0 w' g r mb lo A n c «to»:=
 h.next (Kp.dN a) (h.src.kp (M:=[]) (Kp.dN a) (by simp)) (h.ext.trans' a) b
end
structure MSt(we w0 w:World)(g tb bs pb:Nat)(M:List Nat)(A8:Option Addr)(n8 c8:Nat)(A6:Option Addr)(n6 c6:Nat)(st:List Int)(P:Mps)(r:List Int):Prop where
 src:Src w0 w g r
 ext:Ext w0 w
 kp:Kp (g::tb::(aK A6).toList) we w
 oth:∀k,k≠5->k≠8->w.cell? ⟨tb,k,none⟩=we.cell? ⟨tb,k,none⟩
 um:∀k,w.frozen? ⟨tb,k,none⟩=false
 v8:w.cell? ⟨tb,8,none⟩=some (.slice A8 n8 c8)
 o8:lD M w bs A8 n8 c8 P.mps
 col:iI M w tb 5 P.bH
 o6:aB w (tb+1) A6 n6 c6 st
 l6:∀b,aK A6=some b->b<bs
 hg:g∈M
 ht:tb∈M
 h8:∀b,aK A8=some b->b∈M
 h6:∀b,aK A6=some b->b∈M
 hM:∀b∈M,b<w.heap.size
 pool:au (hide M w) ⟨some ⟨pb,0,none⟩,28,28⟩ nH
section
variable {we w0 w w':World}{g tb bs pb n8 c8 n6 c6:Nat}{M:List Nat}{A8 A6:Option Addr}{P:Mps}{r r' st:List Int}
theorem MSt.next(h:MSt we w0 w g tb bs pb M A8 n8 c8 A6 n6 c6 st P r)(d:Kp [g] w w')(m:Src w0 w' g r')(a:Ext w0 w')(n:g<tb)(o:tb<bs):MSt we w0 w' g tb bs pb M A8 n8 c8 A6 n6 c6 st P r':=by
 have f:=h.hM tb h.ht;have c:tb∉[g]:=by simp;omega
 have i:∀b∈[g],b∈M\/w.heap.size<=b:=by intro b a;simp at a;subst a;exact .inl h.hg
 exact⟨m,a,h.kp.via d (λb a=>.inl (by simp at a;simp[a])),λk j l=>(d.cell ⟨tb,k,none⟩ f c).trans (h.oth k j l),λk=>(d.frozen ⟨tb,k,none⟩ f c).trans (h.um k),(d.cell ⟨tb,8,none⟩ f c).trans h.v8,
  h.o8.kp d (λb a=>by have:=(h.o8.lt b a).1;simp;omega) (λ_ h=>h) (λ_ h=>.inl h) i,h.col.kp d i c,Own.kp h.o6 d (λb a=>by have:=(Own.lt h.o6 b a).1;simp;omega),h.l6,h.hg,h.ht,h.h8,h.h6,λb a=>lt' (h.hM b a) d.size,h.pool.keep (jL (d.mono i))⟩
theorem MSt.ay(h:MSt we w0 w g tb bs pb M A8 n8 c8 A6 n6 c6 st P r)(a:Ext w w')(b:g<tb)(c:tb<bs):MSt we w0 w' g tb bs pb M A8 n8 c8 A6 n6 c6 st P r:=
 h.next (Kp.dN a) (h.src.kp (M:=[]) (Kp.dN a) (by simp)) (h.ext.trans' a) b c
end
noncomputable def jJ(T:aj):Int->List (List Int)->Option (Int×Int)
 |_,[]=>none
 |i,l::r=>if(fB T l).2≠0 then some (i,(fB T l).2)else jJ T (i+1) r
noncomputable def oH(T:aj)(L:List (List Int)):List (List Int)×Int×Int:=
 match jJ T 0 L with
 |some p=>([],p)
 |none=>if oG T (L.map λl=>(fB T l).1)≠0 then([],pW T (L.map λl=>(fB T l).1),oG T (L.map λl=>(fB T l).1))else(L.map λl=>(fB T l).1,0,0)
noncomputable def bT(T:aj)(s:List Int):List (List Int)×Int×Int:=
 if bC T=false then([],0,2)else if s.length=0 then([],0,10)else if(fC s).2.2≠0 then([],(fC s).2.1,(fC s).2.2)
 else if je T (fC s).1≠0 then([],oD T (fC s).1,je T (fC s).1)else if eF T (jH T (fC s).1)≠0 then([],0,eF T (jH T (fC s).1))
 else oH T (kL (kU T (jH T (fC s).1)))
def Io(w:World)(d:List (List Int)×Int×Int)(e:Ending)(w':World):Prop:=∃A n c,e=.returned (.tuple #[.slice A n c,.int .i64 d.2.1,.int .i64 d.2.2])/\jR w' ⟨A,n,c⟩ d.1/\Ext w w'
theorem uI(w:World):jR w ⟨none,0,0⟩ []:=⟨⟨rfl,lr' _,by simp only[maxLen];omega⟩,λi x a=>by simp at a⟩
theorem QK{T:aj}{L:List (List Int)}{k:Nat}(a:k<L.length):jJ T k (L.drop k)=if(fB T L[k]).2≠0 then some ((k:Int),(fB T L[k]).2)else jJ T ((k+1:Nat):Int) (L.drop (k+1)):=by
 rw[drop_at L k a];rfl
theorem Hw{T:aj}{l:List Int}(h:(fB T l).2=0):gu T (fB T l).1=0:=by
 unfold fB at h |-;split at h
 .exact absurd h ‹_›
 .split at h
  .exact absurd h ‹_›
  .rename_i b a;rw[nN' b,nN' a];exact Decidable.not_not.1 a
theorem Cm{T:aj}{l:List Int}(h:gu T l=0):aS T l=0:=by
 unfold gu at h;split at h
 .rename_i a;exact absurd h a
 .rename_i a;exact Decidable.not_not.1 a
theorem Cc:∀(r:List Int)(L:List (List Int))(cur:List Int),(lbG L cur r).length<=L.length+1+r.length
 |[],L,cur=>by simp[lbG]
 |c::r,L,cur=>by
  unfold lbG;split
  .have:=Cc r (L++[cur]) [];simp at this |-;omega
  .have:=Cc r L (cur++[c]);simp at this |-;omega
theorem Ce:∀(r:List Int)(L:List (List Int))(cur:List Int)(x:List Int),x∈lbG L cur r->x∈L\/x.length<=cur.length+r.length
 |[],L,cur,x,h=>by
  unfold lbG at h;rw[List.mem_append,List.mem_singleton]at h;rcases h with h|rfl
  .exact .inl h
  .exact .inr (lr' _)
 |c::r,L,cur,x,h=>by
  unfold lbG at h;split at h
  .rcases Ce r _ _ x h with a|a
   .rw[List.mem_append,List.mem_singleton]at a;rcases a with a|rfl
    .exact .inl a
    .exact .inr (by simp)
   .exact .inr (by simp at a |-;omega)
  .rcases Ce r _ _ x h with a|a
   .exact .inl a
   .exact .inr (by simp at a |-;omega)
theorem Hr(l:List Int):(kL l).length<=l.length+1:=by
 have:=Cc l [] [];unfold kL;simp at this;omega
theorem QI{l x:List Int}(h:x∈kL l):x.length<=l.length:=by
 rcases Ce l [] [] x h with a|a
 .cases a
 .simpa using a
theorem CB{T:aj}{L:List (List Int)}{p:Int×Int}(h:jJ T 0 L=some p):oH T L=([],p):=by
 unfold oH;rw[h]
theorem Cj{T:aj}{L:List (List Int)}(h:jJ T 0 L=none):oH T L=if oG T (L.map λl=>(fB T l).1)≠0 then([],pW T (L.map λl=>(fB T l).1),oG T (L.map λl=>(fB T l).1))else(L.map λl=>(fB T l).1,0,0):=by
 unfold oH;rw[h]
theorem Ci{T:aj}:∀{L:List (List Int)}{i:Int},jJ T i L=none->∀l∈L,(fB T l).2=0
 |[],_,_,l,a=>by cases a
 |x::r,i,h,l,a=>by
  unfold jJ at h;split at h
  .cases h
  .rename_i b;rcases List.mem_cons.1 a with rfl|a
   .exact Decidable.not_not.1 b
   .exact Ci h l a
theorem QJ{α β:Type}(f:α->β)(L:List α)(M:List β)(e:M.length=L.length)(k:Nat)(a:k<L.length)(h:M.take k=(L.take k).map f):(M.set k (f L[k])).take (k+1)=(L.take (k+1)).map f:=by
 rw[tS' a,List.map_append,tS' (by simp[e,a]),List.take_set_of_le (lr' _),h];simp
def PrL(T:aj)(w0 wb:World)(g N C:Nat)(L:List (List Int))(gh:Nat)(s53:Value)(wx:World):Prop:=
 ∃(k:Nat)(S:List SV)(M:List (List Int)),k+gh=N/\s53=.int .i64 k/\Hid (LsP w0 wx g N C S M)/\Hid (M.take k=(L.take k).map λl=>(fB T l).1)/\Hid (M.drop k=L.drop k)/\Hid (jJ T k (L.drop k)=jJ T 0 L)/\Hid (Ext wb wx)
theorem Ht(T:aj)(t:TV)(s:List Int)(w:World)(ht:aN w t T)(hs:IsB s):Calls prog 68 #[t.v,.string (sB s)] w (Io w (bT T s)):=by
 have a1:=dI w t;have p:=ah a1;have HT:=ah (ht.ay a1);have HC:=ah (Dh t T (tW' w t) HT.out)
 have HD:Hid (bT T s=if bC T=false then([],0,2)else if s.length=0 then([],0,10)else if(fC s).2.2≠0 then([],(fC s).2.1,(fC s).2.2)
  else if je T (fC s).1≠0 then([],oD T (fC s).1,je T (fC s).1)else if eF T (jH T (fC s).1)≠0 then([],0,eF T (jH T (fC s).1))
  else oH T (kL (kU T (jH T (fC s).1)))):=rfl
 generalize bT T s=D at*;clear ht a1;by_cases hw:bC T=false
 .have i:=ah (HD.out.trans (pP' hw));have q:(mM T != 0)=true:=by rw[bne_iff_ne];exact λh=>by have:=(D8 T).1 h;rw[hw]at this;cases this
  clear hw HD hs;go_enter func68,ntmps68;go_wp2_with fail;refine HC.out.mono ?_;rintro e w1⟨rfl,j⟩;have G:=p.out.trans' j;clear j;go_wp2;go_ret3;exact⟨none,0,0,by rw[i.out];rfl,by rw[i.out];exact uI _,G⟩
 have K:=ah (HD.out.trans (nN' hw));rw[(D8 T).2 (by cases h:bC T;exact absurd h hw;rfl)]at HC;have HW:Hid (bC T=true):=ah (by cases h:bC T;exact absurd h hw;rfl);clear HD hw;have a3:=pU s;by_cases h0:s.length=0
 .have i:=ah (K.out.trans (pP' h0));rw[List.eq_nil_of_length_eq_zero h0,show([]:List Int).isEmpty=true from rfl]at a3;rw[List.eq_nil_of_length_eq_zero h0];clear K h0 hs;go_enter func68,ntmps68;go_wp2_with fail;refine HC.out.mono ?_;rintro e w1⟨rfl,j⟩;have G:=p.out.trans' j;clear j;go_wp2;go_ret3;exact⟨none,0,0,by rw[i.out];rfl,by rw[i.out];exact uI _,G⟩
 have H:=ah (K.out.trans (nN' h0));rw[show s.isEmpty=false from by cases s with|nil=>exact absurd rfl h0|cons a b=>rfl]at a3;clear K h0;have HU:Hid (∀w':World,Calls prog 112 #[.string (sB s)] w' (Hq w' (fC s))):=ah λw'=>udec_spec s hs w'
 clear hs;generalize fC s=V at*;obtain⟨l,di,de⟩:=V;simp only[]at H;go_enter func68,ntmps68;go_wp2_with fail;refine HC.out.mono ?_;rintro e w1⟨rfl,j⟩;have b8:=ah j;clear j HC;go_wp2_with fail;refine(HU.out w1).mono ?_;rintro e w2⟨A,n,c,rfl,ag,ai⟩;have O:=ah (b8.out.trans' ai);have a5:=ah ag;have al:=p.out.trans' O.out;simp only[]at a5;clear ai ag HU a3;by_cases f:de=0
 case neg=>
  have i:=ah (H.out.trans (pP' f));have q:(de != 0)=true:=bN' f;clear f H;go_wp2;go_ret3;exact⟨none,0,0,by rw[i.out];rfl,by rw[i.out];exact uI _,al⟩
 have P:=ah (H.out.trans (nN' (by rw[f];simp)));have q:(de != 0)=false:=bZ' f;have rT:=bT' t O.out;clear H al;go_wp2_with fail;refine(Qg T t l A n c w2 (HT.out.ay O.out) a5.out).mono ?_;rintro e w3⟨A3,n3,c3,rfl,am,an⟩;have Q:=ah (O.out.trans' am);have ao:=ah an;have ap:=p.out.trans' Q.out;clear am an rT q f;generalize je T l=me at*;generalize oD T l=mi at*;generalize jH T l=ml at*;by_cases f:me=0
 case neg=>
  have i:=ah (P.out.trans (pP' f));have q:(me != 0)=true:=bN' f;clear f P;go_wp2;go_ret3;exact⟨none,0,0,by rw[i.out];rfl,by rw[i.out];exact uI _,ap⟩
 have R:=ah (P.out.trans (nN' (by rw[f];simp)));have q:(me != 0)=false:=bZ' f;have rT:=bT' t Q.out;clear P ap;go_wp2_with fail;refine(Jd T t ml A3 n3 c3 w3 (HT.out.ay Q.out) ao.out).mono ?_;rintro e w4⟨A4,n4,c4,rfl,aq,ar⟩;have a7:=ah (Q.out.trans' aq);have av:=ah ar
 have aw:Hid (eF T ml=0->(kU T ml).length<=4096):=ah (λh=>by
  have h2:=(Aa h).2;have h3:=Dj (T:=T) ml;rw[kU,pP' h]
  omega)
 have ax:=p.out.trans' a7.out;clear aq ar rT q f;generalize eF T ml=ne at*;generalize kU T ml=nl at*;by_cases f:ne=0
 case neg=>
  have i:=ah (R.out.trans (pP' f));have q:(ne != 0)=true:=bN' f;clear f R;go_wp2;go_ret3;exact⟨none,0,0,by rw[i.out];rfl,by rw[i.out];exact uI _,ax⟩
 have az:=ah (R.out.trans (nN' (by rw[f];simp)));have q:(ne != 0)=false:=bZ' f;have zB:=ah (aw.out f);clear R ax f aw;go_wp2_with fail;refine(PU nl A4 n4 c4 w4 av.out (by have:=zB.out;omega)).mono ?_;rintro e w5⟨A5,N,C,rfl,aD,a8⟩;obtain⟨g,S5,rfl,a9⟩:=aD.lsp a8;have bg:=ah (a7.out.trans' a8);have aE:=ah a9;have b9:Hid ((kL nl).length<=5000):=ah (by have:=Hr nl;have:=zB.out;omega);have ba:Hid (∀x∈kL nl,x.length<=4096):=ah (λx G=>by have:=QI G;have:=zB.out;omega);have aL:(kL nl).length=N:=a9.len;clear a8 aD a9 zB av ao a5 q;generalize kL nl=L at*;have br:N<=5000:=by have:=b9.out;omega
 have U:=ah aL;clear aL;go_wp2;go_loopg[53] N (λgh bb wx=>PrL T w4 (tW' w t) g N C L gh bb wx);exact⟨0,S5,L,by omega,rfl,aE,ah rfl,ah rfl,ah rfl,bg⟩;obtain⟨k,S,M,bs,rfl,W,X,Y,r,HB⟩:=hrel;clear aE;by_cases hk:k<N
 .obtain⟨bc,rfl⟩:=gS' gk;have I:k<L.length:=by have:=U.out;omega
  have Z:k<M.length:=by have:=W.out.len;omega
  have aM:M[k]=L[k]:=by
   have f:=Y.out;rw[drop_at M k Z,drop_at L k I]at f;exact(List.cons.inj f).1
  have aR:M.drop (k+1)=L.drop (k+1):=by
   have f:=Y.out;rw[drop_at M k Z,drop_at L k I]at f;exact(List.cons.inj f).2
  have aU:M.length=L.length:=by have:=W.out.len;have:=U.out;omega
  obtain⟨b,o,za,zn,zc,hA,aa,hz⟩:=W.out.lists.at_ Z;injection hA with hA;injection hA with bh bi;subst bh bi;rw[aM]at hz;rw[Nat.zero_add]at aa;have a0:=ah (QK (T:=T) I);have bj:=ah (ba.out _ (gM' I));have HZ:=ah hz;have aV:Hid (∀y,y=(fB T L[k]).1->(M.set k y).take (k+1)=(L.take (k+1)).map λl=>(fB T l).1):=ah (λy hy=>by rw[hy];exact QJ (λl=>(fB T l).1) L M aU k I X.out);have aZ:Hid (∀y,(M.set k y).drop (k+1)=L.drop (k+1)):=ah (λy=>by rw[List.drop_set_of_lt (by omega)];exact aR);clear hz aM aR aU X Y Z;generalize L[k]=x at*;have bk:wr.frozen? ⟨g,k,none⟩=false:=World.ownsRow.frozenAt W.out.own k;have bt:=z0' k;have bu:(k:Int)<(N:Int):=by omega
  have rT:=bT' t HB.out;go_wp2_with fail;go_region_law((go_simp;go_at_call 116;refine(QA T t x za zn zc _ (HT.out.ay (HB.out.trans' eR'.fQ)) (HZ.out.ext eR'.fQ) bj.out).mono ?_;rintro e w6⟨B,m,d,rfl,nY,E⟩;have iK:Hid (Ext wr w6):=ah (eR'.fQ.trans' E);have kH:=ah nY;have F:=ah (W.out.ay iK.out);have bv:w6.frozen? ⟨g,k,none⟩=false:=World.ownsRow.frozenAt F.out.own k;have bw:=dh (dG iK.out) aa;clear E nY))
  all_goals
   have bl:=ah (F.out.set hk (z:=⟨B,m,d⟩) (x:=(fB T x).1) kH.out);have uh:Hid (Ext (tW' w t) (w6.setCell ⟨g,k,none⟩ (.slice B m d))):=ah ((HB.out.trans' iK.out).lG (Nat.le_trans a7.out.b.size (Own.lt F.out.own g rfl).1) _);have bm:=ah (aV.out _ rfl);have bo:=ah (aZ.out (fB T x).1);clear rT bk aa kH F aV aZ;generalize(fB T x).1=y at*;generalize(fB T x).2=ev at*;by_cases f:ev=0
   .have q:(ev != 0)=false:=bZ' f;have bp:=ah ((a0.out.trans (nN' (by rw[f];simp))).symm.trans r.out);clear f a0 r;go_wp2;go_roundg bc;exact⟨k+1,S.set k ⟨B,m,d⟩,M.set k y,by omega,by go_num,bl,bm,bo,bp,uh⟩;omega
   .have q:(ev != 0)=true:=bN' f;have i:=ah (az.out.trans (CB (r.out.symm.trans (a0.out.trans (pP' f)))));have G:=p.out.trans' uh.out;clear f a0 r;go_wp2;go_ret3;exact⟨none,0,0,by rw[i.out];rfl,by rw[i.out];exact uI _,G⟩
 .have bq:k=N:=by omega
  subst bq
  have ab:Hid (M=L.map λl=>(fB T l).1):=ah (by
   have f:=X.out;have h2:=U.out;have h3:=W.out.len
   rwa[tL' (by omega),tL' (by omega)]at f)
  have ac:Hid (jJ T 0 L=none):=ah (by
   have h2:=U.out;rw[<- r.out,List.drop_of_length_le (by omega)]
   rfl)
  have Fz:Hid (∀l∈M,aS T l=0):=ah (λl hl=>by
   rw[ab.out,List.mem_map]at hl;obtain⟨x,G,rfl⟩:=hl
   exact Cm (Hw (Ci ac.out x G)))
  have J:=ah (az.out.trans (Cj ac.out));rw[<- ab.out]at J;have b0:=ah (Qw T t M _ _ _ wr (HT.out.ay HB.out) W.out.lists HW.out Fz.out (by have:=W.out.len;omega));have rT:=bT' t HB.out;clear X Y r ac Fz ab;go_wp2_with fail;refine b0.out.mono ?_;rintro e w6⟨rfl,E⟩;have F:=ah (W.out.ay E);have G:=p.out.trans' (HB.out.trans' E);clear rT E b0;generalize pW T M=dmi at*;generalize oG T M=dme at*;by_cases f:dme=0
  .have q:(dme != 0)=false:=bZ' f;have i:=ah (J.out.trans (nN' (by rw[f];simp)));clear f J;go_wp2;go_ret3;exact⟨_,_,_,by rw[i.out];rfl,by rw[i.out];exact F.out.lists,G⟩
  .have q:(dme != 0)=true:=bN' f;have i:=ah (J.out.trans (pP' f));clear f J;go_wp2;go_ret3;exact⟨none,0,0,by rw[i.out];rfl,by rw[i.out];exact uI _,G⟩
end Go.Proofs.YtpmgophlhmcogaaGreatDoor
