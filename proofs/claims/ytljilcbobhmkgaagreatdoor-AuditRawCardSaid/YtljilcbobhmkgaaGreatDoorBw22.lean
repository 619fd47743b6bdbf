/- Part Bw22. -/
import Derived.Test.YtljilcbobhmkgaaGreatDoorBw21
import Derived.Deep.LoopGhost
import Derived.Deep.CutRange
open Go.Proofs.Tryz
namespace Go.Proofs.YtljilcbobhmkgaaGreatDoor
set_option maxHeartbeats 25600000
set_option maxRecDepth 100000
open Go.RowKit
variable (T:ak)(t:TV)(l:List Int)(A:Option Addr)(n c:Nat)(w:World)
def qh(T:ak)(c:Int):List Int:=if 65<=c/\c<=90 then[c+32]else aJ T.mps c
def iG(T:ak)(c:Int):List Int:=if dY T c=3 then qh T c else if dY T c=1\/dY T c=4 then[c]else[]
def jH(T:ak):Int->List Int->Int
 |_,[]=> -1
 |i,c::r=>if dY T c=0 then i else jH T (i+1) r
def jI(T:ak)(l:List Int):Int:=if aV T l≠0 then aV T l else if jH T 0 l≠ -1 then 16 else if 4096<((l.flatMap (iG T)).length:Int)then 7 else 0
def pF(T:ak)(l:List Int):Int:=if aV T l≠0 then 0 else if jH T 0 l≠ -1 then jH T 0 l else 0
def kZ(T:ak)(l:List Int):List Int:=if jI T l=0 then l.flatMap (iG T)else[]
def UW(w:World)(T:ak)(l:List Int)(e:Ending)(w':World):Prop:=∃B m d,e=.returned (.tuple #[.slice B m d,.int .i64 (pF T l),.int .i64 (jI T l)])/\Ext w w'/\aC w' ⟨B,m,d⟩ (kZ T l)
theorem LW{T:ak}(h:bV T=true):T.mps.length<=256/\∀x,(aJ T.mps x).length<=18:=by
 simp only[bV,aT]at h;have b:jB T=true:=by simp only[h]
 have a:iV T=true:=by simp only[h]
 simp only[jB,maps,oh,aT,au]at b;simp only[iV,maps,jW,aT]at a;exact⟨by omega,Fz a.2.1⟩
theorem UC{T:ak}(h:bV T=true):dK T=true:=by
 simp only[bV,aT]at h;simp only[h]
theorem LV{T:ak}(h:bV T=true)(x:Int):(qh T x).length<=18:=by
 unfold qh;split
 .simp
 .exact(LW h).2 x
theorem TR{T:ak}(h:bV T=true)(x:Int):(iG T x).length<=18:=by
 unfold iG;split
 .exact LV h x
 .split<;>simp
theorem Ep{f:Int->List Int}(a:∀x,(f x).length<=18):∀l:List Int,(l.flatMap f).length<=18*l.length
 |[]=>by simp
 |x::r=>by
  have b:=Ep a r;have c:=a x;simp only[List.flatMap_cons,lA',List.length_cons];omega
theorem aRV(T:ak)(c:Int)(w:World)(ht:aS w t T)(j:bV T=true)(R:0<=c/\c<=1114111):
 Calls prog 183 #[t.v,.int .i64 c] w λe w'=>∃B m d,e=.returned (.slice B m d)/\aC w' ⟨B,m,d⟩ (qh T c)/\Ext w w':=by
 have b:=cO w t;have C:=ah (ht.aB b);have D:=ah ((LW j).2 c);have r:=ah (mG j);have E:=ah (DN j);by_cases f:65<=c/\c<=90
 .have k:Hid (qh T c=[c+32]):=ah (by rw[qh,pP' f]);obtain⟨F,G⟩:=f;have s:decide (65<=c)=true:=dt' F;have I:decide (c<=90)=true:=dt' G;have S:c+97-65=c+32:=by omega
  have J:Hid (∀H,(tW' w t).heap.size=H->aC ((tW' w t).alloc (.cells #[.int .i64 (c+32)] 3)) ⟨some ⟨H,0,none⟩,1,1⟩ [c+32]):=ah (by rintro _ rfl;exact iJ _ _);have l:=b.trans' ((Ext.refl (tW' w t)).ay (.cells #[.int .i64 (c+32)] 3));clear j;go_enter func183,ntmps183;go_wp2;go_ret;exact⟨_,_,_,rfl,by rw[k.out];exact J.out _ (by simp),l⟩
 .have k:Hid (qh T c=aJ T.mps c):=ah (by rw[qh,nN' f]);have K:(decide (65<=c)=true/\decide (c<=90)=false)\/decide (65<=c)=false:=by
   by_cases h:65<=c
   .exact .inl ⟨dt' h,by rw[aA];exact λL=>f ⟨h,L⟩⟩
   .exact .inr (df' h)
  clear j f;obtain⟨x,M,y,z,g,N⟩:=Ae T.mps t.s8.a t.s8.n t.s8.c c _ C.out.mps r.out.mps.1 r.out.mps.2;have O:=ah z;have o:Hid (aJ T.mps c=[]->x=none/\y=0):=ah λh=>by
   have:=g (Bv E.out.mps h);exact⟨this.1,this.2.2⟩
  clear z g;rcases K with⟨s,I⟩|s
  all_goals
   go_enter func183,ntmps183;go_wp2_with fail;refine(N _ eR').mono ?_;rintro e P⟨rfl,i⟩;go_wp2_with fail;refine(Jz _ x M y P (O.out.ext i) (by have:=D.out;omega) o.out).mono ?_;rintro e U⟨B,d,rfl,A,p,q⟩;have l:=(b.trans' i).trans' q;have Q:=ah (aK.ints A);clear A p;go_wp2;go_ret;exact⟨_,_,_,rfl,by rw[k.out];exact Q.out,l⟩
theorem aRH(T:ak)(c:Int)(w:World)(ht:aS w t T)(g:bV T=true)(z:0<=c/\c<=1114111):
 Calls prog 200 #[t.v,.int .i64 c] w λe w'=>∃B m d,e=.returned (.slice B m d)/\aC w' ⟨B,m,d⟩ (qh T c)/\Ext w w':=by
 have a:=cO w t;have n:=ah (ht.aB a);have A:=ah ((LW g).2 c);have C:=ah (mG g);have D:=ah (DN g);by_cases b:65<=c/\c<=90
 .have i:Hid (qh T c=[c+32]):=ah (by rw[qh,pP' b]);obtain⟨o,p⟩:=b;have k:decide (65<=c)=true:=dt' o;have q:decide (c<=90)=true:=dt' p;have E:c+97-65=c+32:=by omega
  have r:Hid (∀H,(tW' w t).heap.size=H->aC ((tW' w t).alloc (.cells #[.int .i64 (c+32)] 3)) ⟨some ⟨H,0,none⟩,1,1⟩ [c+32]):=ah (by rintro _ rfl;exact iJ _ _);have j:=a.trans' ((Ext.refl (tW' w t)).ay (.cells #[.int .i64 (c+32)] 3));clear g;go_enter func200,ntmps200;go_wp2;go_ret;exact⟨_,_,_,rfl,by rw[i.out];exact r.out _ (by simp),j⟩
 .have i:Hid (qh T c=aJ T.mps c):=ah (by rw[qh,nN' b]);have s:(decide (65<=c)=true/\decide (c<=90)=false)\/decide (65<=c)=false:=by
   by_cases h:65<=c
   .exact .inl ⟨dt' h,by rw[aA];exact λx=>b ⟨h,x⟩⟩
   .exact .inr (df' h)
  clear g b;skip;rcases s with⟨k,q⟩|k
  all_goals
   go_enter func200,ntmps200;go_wp2_with fail;refine(Dt T.mps _ _ _ c _ n.out.mps).mono ?_;rintro e F⟨G,I,J,rfl,l,f⟩;have y:=ah l;have j:=a.trans' f;clear l f;go_wp2;go_ret;exact⟨_,_,_,rfl,by rw[i.out];exact y.out,j⟩
def aRm(T:ak)(wb:World)(l:List Int)(gh:Nat)(s9 s23:Value)(wx:World):Prop:=
 ∃(k:Nat)(A:Option Addr)(n c:Nat),k+gh=l.length/\s23=.int .i64 k/\s9=.slice A n c/\Hid (aK wx wb.heap.size A n c ((l.take k).flatMap (iG T)))/\Hid (Ext wb wx)/\Hid (jH T k (l.drop k)=jH T 0 l)
theorem aPl(ht:aS w t T)(hi:aC w ⟨A,n,c⟩ l):
 Calls prog 117 #[t.v,.slice A n c] w (UW w T l):=by
 have B:=cO w t;have K:=ah B;have HT:=ah (ht.aB B);have HI:=ah (hi.ext B);have hn:=hi.len.1;subst hn;clear ht hi B;go_enter func117,ntmps117;go_wp2_with fail;refine(xJ t T l A _ c _ HT.out HI.out).mono ?_;rintro e O⟨v,rfl,L,_⟩;have V:=ah L;have W:=bT' t L;clear L;by_cases j:aV T l=0
 .obtain⟨hw,hl⟩:=qm j;have al:(aV T l != 0)=false:=bZ' j;have X:Hid (jI T l=if jH T 0 l≠ -1 then 16 else if 4096<((l.flatMap (iG T)).length:Int)then 7 else 0):=ah (by rw[jI,nN' (by rw[j];simp)]);have Y:Hid (pF T l=if jH T 0 l≠ -1 then jH T 0 l else 0):=ah (by rw[pF,nN' (by rw[j];simp)]);have HW:=ah hw;have HL:=ah hl;have lZ:=ah (JG j);clear j hw hl W;go_wp2;go_loopg[9,23] l.length (λgh s9 am wx=>aRm T O l gh s9 am wx);exact⟨0,none,0,0,by omega,rfl,rfl,ah (Own.nil_ _ _ _ _),ah eR',ah rfl⟩;obtain⟨k,A2,i,c2,bd,rfl,rfl,C,Z,HD⟩:=hrel;have P:=ah (V.out.trans' Z.out);have W:=bT' t P.out;have an:=ah (HI.out.ext P.out)
  have a0:Hid (((l.take k).flatMap (iG T)).length<=18*4096):=ah (by
   have M:=Ep (TR HW.out) (l.take k);rw[List.length_take]at M;have:=HL.out
   omega)
  have D:=ah (aK.ints C.out).len.1;by_cases E:k<l.length
  .obtain⟨F,rfl⟩:=gS' gk;obtain⟨b,o,rfl,bh⟩:=an.out.at_ E;have G:=ah (Ai (iG T) l k E);have ao:=ah (JE (lZ.out _ (gM' E)));have H:Hid (jH T k (l.drop k)=if dY T l[k]=0 then(k:Int)else jH T (k+1) (l.drop (k+1))):=ah (by rw[drop_at l k E];rfl);have g:Hid (iG T l[k]=if dY T l[k]=3 then qh T l[k]else if dY T l[k]=1\/dY T l[k]=4 then[l[k]]else[]):=rfl;generalize l[k]=x at*;have bi:=z0' k;have bj:(k:Int)<(l.length:Int):=(by omega);have bk:l.length<=4096:=HL.out;go_wp2_with fail;refine(F6 t T x wr (HT.out.aB P.out) (mG HW.out)).mono ?_;rintro e w3⟨rfl,m⟩;have p:=ah (Z.out.trans' m);have dM:=ah (Own.ext C.out m);have gV:=bT' t (P.out.trans' m);have lM:=ah (P.out.trans' m);clear m W C;generalize dY T x=s at*;by_cases h0:s=0
   .subst h0;have a3:=ah (HD.out.symm.trans (H.out.trans (pP' rfl)));have hb:=K.out.trans' lM.out;clear H g;go_wp2;go_ret3;have a4:jH T 0 l≠ -1:=(by rw[a3.out];omega);have a5:jI T l=16:=(by rw[X.out,pP' a4]);exact⟨none,0,0,by rw[a5,Y.out,pP' a4,a3.out];rfl,hb,by rw[kZ,nN' (by rw[a5];decide)];exact aC.nil_ _⟩
   .have I:Hid (jH T ((k+1:Nat):Int) (l.drop (k+1))=jH T 0 l):=ah (by
     have M:=H.out;rw[nN' h0]at M
     exact(M.symm.trans HD.out))
    have q0:(s==0)=false:=(by rw[aH];exact h0);clear H HD h0;by_cases J:s=3
    .have q:Hid (iG T x=qh T x):=ah (by rw[g.out,pP' J]);have q3:(s==3)=true:=(by rw[bq'];exact J);have q1:(s==1)=false:=bF';have q4:(s==4)=false:=bF';clear J g;go_wp2_with fail;refine(aRV t T x w3 (HT.out.aB lM.out) HW.out ao.out).mono ?_;rintro e w4⟨A3,n3,c3,rfl,N,r⟩;have av:=N.len.1;have aw:=LV HW.out x;obtain⟨Q,R,w5,a,d,f,jL⟩:=fQ (Own.ext dM.out r) N (by have:=a0.out;have:=D.out;omega) (p.out.trans' r).b.size;have S:Hid (aK w5 O.heap.size Q (i+n3) R ((l.take (k+1)).flatMap (iG T))):=ah (by rw[G.out,q.out];exact d);have bH:Hid (Ext O w5):=ah (dV (p.out.trans' r) f (λk hk=>(Own.lt (Own.ext dM.out r) k hk).1));clear d f jL N r av aw gV;go_wp2_with(at_builtin;refine dA rfl _ _ _ rfl _ _ rfl rfl _ _ a ?_);clear a;go_roundg F;exact⟨k+1,Q,i+n3,R,by omega,by go_num,rfl,S,bH,I⟩;omega
    .have q3:(s==3)=false:=(by rw[aH];exact J);by_cases y:s=1\/s=4
     .have q:Hid (iG T x=[x]):=ah (by rw[g.out,nN' J,pP' y]);have aD:(s==1)=true\/((s==1)=false/\(s==4)=true):=by
       rcases y with h|h
       .exact .inl (by rw[bq'];exact h)
       .exact .inr ⟨by rw[aH];omega,by rw[bq'];exact h⟩
      have z:Ext w3 (w3.alloc (.cells #[.int .i64 x] 3)):=eR'.ay _;obtain⟨Q,R,w5,a,d,f,jL⟩:=fQ (Own.ext dM.out z) (iJ w3 x) (by have:=a0.out;have:=D.out;omega) (p.out.trans' z).b.size;have S:Hid (aK w5 O.heap.size Q (i+1) R ((l.take (k+1)).flatMap (iG T))):=ah (by rw[G.out,q.out];exact d);have bH:Hid (Ext O w5):=ah (dV (p.out.trans' z) f (λk hk=>(Own.lt (Own.ext dM.out z) k hk).1));clear d f jL z gV y J g;rcases aD with q1|⟨q1,q4⟩
      .go_wp2_with(at_builtin;refine dA rfl _ _ _ rfl _ _ rfl rfl _ _ a ?_);clear a;go_roundg F;exact⟨k+1,Q,i+1,R,by omega,by go_num,rfl,S,bH,I⟩;omega
      .go_wp2_with(at_builtin;refine dA rfl _ _ _ rfl _ _ rfl rfl _ _ a ?_);clear a;go_roundg F;exact⟨k+1,Q,i+1,R,by omega,by go_num,rfl,S,bH,I⟩;omega
     .have q:Hid (iG T x=[]):=ah (by rw[g.out,nN' J,nN' y]);have q1:(s==1)=false:=bF';have q4:(s==4)=false:=bF';have S:Hid (aK w3 O.heap.size A2 i c2 ((l.take (k+1)).flatMap (iG T))):=ah (by rw[G.out,q.out,List.append_nil];exact dM.out);clear y J g gV;go_wp2;go_roundg F;exact⟨k+1,A2,i,c2,by omega,by go_num,rfl,S,p,I⟩;omega
  .have HE:Hid ((l.take k).flatMap (iG T)=l.flatMap (iG T)):=ah (by rw[tL' (by omega)]);have a7:Hid (jH T 0 l= -1):=ah (by rw[<- HD.out,List.drop_of_length_le (by omega)];rfl);have a8:=K.out.trans' P.out;have a9:Hid (pF T l=0):=ah (by rw[Y.out,nN' (by rw[a7.out];simp)]);have aa:=ah (X.out.trans (nN' (by rw[a7.out];simp)));clear W;by_cases U:4096<((l.flatMap (iG T)).length:Int)
   .have G:Hid (jI T l=7):=ah (by rw[aa.out,pP' U]);have hd:decide (4096<(i:Int))=true:=(by rw[au,D.out,HE.out];exact U);have aM:decide (4096<i)=true:=(by rw[au];rw[au]at hd;omega);clear U;go_wp2;go_ret3;exact⟨none,0,0,by rw[G.out,a9.out];rfl,a8,by rw[kZ,G.out,nN' (by decide)];exact aC.nil_ _⟩
   .have G:Hid (jI T l=0):=ah (by rw[aa.out,nN' U]);have hd:decide (4096<(i:Int))=false:=(by rw[aA,D.out,HE.out];exact U);have aM:decide (4096<i)=false:=(by rw[aA];rw[aA]at hd;omega);have aR:Hid (aC wr ⟨A2,i,c2⟩ (l.flatMap (iG T))):=ah (by rw[<- HE.out];exact aK.ints C.out);clear U;go_wp2;go_ret3;exact⟨A2,i,c2,by rw[G.out,a9.out];rfl,a8,by rw[kZ,G.out,pP' rfl];exact aR.out⟩
 .have al:(aV T l != 0)=true:=bN' j
  have HZ:Hid (jI T l=aV T l/\jI T l≠0/\pF T l=0):=ah (by
   have M:jI T l=aV T l:=by rw[jI,pP' j]
   exact⟨M,by rw[M];exact j,by rw[pF,pP' j]⟩)
  have hb:=K.out.trans' V.out;clear j W;go_wp2;go_ret3;exact⟨none,0,0,by rw[HZ.out.1,HZ.out.2.2];rfl,hb,by rw[kZ,nN' HZ.out.2.1];exact aC.nil_ _⟩
def aRj(T:ak)(wb:World)(l:List Int)(gh:Nat)(s9 s23:Value)(wx:World):Prop:=
 ∃(k:Nat)(A:Option Addr)(n c:Nat),k+gh=l.length/\s23=.int .i64 k/\s9=.slice A n c/\Hid (aK wx wb.heap.size A n c ((l.take k).flatMap (iG T)))/\Hid (Ext wb wx)/\Hid (jH T k (l.drop k)=jH T 0 l)
theorem aPb(ht:aS w t T)(hi:aC w ⟨A,n,c⟩ l):
 Calls prog 145 #[t.v,.slice A n c] w (UW w T l):=by
 have B:=cO w t;have K:=ah B;have HT:=ah (ht.aB B);have HI:=ah (hi.ext B);have hn:=hi.len.1;subst hn;clear ht hi B;go_enter func145,ntmps145;go_wp2_with fail;refine(rU t T l A _ c _ HT.out HI.out).mono ?_;rintro e O⟨rfl,L⟩;have V:=ah L;have W:=bT' t L;clear L;by_cases j:aV T l=0
 .obtain⟨hw,hl⟩:=qm j;have al:(aV T l != 0)=false:=bZ' j;have X:Hid (jI T l=if jH T 0 l≠ -1 then 16 else if 4096<((l.flatMap (iG T)).length:Int)then 7 else 0):=ah (by rw[jI,nN' (by rw[j];simp)]);have Y:Hid (pF T l=if jH T 0 l≠ -1 then jH T 0 l else 0):=ah (by rw[pF,nN' (by rw[j];simp)]);have HW:=ah hw;have HL:=ah hl;have lZ:=ah (JG j);clear j hw hl W;go_wp2;go_loopg[8,19] l.length (λgh s9 am wx=>aRj T O l gh s9 am wx);exact⟨0,none,0,0,by omega,rfl,rfl,ah (Own.nil_ _ _ _ _),ah eR',ah rfl⟩;obtain⟨k,A2,i,c2,bd,rfl,rfl,C,Z,HD⟩:=hrel;have P:=ah (V.out.trans' Z.out);have W:=bT' t P.out;have an:=ah (HI.out.ext P.out)
  have a0:Hid (((l.take k).flatMap (iG T)).length<=18*4096):=ah (by
   have M:=Ep (TR HW.out) (l.take k);rw[List.length_take]at M;have:=HL.out
   omega)
  have D:=ah (aK.ints C.out).len.1;by_cases E:k<l.length
  .obtain⟨F,rfl⟩:=gS' gk;obtain⟨b,o,rfl,bh⟩:=an.out.at_ E;have G:=ah (Ai (iG T) l k E);have ao:=ah (JE (lZ.out _ (gM' E)));have H:Hid (jH T k (l.drop k)=if dY T l[k]=0 then(k:Int)else jH T (k+1) (l.drop (k+1))):=ah (by rw[drop_at l k E];rfl);have g:Hid (iG T l[k]=if dY T l[k]=3 then qh T l[k]else if dY T l[k]=1\/dY T l[k]=4 then[l[k]]else[]):=rfl;generalize l[k]=x at*;have bi:=z0' k;have bj:(k:Int)<(l.length:Int):=(by omega);have bk:l.length<=4096:=HL.out;go_wp2_with fail;refine(EL t T x wr (HT.out.aB P.out) (Js (UC HW.out))).mono ?_;rintro e w3⟨rfl,m⟩;have p:=ah (Z.out.trans' m);have dM:=ah (Own.ext C.out m);have gV:=bT' t (P.out.trans' m);have lM:=ah (P.out.trans' m);clear m W C;generalize dY T x=s at*;by_cases h0:s=0
   .subst h0;have a3:=ah (HD.out.symm.trans (H.out.trans (pP' rfl)));have hb:=K.out.trans' lM.out;clear H g;go_wp2;go_ret3;have a4:jH T 0 l≠ -1:=(by rw[a3.out];omega);have a5:jI T l=16:=(by rw[X.out,pP' a4]);exact⟨none,0,0,by rw[a5,Y.out,pP' a4,a3.out];rfl,hb,by rw[kZ,nN' (by rw[a5];decide)];exact aC.nil_ _⟩
   .have I:Hid (jH T ((k+1:Nat):Int) (l.drop (k+1))=jH T 0 l):=ah (by
     have M:=H.out;rw[nN' h0]at M
     exact(M.symm.trans HD.out))
    have q0:(s==0)=false:=(by rw[aH];exact h0);clear H HD h0;by_cases J:s=3
    .have q:Hid (iG T x=qh T x):=ah (by rw[g.out,pP' J]);have q3:(s==3)=true:=(by rw[bq'];exact J);have q1:(s==1)=false:=bF';have q4:(s==4)=false:=bF';clear J g;go_wp2_with fail;refine(aRH t T x w3 (HT.out.aB lM.out) HW.out ao.out).mono ?_;rintro e w4⟨A3,n3,c3,rfl,N,r⟩;have av:=N.len.1;have aw:=LV HW.out x;obtain⟨Q,R,w5,a,d,f,jL⟩:=fQ (Own.ext dM.out r) N (by have:=a0.out;have:=D.out;omega) (p.out.trans' r).b.size;have S:Hid (aK w5 O.heap.size Q (i+n3) R ((l.take (k+1)).flatMap (iG T))):=ah (by rw[G.out,q.out];exact d);have bH:Hid (Ext O w5):=ah (dV (p.out.trans' r) f (λk hk=>(Own.lt (Own.ext dM.out r) k hk).1));clear d f jL N r av aw gV;go_wp2_with(at_builtin;refine dA rfl _ _ _ rfl _ _ rfl rfl _ _ a ?_);clear a;go_roundg F;exact⟨k+1,Q,i+n3,R,by omega,by go_num,rfl,S,bH,I⟩;omega
    .have q3:(s==3)=false:=(by rw[aH];exact J);by_cases y:s=1\/s=4
     .have q:Hid (iG T x=[x]):=ah (by rw[g.out,nN' J,pP' y]);have aD:(s==1)=true\/((s==1)=false/\(s==4)=true):=by
       rcases y with h|h
       .exact .inl (by rw[bq'];exact h)
       .exact .inr ⟨by rw[aH];omega,by rw[bq'];exact h⟩
      have z:Ext w3 (w3.alloc (.cells #[.int .i64 x] 3)):=eR'.ay _;obtain⟨Q,R,w5,a,d,f,jL⟩:=fQ (Own.ext dM.out z) (iJ w3 x) (by have:=a0.out;have:=D.out;omega) (p.out.trans' z).b.size;have S:Hid (aK w5 O.heap.size Q (i+1) R ((l.take (k+1)).flatMap (iG T))):=ah (by rw[G.out,q.out];exact d);have bH:Hid (Ext O w5):=ah (dV (p.out.trans' z) f (λk hk=>(Own.lt (Own.ext dM.out z) k hk).1));clear d f jL z gV y J g;rcases aD with q1|⟨q1,q4⟩
      .go_wp2_with(at_builtin;refine dA rfl _ _ _ rfl _ _ rfl rfl _ _ a ?_);clear a;go_roundg F;exact⟨k+1,Q,i+1,R,by omega,by go_num,rfl,S,bH,I⟩;omega
      .go_wp2_with(at_builtin;refine dA rfl _ _ _ rfl _ _ rfl rfl _ _ a ?_);clear a;go_roundg F;exact⟨k+1,Q,i+1,R,by omega,by go_num,rfl,S,bH,I⟩;omega
     .have q:Hid (iG T x=[]):=ah (by rw[g.out,nN' J,nN' y]);have q1:(s==1)=false:=bF';have q4:(s==4)=false:=bF';have S:Hid (aK w3 O.heap.size A2 i c2 ((l.take (k+1)).flatMap (iG T))):=ah (by rw[G.out,q.out,List.append_nil];exact dM.out);clear y J g gV;go_wp2;go_roundg F;exact⟨k+1,A2,i,c2,by omega,by go_num,rfl,S,p,I⟩;omega
  .have HE:Hid ((l.take k).flatMap (iG T)=l.flatMap (iG T)):=ah (by rw[tL' (by omega)]);have a7:Hid (jH T 0 l= -1):=ah (by rw[<- HD.out,List.drop_of_length_le (by omega)];rfl);have a8:=K.out.trans' P.out;have a9:Hid (pF T l=0):=ah (by rw[Y.out,nN' (by rw[a7.out];simp)]);have aa:=ah (X.out.trans (nN' (by rw[a7.out];simp)));clear W;by_cases U:4096<((l.flatMap (iG T)).length:Int)
   .have G:Hid (jI T l=7):=ah (by rw[aa.out,pP' U]);have hd:decide (4096<(i:Int))=true:=(by rw[au,D.out,HE.out];exact U);have aM:decide (4096<i)=true:=(by rw[au];rw[au]at hd;omega);clear U;go_wp2;go_ret3;exact⟨none,0,0,by rw[G.out,a9.out];rfl,a8,by rw[kZ,G.out,nN' (by decide)];exact aC.nil_ _⟩
   .have G:Hid (jI T l=0):=ah (by rw[aa.out,nN' U]);have hd:decide (4096<(i:Int))=false:=(by rw[aA,D.out,HE.out];exact U);have aM:decide (4096<i)=false:=(by rw[aA];rw[aA]at hd;omega);have aR:Hid (aC wr ⟨A2,i,c2⟩ (l.flatMap (iG T))):=ah (by rw[<- HE.out];exact aK.ints C.out);clear U;go_wp2;go_ret3;exact⟨A2,i,c2,by rw[G.out,a9.out];rfl,a8,by rw[kZ,G.out,pP' rfl];exact aR.out⟩
 .have al:(aV T l != 0)=true:=bN' j
  have HZ:Hid (jI T l=aV T l/\jI T l≠0/\pF T l=0):=ah (by
   have M:jI T l=aV T l:=by rw[jI,pP' j]
   exact⟨M,by rw[M];exact j,by rw[pF,pP' j]⟩)
  have hb:=K.out.trans' V.out;clear j W;go_wp2;go_ret3;exact⟨none,0,0,by rw[HZ.out.1,HZ.out.2.2];rfl,hb,by rw[kZ,nN' HZ.out.2.1];exact aC.nil_ _⟩
theorem Zi(k:Nat)(r:List Int):0<(uF k r).1.length:=by
 unfold uF;split<;>simp
def aGj(w0 w:World)(g tb:Nat)(E:List Nat)(r:List Int)(w':World):Prop:=
 ∃M A9 n9 c9 bC n10 c10,jc w w0 w' g tb w.heap.size E M A9 n9 c9 bC n10 c10 (yg 5 0 ⟨[],[]⟩ r).1 (yg 5 0 ⟨[],[]⟩ r).2
def aN0(w0 w:World)(g tb:Nat)(E:List Nat)(r:List Int)(gh:Nat)(s4:Value)(wx:World):Prop:=
 ∃(k:Nat)(M:List Nat)(A9:Option Addr)(n9 c9:Nat)(bC:Option Addr)(n10 c10:Nat)(D:pX)(r':List Int),k+gh=5/\s4=.int .i64 k/\jc w w0 wx g tb w.heap.size E M A9 n9 c9 bC n10 c10 D r'/\Hid (yg 5 0 ⟨[],[]⟩ r=yg gh k D r')/\D.dec.length<=k/\D.exc.length<=k/\w.heap.size<=wx.heap.size
theorem Y3(o w:World)(g F:Nat)(E:List Nat)(r:List Int)(hE:∀b∈E,b<w.heap.size)(hs:Src o w g r)(S:Ext o w)(cI:g<F)(f:F<w.heap.size)(a7:o.heap.size<=F)(h9:w.cell? ⟨F,9,none⟩=some (.slice none 0 0))(bQ:w.cell? ⟨F,10,none⟩=some (.slice none 0 0))(hf:∀k,w.frozen? ⟨F,k,none⟩=false):
 Calls prog 39 #[.pointer (some ⟨g,0,none⟩),.pointer (some ⟨F,0,none⟩)] w λe w'=>e=.returned (.tuple #[])/\aGj o w g F E r w':=by
 have bR:Hid (jc w o w g F w.heap.size E (g::F::E) none 0 0 none 0 0 ⟨[],[]⟩ r):=ah ⟨hs,S,Kp.refl _ _,λ_ _ _=>rfl,hf,h9,bQ,jO.nil_ _ _ _,Own.nil_ _ _ _ _,by simp,by simp,λb S=>(by cases S),λb S=>(by cases S),λb S=>by rw[List.mem_cons,List.mem_cons]at S;rcases S with rfl|rfl|S;omega;exact f;exact hE b S,λb S=>⟨by simp[S],hE b S⟩⟩;have l:Hid (g<F):=ah cI;clear hs S h9 bQ hf;go_enter func39,ntmps39;go_wp2;go_loopg[4] 5 (λgh s4 O=>aN0 o w g F E r gh s4 O);exact⟨0,g::F::E,none,0,0,none,0,0,⟨[],[]⟩,r,rfl,rfl,bR.out,ah rfl,lr' _,lr' _,lr' _⟩;obtain⟨k,M,A9,n9,c9,bC,z,G,D,t,cJ,rfl,b5,HR,cK,cL,cM⟩:=hrel;have Z:=ah b5;clear b5;by_cases cN:k<5
 .obtain⟨ar,rfl⟩:=gS' gk;have cP:(k:Int)<5:=by omega
  have cQ:=z0' k;have b6:Hid (yg 5 0 ⟨[],[]⟩ r=yg ar (k+1) (stepD k D t).1 (stepD k D t).2):=ah (by rw[HR.out];rfl);clear HR;obtain⟨wo,rfl⟩:=eX' wr;go_wp2_with fail;refine(pI o wo g t 4 (by decide) (by decide) Z.out.src Z.out.ext).mono ?_;rintro e w1⟨rfl,b7,Lc,b8⟩;have cR:=Lc.size;have gJ:=ah (Z.out.next Lc b7 b8 l.out f);clear b7 Lc b8 Z;by_cases hv:dL 4 t=0
  .have bS:(dL 4 t==0)=true:=by rw[bq'];exact hv
   have HQ:Hid (stepD k D t=(D,t.tail)):=ah (by rw[stepD,pP' hv]);clear hv;go_wp2;go_roundg ar;exact⟨k+1,M,A9,n9,c9,bC,z,G,D,t.tail,by omega,by go_num,gJ.out,ah (by rw[b6.out,HQ.out]),by omega,by omega,by omega⟩;omega
  .have bS:(dL 4 t==0)=false:=by rw[aH];exact hv
   obtain⟨q,hq⟩:=eY' (uF k t.tail);have HQ:Hid (stepD k D t=(⟨D.dec++[⟨7680+k,q.1⟩],if vS q.1 (dL 6 q.2==0) D.dec=true then D.exc++[7680+(k:Int)]else D.exc⟩,q.2.tail)):=ah (by rw[stepD,nN' hv,hq]);have ba:=ah hq;clear hv hq;go_wp2_with fail;refine(pI o w1 g t.tail 2 (by decide) (by decide) gJ.out.src gJ.out.ext).mono ?_;rintro e w2⟨rfl,bc,av,bd⟩;have cS:=av.size;have be:=ah (gJ.out.next av bc bd l.out f);clear bc av bd gJ;have bT:=vF t.tail (n:=2) (by decide);go_upto_region 5 with fail;have I:=ah (iC.new be.out l.out f (by omega) (97+dL 2 t.tail) (7680+(k:Int)) 80);obtain⟨w3,aw⟩:=eX' ((w2.alloc (.cells #[.int .i64 (97+dL 2 t.tail)] 3)).alloc (.cells #[.int .i64 (7680+(k:Int)),.slice (some ⟨w2.heap.size,0,none⟩) 1 1] 80));rw[<- aw]at I |-;have cT:w3.heap.size=w2.heap.size+2:=(by rw[aw];simp);clear aw be;generalize w2.heap.size=p at*;obtain⟨M3,bh⟩:=eX' ((p+1)::p::M);rw[<- bh]at I;clear bh;obtain⟨a2,ab⟩:=eY' (97+dL 2 t.tail);obtain⟨r1,ac⟩:=eY' t.tail.tail;rw[ab,ac]at I;obtain⟨T,Y,yC⟩:∃b Y,(if k=0 then(false,r1)else(dL 3 r1==0,r1.tail))=(b,Y):=⟨_,_,rfl⟩
   have Tz:Hid (qV k t.tail=if T=true then(7680+dL k Y,Y.tail)else(a2,Y)):=ah (by
    rw[<- ab];unfold qV;rw[ac];by_cases U:k=0
    .rw[pP' U]at yC |-;obtain⟨e1,e2⟩:=Prod.mk.inj yC;subst e1 e2;rfl
    .rw[nN' U]at yC |-;obtain⟨e1,e2⟩:=Prod.mk.inj yC;subst e1 e2;by_cases h3:dL 3 r1=0
     .rw[pP' h3,pP' (by rw[h3];rfl)]
     .rw[nN' h3,nN' (by rw[bq'];exact h3)])
   have bU:T=true->0<k:=by
    intro V;rw[V]at yC;rcases Nat.eq_zero_or_pos k with U|U
    .rw[pP' U]at yC;cases yC
    .exact U
   have Kz:=ah yC;have cU:=ah ab;have cV:=ah ac;clear yC ab ac bT;go_cut [29]from 9 to 92 (λbX O=>bX=.bool T/\iC w o O g F w.heap.size E M3 A9 n9 c9 bC z G D Y (p+1) (7680+k) (some ⟨p,0,none⟩) 1 1 [a2]/\w3.heap.size<=O.heap.size)
   case first=>
    by_cases U:k=0
    .have c0:decide (0<k)=false:=(by simp[U]);have c1:decide ((0:Int)<(k:Int))=false:=(by simp[U]);have HE:Hid (false=T/\r1=Y):=ah (by have V:=Kz.out;rw[pP' U]at V;exact Prod.mk.inj V);clear U;go_wp2_with fail;go_meet
     case rel=>obtain⟨e1,e2⟩:=HE.out;subst e1 e2;exact⟨rfl,I.out,lr' _⟩
    .have c0:decide (0<k)=true:=(by simp;omega);have c1:decide ((0:Int)<(k:Int))=true:=(by simp;omega);have HE:Hid ((dL 3 r1==0)=T/\r1.tail=Y):=ah (by have V:=Kz.out;rw[nN' U]at V;exact Prod.mk.inj V);clear U;go_wp2_with fail;refine(pI o w3 g r1 3 (by decide) (by decide) I.out.st.src I.out.st.ext).mono ?_;rintro e w4⟨rfl,bi,az,bj⟩;have qx:=az.size;have J:=ah (I.out.next az bi bj l.out f);clear bi az bj;go_wp2_with fail;go_meet
     case rel=>obtain⟨e1,e2⟩:=HE.out;subst e1 e2;exact⟨rfl,J.out,qx⟩
   case rest=>
    obtain⟨rfl,bk,qx⟩:=hcut;obtain⟨w4,rfl⟩:=eX' wc;have J:=ah bk;clear bk I Kz;obtain⟨a,x,bl⟩:∃a x,qV k t.tail=(a,x):=⟨_,_,rfl⟩;have HA:=ah bl;clear bl;go_upto_if 29 with fail;go_cut [4]from 9 to 92 (λs4 O=>s4=.int .i64 k/\iC w o O g F w.heap.size E M3 A9 n9 c9 bC z G D x (p+1) (7680+k) (some ⟨p,0,none⟩) 1 1 [a]/\w4.heap.size<=O.heap.size)
    case first=>
     have HE:=ah (Tz.out.symm.trans HA.out);cases T
     .go_wp2_with fail;go_meet
      case rel=>obtain⟨e1,e2⟩:=Prod.mk.inj HE.out;subst e1 e2;exact⟨rfl,J.out,lr' _⟩
     .have cW:0<k:=bU rfl;have cX:=vF Y (n:=(k:Int)) (by omega);have bm:=J.out.m1;have cY:IntKind.i64.wrap (7680+dL (k:Int) Y)=7680+dL (k:Int) Y:=IntWalk.i64_in _ (by omega);go_wp2_with fail;go_region_with ((go_at_call 34;refine(pI o _ g Y k (by omega) (by omega) (J.out.st.src.kp (M:=[]) (Kp.dX eR'.dQ) (by simp)) (J.out.st.ext.dQ)).mono ?_;rintro e w5⟨rfl,bo,aD,bp⟩;have K:=ah ((J.out.aB (Ext.refl w4).dQ l.out f).next aD bo bp l.out f);have cZ:=K.out.m1;obtain⟨hp5,hf5⟩:=Y9 K.out.own;have oG:=aD.size;clear bo aD bp))
      all_goals
       go_wp2_with fail;go_meet
       case rel=>obtain⟨e1,e2⟩:=Prod.mk.inj HE.out;subst e1 e2;exact⟨rfl,K.out.put l.out f (lr' _) a7 _,by simpa using oG⟩
    case rest=>
     obtain⟨rfl,bq,oG⟩:=hcut;obtain⟨w5,rfl⟩:=eX' wc;have K:=ah bq;clear bq J Tz;have aE:Hid (q=if 0<dL 8 x then([a,yZ.getD (dL 5 x.tail).toNat 0],x.tail.tail)else([a],x.tail)):=ah (by rw[<- ba.out,uF,HA.out]);obtain⟨c2,TW⟩:=eY' (decide (0<dL 8 x));have KC:=ah TW;go_upto_if 39 with((go_at_call 34;refine(pI o w5 g x 8 (by decide) (by decide) K.out.st.src K.out.st.ext).mono ?_;rintro e P⟨rfl,br,aL,bs⟩));have c3:=aL.size;have m:=ah (K.out.next aL br bs l.out f);clear br aL bs K TW;go_cut [4]from 9 to 92 (λs4 O=>s4=.int .i64 k/\∃M4 A n c,iC w o O g F w.heap.size E M4 A9 n9 c9 bC z G D q.2 (p+1) (7680+k) A n c q.1/\w5.heap.size<=O.heap.size)
     case first=>
      cases c2
      .have HE:Hid (q=([a],x.tail)):=ah (aE.out.trans (nN' (by have V:=KC.out;rw[aA]at V;exact V)));go_wp2_with fail;go_meet
       case rel=>exact⟨rfl,M3,_,1,1,by rw[HE.out];exact m.out,c3⟩
      .have c5:=vF x.tail (n:=5) (by decide);obtain⟨v,hv⟩:∃v:Nat,dL 5 x.tail=v:=⟨(dL 5 x.tail).toNat,by omega⟩;have bt:v<5:=(by omega);obtain⟨y,hy⟩:=eY' (yZ.getD v 0);have HE:Hid (q=([a,y],x.tail.tail)):=ah (aE.out.trans (by rw[pP' (by have V:=KC.out;rw[au]at V;exact V),hv,Int.toNat_natCast,hy]));have c6:(#[.int .i64 769,.int .i64 776,.int .i64 803,.int .i64 837,.int .i64 945]:Array Value)[v]? =some (.int .i64 y):=by
        rw[<- hy]
        match v,bt with
        |0,_|1,_|2,_|3,_|4,_=>rfl
       have d0:∀h,([.int .i64 769,.int .i64 776,.int .i64 803,.int .i64 837,.int .i64 945]:List Value)[v]'h=.int .i64 y:=by
        intro h;rw[<- hy]
        match v,bt with
        |0,_|1,_|2,_|3,_|4,_=>rfl
       have d1:=z0' v;have d2:(v:Int)<5:=(by omega);have c7:=m.out.m1;have HV:=ah hv;clear hv hy c5;have d3:p+1<P.heap.size:=m.out.st.hM _ m.out.hmb;have d4:=World.new_ne P _ c7;have X1:Hid (Ext P P.drew):=ah eR'.dQ;have X2:Hid (Ext P (P.alloc (.cells #[.int .i64 769,.int .i64 776,.int .i64 803,.int .i64 837,.int .i64 945] 3)).drew):=ah ((eR'.ay _).dQ);have S1:Hid (Src o P.drew g x.tail):=ah (m.out.st.src.kp (M:=[]) (Kp.dX X1.out) (by simp));have S2:Hid (Src o (P.alloc (.cells #[.int .i64 769,.int .i64 776,.int .i64 803,.int .i64 837,.int .i64 945] 3)).drew g x.tail):=ah (m.out.st.src.kp (M:=[]) (Kp.dX X2.out) (by simp));have E1:=ah (m.out.st.ext.trans' X1.out);have E2:=ah (m.out.st.ext.trans' X2.out);go_wp2_with fail;go_region_law
        (first
         |(refine Nb (by rfl) _ _ (by rfl) w.heap.size (by rfl) (Own.ext B.out.own ((Ext.refl i).ay (.cells #[.int .i64 y] 3))) (by rfl) (iJ _ y) (by omega) (by simp;omega) ?_
           intro A8 c8 w8 wJ vG EI;obtain⟨ca,cb⟩:=iC.DJ (B.out.aB ((Ext.refl i).ay (.cells #[.int .i64 y] 3)) l.out f) vG;obtain⟨M8,L⟩:=iC.app (B.out.aB ((Ext.refl i).ay (.cells #[.int .i64 y] 3)) l.out f) wJ vG EI l.out f (lr' _) a7;have Q:=ah L;have bu:i.heap.size<=w8.heap.size:=Nat.le_trans (Ext.b ((Ext.refl i).ay (.cells #[.int .i64 y] 3))).size vG.size
           clear wJ vG EI L)
         |(refine Nb (by rfl) _ _ (by rfl) w.heap.size (by rfl) (Own.ext B.out.own (((Ext.refl i).ay (.cells #[.int .i64 769,.int .i64 776,.int .i64 803,.int .i64 837,.int .i64 945] 3)).ay (.cells #[.int .i64 y] 3))) (by rfl) (Wv (w:=i.alloc (.cells #[.int .i64 769,.int .i64 776,.int .i64 803,.int .i64 837,.int .i64 945] 3)) (H:=i.heap.size+1) (by simp) y) (by omega) (by simp;omega) ?_
           intro A8 c8 w8 wJ vG EI;obtain⟨ca,cb⟩:=iC.DJ (B.out.aB (((Ext.refl i).ay (.cells #[.int .i64 769,.int .i64 776,.int .i64 803,.int .i64 837,.int .i64 945] 3)).ay (.cells #[.int .i64 y] 3)) l.out f) vG;obtain⟨M8,L⟩:=iC.app (B.out.aB (((Ext.refl i).ay (.cells #[.int .i64 769,.int .i64 776,.int .i64 803,.int .i64 837,.int .i64 945] 3)).ay (.cells #[.int .i64 y] 3)) l.out f) wJ vG EI l.out f (lr' _) a7;have Q:=ah L;have bu:i.heap.size<=w8.heap.size:=Nat.le_trans (Ext.b (((Ext.refl i).ay (.cells #[.int .i64 769,.int .i64 776,.int .i64 803,.int .i64 837,.int .i64 945] 3)).ay (.cells #[.int .i64 y] 3))).size vG.size
           clear wJ vG EI L)
         |(go_simp
           go_at_call 34;refine(pI o (P.drew) g x.tail 5 (by decide) (by decide) S1.out E1.out).mono ?_;rintro e i⟨rfl,a3,N,a4⟩;rw[HV.out];have B:Hid (iC w o i g F w.heap.size E M3 A9 n9 c9 bC z G D x.tail.tail (p+1) (7680+k) (some ⟨p,0,none⟩) 1 1 [a]):=ah ((m.out.aB X1.out l.out f).next N a3 a4 l.out f);have a5:=B.out.m1;have cc:=World.new_ne i _ a5;have cd:P.heap.size<=i.heap.size:=Nat.le_trans X1.out.b.size N.size;have ce:p+1<i.heap.size:=(by omega);have cf:¬p=i.heap.size:=(by omega);have cg:((i.alloc (.cells #[.int .i64 769,.int .i64 776,.int .i64 803,.int .i64 837,.int .i64 945] 3)).alloc (.cells #[.int .i64 y] 3)).cell? ⟨p+1,1,none⟩=some (.slice (some ⟨p,0,none⟩) 1 1):=aY (bg (((Ext.refl i).ay _).ay _)) a5
           clear a3 N a4)
         |(go_simp
           go_at_call 34;refine(pI o ((P.alloc (.cells #[.int .i64 769,.int .i64 776,.int .i64 803,.int .i64 837,.int .i64 945] 3)).drew) g x.tail 5 (by decide) (by decide) S2.out E2.out).mono ?_;rintro e i⟨rfl,a3,N,a4⟩;rw[HV.out];have B:Hid (iC w o i g F w.heap.size E M3 A9 n9 c9 bC z G D x.tail.tail (p+1) (7680+k) (some ⟨p,0,none⟩) 1 1 [a]):=ah ((m.out.aB X2.out l.out f).next N a3 a4 l.out f);have a5:=B.out.m1;have cc:=World.new_ne i _ a5;have cd:P.heap.size<=i.heap.size:=Nat.le_trans X2.out.b.size N.size;have d5:i.cell? ⟨P.heap.size,v,none⟩=some (.int .i64 y):=by
            rw[N.cell ⟨P.heap.size,v,none⟩ (by simp) (by simp;omega)];exact(World.cell?_alloc_new P _ _ v).trans c6
           have ce:p+1<i.heap.size:=(by omega);have cf:¬p=i.heap.size:=(by omega);have cg:((i.alloc (.cells #[.int .i64 769,.int .i64 776,.int .i64 803,.int .i64 837,.int .i64 945] 3)).alloc (.cells #[.int .i64 y] 3)).cell? ⟨p+1,1,none⟩=some (.slice (some ⟨p,0,none⟩) 1 1):=aY (bg (((Ext.refl i).ay _).ay _)) a5
           clear a3 N a4))
       all_goals
        go_wp2_with fail;go_meet
        case rel=>exact⟨rfl,M8,A8,_,c8,by rw[HE.out];exact Q.out,by simp;omega⟩
     case rest=>
      obtain⟨rfl,M4,A4,n4,c4,L,bu⟩:=hcut;obtain⟨w8,rfl⟩:=eX' wc;have Q:=ah L;clear L m aE KC;go_wp2_with fail;refine(pI o w8 g q.2 6 (by decide) (by decide) Q.out.st.src Q.out.st.ext).mono ?_;rintro e w9⟨rfl,bv,aR,Bf⟩;have d6:=aR.size;have C:=ah (Q.out.next aR bv Bf l.out f);clear bv aR Bf Q;obtain⟨t0,bw⟩:=eY' (dL 6 q.2==0);have ch:=ah bw;have ci:=C.out.st.v9;obtain⟨cj,d7,d8⟩:=C.out.st.o9.len;have bx:=C.out.m1;have bz:=ah C.out.st.o9.WW;have bA:=ah (aK.ints C.out.own);have ck:p+1<w9.heap.size:=C.out.st.hM _ C.out.hmb;subst cj;go_wp2_with fail;clear bw;go_loopw[6,58] (λs6 aW O=>∃(j:Nat)(b:Bool),j<=D.dec.length/\aW=.int .i64 j/\s6=.bool b/\Hid (vS q.1 t0 D.dec=vS q.1 b (D.dec.drop j))/\Ext w9 O) (λ_ aW _=>D.dec.length-(intOf aW).toNat);exact⟨0,t0,zl' _,rfl,rfl,ah rfl,eR'⟩;obtain⟨j,b,hj,rfl,rfl,HS,W⟩:=hrel;have d9:w9.heap.size<=wr.heap.size:=W.b.size;by_cases bB:j<D.dec.length
      .have HD:Hid (D.dec.drop j=D.dec[j]::D.dec.drop (j+1)):=drop_at D.dec j bB;obtain⟨bb,oo,za,zn,zc,bE,g0,g1,gz⟩:=(dh.ext bz.out W).at_ bB;generalize D.dec[j]=d at*;have b0:=(W.b.cell (p:=⟨p+1,1,none⟩) ck).trans bx;have b1:Ext wr (wr.alloc (.cells #[.int .i64 d.lo,.slice za zn zc] 80)):=eR'.ay _;have jS:=aY (bg b1) b0;have b2:=W.trans' b1;have HZ:=ah gz;have da:=ah bE;have bG:=aI HS (show _=vS q.1 (b||jA d.to q.1) (D.dec.drop (j+1))from by rw[HD.out];rfl);clear HS HD gz;have db:=z0' j;have dc:(j:Int)<(D.dec.length:Int):=(by omega);subst bE;cases b
       .go_wp2_with fail;refine(Wh d.to q.1 _ _ _ _ _ _ _ (aC.ext HZ.out b1) (aC.ext bA.out b2)).mono ?_;rintro e R⟨rfl,CV⟩;go_wp2;go_roundw;exact⟨j+1,jA d.to q.1,by omega,by go_num,rfl,ah (by rw[bG.out,Bool.false_or]),b2.trans' CV⟩;simp[intOf];omega
       .go_wp2;go_roundw;exact⟨j+1,true,by omega,by go_num,rfl,ah (by rw[bG.out,Bool.true_or]),b2⟩;simp[intOf];omega
      .have HB:Hid (vS q.1 t0 D.dec=b):=aI HS (show _=b from by rw[bM D.dec j (by omega)];rfl);have yx:=ah (C.out.aB W l.out f);clear HS W C bz bA bx ci;go_upto_if 71 with fail;obtain⟨R,rfl⟩:=eX' wr;go_cut [4]from 9 to 92 (λs4 O=>s4=.int .i64 k/\∃M5 cl bH cm,iC w o O g F w.heap.size E M5 A9 D.dec.length c9 cl bH cm ⟨D.dec,if b=true then D.exc++[7680+(k:Int)]else D.exc⟩ q.2.tail (p+1) (7680+k) A4 n4 c4 q.1/\R.heap.size<=O.heap.size)
       case first=>
        cases b
        .go_wp2_with fail;go_meet
         case rel=>exact⟨rfl,M4,bC,z,G,yx.out,lr' _⟩
        .have cn:=yx.out.m0;have co:=yx.out.st.v10;have ag:Ext R (R.alloc (.cells #[.int .i64 (7680+(k:Int))] 3)).drew:=(eR'.ay _).dQ;have Aj:=ah ag;have dd:=aY (bg ag) cn;have de:=aY (bg ag) co;have cp:=(aK.ints yx.out.st.o10).len.1;have cq:=ah yx.out.st.o10;have df:z<=5:=(by omega);clear cp ag;go_wp2_with fail
         go_region_law((refine Nb (by rfl) _ _ (by rfl) w.heap.size (by rfl) (Own.ext cq.out Aj.out) (by rfl) (aC.ext (iJ R (7680+(k:Int))) eR'.dQ) (by omega) (by simp;omega) ?_
                        intro kP cr dg Rj Gi RZ;obtain⟨cs,Ul⟩:=iC.JK (yx.out.aB Aj.out l.out f) Rj Gi RZ l.out f (lr' _) a7;have ct:=ah Ul;obtain⟨U3,di⟩:=jc.wW (yx.out.aB Aj.out l.out f).st Gi (.inr rfl) f 10;have dj:=U3.trans (yx.out.aB Aj.out l.out f).st.v10;have cu:=Nat.le_trans (Ext.b Aj.out).size Gi.size
                        clear Rj Gi RZ Ul U3))
         all_goals
          go_wp2_with fail;go_meet
          case rel=>exact⟨rfl,cs,kP,_,cr,ct.out,by simpa using cu⟩
       case rest=>
        obtain⟨rfl,cv,cw,cx,cy,Um,dk⟩:=hcut;obtain⟨s,rfl⟩:=eX' wc;have BU:=ah Um;clear Um yx;have b0:=BU.out.m0;have bm:=BU.out.m1;have cz:=BU.out.st.v9;have cA:0<n4:=by
         have h1:=(aK.ints BU.out.own).len.1;have h2:=Zi k t.tail;rw[ba.out]at h2;omega
        obtain⟨p4,bI⟩:=Own.some_ BU.out.own cA;have dl:=ah bI;subst bI;have X:Ext s (s.alloc (.cells #[.int .i64 (7680+(k:Int)),.slice (some ⟨p4,0,none⟩) n4 c4] 80)).drew:=(eR'.ay _).dQ;have cB:=ah X;have dm:=aY (bg X) b0;have Uc:=aY (bg X) bm;have dn:=aY (bg X) cz;have a6:=ah (BU.out.aB X l.out f);have bL:=ah (a6.out.Sz (p:=p4) rfl l.out f);have bN:(s.alloc (.cells #[.int .i64 (7680+(k:Int)),.slice (some ⟨p4,0,none⟩) n4 c4] 80)).drew.cell? ⟨s.heap.size,0,none⟩=some (.int .i64 (7680+(k:Int))):=World.cell?_alloc_new s _ _ 0;have bO:(s.alloc (.cells #[.int .i64 (7680+(k:Int)),.slice (some ⟨p4,0,none⟩) n4 c4] 80)).drew.cell? ⟨s.heap.size,1,none⟩=some (.slice (some ⟨p4,0,none⟩) n4 c4):=World.cell?_alloc_new s _ _ 1;have cC:=ah bN;have cD:=ah bO;clear X bN bO;have dp:D.dec.length<=5:=(by omega);have cE:Hid ((if b=true then D.exc++[7680+(k:Int)]else D.exc).length<=k+1):=ah (by cases b<;>simp<;>omega);go_wp2_with fail
        go_region_law((refine Ia (by rfl) _ _ (by rfl) (cv.filter (· ≠p4)) w.heap.size (by rfl) bL.out.o9 (by rfl) cC.out cD.out (a6.out.seq (p:=p4) rfl) bL.out.h9 (by omega) (by simp;omega) ?_
                       intro cF cG dq zq sD zA;obtain⟨cH,xq⟩:=iC.JY a6.out (p:=p4) rfl zq sD zA l.out f (lr' _) a7;have Gs:=ah xq;obtain⟨ao,U5⟩:=jc.wW a6.out.st sD (.inl rfl) f 9;have Si:=ao.trans a6.out.st.v9;have Ut:=Nat.le_trans (Ext.b cB.out).size sD.size
                       clear zq sD zA xq ao))
        all_goals
         go_wp2;go_roundg ar;exact⟨k+1,cH,cF,_,cG,cw,cx,cy,_,q.2.tail,by omega,by go_num,Gs.out,ah (by rw[b6.out,HQ.out,ch.out,HB.out]),by simp;omega,cE.out,by simp;omega⟩;omega
 .obtain rfl:gk=0:=by omega
  obtain rfl:k=5:=by omega
  go_wp2;go_end0;exact⟨rfl,M,A9,n9,c9,bC,z,G,by rw[HR.out];exact Z.out⟩
end Go.Proofs.YtljilcbobhmkgaaGreatDoor
