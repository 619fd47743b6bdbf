/- Part By15. -/
import Derived.Test.YtlmkgaoakcjlnaaGreatDoorBy14
open Go.Proofs.Tryz
namespace Go.Proofs.YtlmkgaoakcjlnaaGreatDoor
set_option maxHeartbeats 25600000
set_option maxRecDepth 100000
open Go.RowKit
variable (t:TV)(T:aj)(l:List Int)(A:Option Addr)(n c:Nat)(w:World)
def sG(T:aj)(c:Int):List Int:=if 65<=c/\c<=90 then[c+32]else aI T.mps c
def jd(T:aj)(c:Int):List Int:=if eH T c=3 then sG T c else if eH T c=1\/eH T c=4 then[c]else[]
def kF(T:aj):Int->List Int->Int
 |_,[]=> -1
 |i,c::r=>if eH T c=0 then i else kF T (i+1) r
def jV(T:aj)(l:List Int):Int:=if aX T l≠0 then aX T l else if kF T 0 l≠ -1 then 16 else if 4096<((l.flatMap (jd T)).length:Int)then 7 else 0
def rC(T:aj)(l:List Int):Int:=if aX T l≠0 then 0 else if kF T 0 l≠ -1 then kF T 0 l else 0
def lW(T:aj)(l:List Int):List Int:=if jV T l=0 then l.flatMap (jd T)else[]
def Y0(w:World)(T:aj)(l:List Int)(e:Ending)(w':World):Prop:=∃B m d,e=.returned (.tuple #[.slice B m d,.int .i64 (rC T l),.int .i64 (jV T l)])/\Ext w w'/\aF w' ⟨B,m,d⟩ (lW T l)
theorem OI{T:aj}(h:dw T=true):T.mps.length<=256/\∀x,(aI T.mps x).length<=18:=by
 simp only[dw,aT]at h;have b:jO T=true:=by simp only[h]
 have a:jg T=true:=by simp only[h]
 simp only[jO,maps,pW,aT,au]at b;simp only[jg,maps,kS,aT]at a;exact⟨by omega,Ia a.2.1⟩
theorem XJ{T:aj}(h:dw T=true):dU T=true:=by
 simp only[dw,aT]at h;simp only[h]
theorem OH{T:aj}(h:dw T=true)(x:Int):(sG T x).length<=18:=by
 unfold sG;split
 .simp
 .exact(OI h).2 x
theorem X3{T:aj}(h:dw T=true)(x:Int):(jd T x).length<=18:=by
 unfold jd;split
 .exact OH h x
 .split<;>simp
theorem G5{f:Int->List Int}(a:∀x,(f x).length<=18):∀l:List Int,(l.flatMap f).length<=18*l.length
 |[]=>by simp
 |x::r=>by
  have b:=G5 a r;have c:=a x;simp only[List.flatMap_cons,lA',List.length_cons];omega
theorem aRV(c:Int)(w:World)(ht:aW w t T)(j:dw T=true)(R:0<=c/\c<=1114111):
 Calls prog 154 #[t.v,.int .i64 c] w λe w'=>∃B m d,e=.returned (.slice B m d)/\aF w' ⟨B,m,d⟩ (sG T c)/\Ext w w':=by
 have b:=dG w t;have C:=ah (ht.aC b);have D:=ah ((OI j).2 c);have r:=ah (ou j);have E:=ah (Fa j);by_cases f:65<=c/\c<=90
 .have k:Hid (sG T c=[c+32]):=ah (by rw[sG,pP' f]);obtain⟨F,G⟩:=f;have s:decide (65<=c)=true:=dt' F;have I:decide (c<=90)=true:=dt' G;have S:c+97-65=c+32:=by omega
  have J:Hid (∀H,(tW' w t).heap.size=H->aF ((tW' w t).alloc (.cells #[.int .i64 (c+32)] 3)) ⟨some ⟨H,0,none⟩,1,1⟩ [c+32]):=ah (by rintro _ rfl;exact iQ _ _);have l:=b.trans' ((Ext.refl (tW' w t)).aB (.cells #[.int .i64 (c+32)] 3));clear j;go_enter func154,ntmps154;go_wp2;go_ret;exact⟨_,_,_,rfl,by rw[k.out];exact J.out _ (by simp),l⟩
 .have k:Hid (sG T c=aI T.mps c):=ah (by rw[sG,nN' f]);have K:(decide (65<=c)=true/\decide (c<=90)=false)\/decide (65<=c)=false:=by
   by_cases h:65<=c
   .exact .inl ⟨dt' h,by rw[aA];exact λL=>f ⟨h,L⟩⟩
   .exact .inr (df' h)
  clear j f;obtain⟨x,M,y,z,g,N⟩:=BH T.mps t.s8.a t.s8.n t.s8.c c _ C.out.mps r.out.mps.1 r.out.mps.2;have O:=ah z;have o:Hid (aI T.mps c=[]->x=none/\y=0):=ah λh=>by
   have:=g (Dc E.out.mps h);exact⟨this.1,this.2.2⟩
  clear z g;rcases K with⟨s,I⟩|s
  all_goals
   go_enter func154,ntmps154;go_wp2_with fail;refine(N _ eR').mono ?_;rintro e P⟨rfl,i⟩;go_wp2_with fail;refine(MJ _ x M y P (O.out.ext i) (by have:=D.out;omega) o.out).mono ?_;rintro e U⟨B,d,rfl,A,p,q⟩;have l:=(b.trans' i).trans' q;have Q:=ah (aK.ints A);clear A p;go_wp2;go_ret;exact⟨_,_,_,rfl,by rw[k.out];exact Q.out,l⟩
theorem aRH(c:Int)(w:World)(ht:aW w t T)(g:dw T=true)(z:0<=c/\c<=1114111):
 Calls prog 116 #[t.v,.int .i64 c] w λe w'=>∃B m d,e=.returned (.slice B m d)/\aF w' ⟨B,m,d⟩ (sG T c)/\Ext w w':=by
 have a:=dG w t;have n:=ah (ht.aC a);have A:=ah ((OI g).2 c);have C:=ah (ou g);have D:=ah (Fa g);by_cases b:65<=c/\c<=90
 .have i:Hid (sG T c=[c+32]):=ah (by rw[sG,pP' b]);obtain⟨o,p⟩:=b;have k:decide (65<=c)=true:=dt' o;have q:decide (c<=90)=true:=dt' p;have E:c+97-65=c+32:=by omega
  have r:Hid (∀H,(tW' w t).heap.size=H->aF ((tW' w t).alloc (.cells #[.int .i64 (c+32)] 3)) ⟨some ⟨H,0,none⟩,1,1⟩ [c+32]):=ah (by rintro _ rfl;exact iQ _ _);have j:=a.trans' ((Ext.refl (tW' w t)).aB (.cells #[.int .i64 (c+32)] 3));clear g;go_enter func116,ntmps116;go_wp2;go_ret;exact⟨_,_,_,rfl,by rw[i.out];exact r.out _ (by simp),j⟩
 .have i:Hid (sG T c=aI T.mps c):=ah (by rw[sG,nN' b]);have s:(decide (65<=c)=true/\decide (c<=90)=false)\/decide (65<=c)=false:=by
   by_cases h:65<=c
   .exact .inl ⟨dt' h,by rw[aA];exact λx=>b ⟨h,x⟩⟩
   .exact .inr (df' h)
  clear g b;skip;rcases s with⟨k,q⟩|k
  all_goals
   go_enter func116,ntmps116;go_wp2_with fail;refine(iZ T.mps _ _ _ c _ n.out.mps).mono ?_;rintro e F⟨G,I,J,rfl,l,f⟩;have y:=ah l;have j:=a.trans' f;clear l f;go_wp2;go_ret;exact⟨_,_,_,rfl,by rw[i.out];exact y.out,j⟩
def aRm(T:aj)(wb:World)(l:List Int)(gh:Nat)(s9 s23:Value)(wx:World):Prop:=
 ∃(k:Nat)(A:Option Addr)(n c:Nat),k+gh=l.length/\s23=.int .i64 k/\s9=.slice A n c/\Hid (aK wx wb.heap.size A n c ((l.take k).flatMap (jd T)))/\Hid (Ext wb wx)/\Hid (kF T k (l.drop k)=kF T 0 l)
theorem aPl(t:TV)(l:List Int)(A:Option Addr)(n c:Nat)(w:World)(ht:aW w t T)(hi:aF w ⟨A,n,c⟩ l):
 Calls prog 81 #[t.v,.slice A n c] w (Y0 w T l):=by
 have B:=dG w t;have K:=ah B;have HT:=ah (ht.aC B);have HI:=ah (hi.ext B);have hn:=hi.len.1;subst hn;clear ht hi B;go_enter func81,ntmps81;go_wp2_with fail;refine(yS t T l A _ c _ HT.out HI.out).mono ?_;rintro e O⟨v,rfl,L,_⟩;have V:=ah L;have W:=bT' t L;clear L;by_cases j:aX T l=0
 .obtain⟨hw,hl⟩:=sU j;have al:(aX T l != 0)=false:=bZ' j;have X:Hid (jV T l=if kF T 0 l≠ -1 then 16 else if 4096<((l.flatMap (jd T)).length:Int)then 7 else 0):=ah (by rw[jV,nN' (by rw[j];simp)]);have Y:Hid (rC T l=if kF T 0 l≠ -1 then kF T 0 l else 0):=ah (by rw[rC,nN' (by rw[j];simp)]);have HW:=ah hw;have HL:=ah hl;have nY:=ah (MV j);clear j hw hl W;go_wp2;go_loopg[9,23] l.length (λgh s9 am wx=>aRm T O l gh s9 am wx);exact⟨0,none,0,0,by omega,rfl,rfl,ah (Own.nil_ _ _ _ _),ah eR',ah rfl⟩;obtain⟨k,A2,i,c2,bd,rfl,rfl,C,Z,HD⟩:=hrel;have P:=ah (V.out.trans' Z.out);have W:=bT' t P.out;have an:=ah (HI.out.ext P.out)
  have a0:Hid (((l.take k).flatMap (jd T)).length<=18*4096):=ah (by
   have M:=G5 (X3 HW.out) (l.take k);rw[List.length_take]at M;have:=HL.out
   omega)
  have D:=ah (aK.ints C.out).len.1;by_cases E:k<l.length
  .obtain⟨F,rfl⟩:=gS' gk;obtain⟨b,o,rfl,bf⟩:=an.out.at_ E;have G:=ah (BL (jd T) l k E);have ao:=ah (MQ (nY.out _ (gM' E)));have H:Hid (kF T k (l.drop k)=if eH T l[k]=0 then(k:Int)else kF T (k+1) (l.drop (k+1))):=ah (by rw[drop_at l k E];rfl);have g:Hid (jd T l[k]=if eH T l[k]=3 then sG T l[k]else if eH T l[k]=1\/eH T l[k]=4 then[l[k]]else[]):=rfl;generalize l[k]=x at*;have bh:=z0' k;have bi:(k:Int)<(l.length:Int):=(by omega);have bj:l.length<=4096:=HL.out;go_wp2_with fail;refine(He t T x wr (HT.out.aC P.out) (ou HW.out)).mono ?_;rintro e w3⟨rfl,m⟩;have p:=ah (Z.out.trans' m);have dM:=ah (Own.ext C.out m);have iH:=bT' t (P.out.trans' m);have nK:=ah (P.out.trans' m);clear m W C;generalize eH T x=s at*;by_cases h0:s=0
   .subst h0;have a3:=ah (HD.out.symm.trans (H.out.trans (pP' rfl)));have hb:=K.out.trans' nK.out;clear H g;go_wp2;go_ret3;have a4:kF T 0 l≠ -1:=(by rw[a3.out];omega);have a5:jV T l=16:=(by rw[X.out,pP' a4]);exact⟨none,0,0,by rw[a5,Y.out,pP' a4,a3.out];rfl,hb,by rw[lW,nN' (by rw[a5];decide)];exact aF.nil_ _⟩
   .have I:Hid (kF T ((k+1:Nat):Int) (l.drop (k+1))=kF T 0 l):=ah (by
     have M:=H.out;rw[nN' h0]at M
     exact(M.symm.trans HD.out))
    have q0:(s==0)=false:=(by rw[aO];exact h0);clear H HD h0;by_cases J:s=3
    .have q:Hid (jd T x=sG T x):=ah (by rw[g.out,pP' J]);have q3:(s==3)=true:=(by rw[bq'];exact J);have q1:(s==1)=false:=bF';have q4:(s==4)=false:=bF';clear J g;go_wp2_with fail;refine(aRV t T x w3 (HT.out.aC nK.out) HW.out ao.out).mono ?_;rintro e w4⟨A3,n3,c3,rfl,N,r⟩;have av:=N.len.1;have aw:=OH HW.out x;obtain⟨Q,R,w5,a,d,f,kK⟩:=gJ (Own.ext dM.out r) N (by have:=a0.out;have:=D.out;omega) (p.out.trans' r).b.size;have S:Hid (aK w5 O.heap.size Q (i+n3) R ((l.take (k+1)).flatMap (jd T))):=ah (by rw[G.out,q.out];exact d);have bD:Hid (Ext O w5):=ah (dZ (p.out.trans' r) f (λk hk=>(Own.lt (Own.ext dM.out r) k hk).1));clear d f kK N r av aw iH;go_wp2_with(at_builtin;refine dI rfl _ _ _ rfl _ _ rfl rfl _ _ a ?_);clear a;go_roundg F;exact⟨k+1,Q,i+n3,R,by omega,by go_num,rfl,S,bD,I⟩;omega
    .have q3:(s==3)=false:=(by rw[aO];exact J);by_cases y:s=1\/s=4
     .have q:Hid (jd T x=[x]):=ah (by rw[g.out,nN' J,pP' y]);have az:(s==1)=true\/((s==1)=false/\(s==4)=true):=by
       rcases y with h|h
       .exact .inl (by rw[bq'];exact h)
       .exact .inr ⟨by rw[aO];omega,by rw[bq'];exact h⟩
      have z:Ext w3 (w3.alloc (.cells #[.int .i64 x] 3)):=eR'.aB _;obtain⟨Q,R,w5,a,d,f,kK⟩:=gJ (Own.ext dM.out z) (iQ w3 x) (by have:=a0.out;have:=D.out;omega) (p.out.trans' z).b.size;have S:Hid (aK w5 O.heap.size Q (i+1) R ((l.take (k+1)).flatMap (jd T))):=ah (by rw[G.out,q.out];exact d);have bD:Hid (Ext O w5):=ah (dZ (p.out.trans' z) f (λk hk=>(Own.lt (Own.ext dM.out z) k hk).1));clear d f kK z iH y J g;rcases az with q1|⟨q1,q4⟩
      .go_wp2_with(at_builtin;refine dI rfl _ _ _ rfl _ _ rfl rfl _ _ a ?_);clear a;go_roundg F;exact⟨k+1,Q,i+1,R,by omega,by go_num,rfl,S,bD,I⟩;omega
      .go_wp2_with(at_builtin;refine dI rfl _ _ _ rfl _ _ rfl rfl _ _ a ?_);clear a;go_roundg F;exact⟨k+1,Q,i+1,R,by omega,by go_num,rfl,S,bD,I⟩;omega
     .have q:Hid (jd T x=[]):=ah (by rw[g.out,nN' J,nN' y]);have q1:(s==1)=false:=bF';have q4:(s==4)=false:=bF';have S:Hid (aK w3 O.heap.size A2 i c2 ((l.take (k+1)).flatMap (jd T))):=ah (by rw[G.out,q.out,List.append_nil];exact dM.out);clear y J g iH;go_wp2;go_roundg F;exact⟨k+1,A2,i,c2,by omega,by go_num,rfl,S,p,I⟩;omega
  .have HE:Hid ((l.take k).flatMap (jd T)=l.flatMap (jd T)):=ah (by rw[tL' (by omega)]);have a7:Hid (kF T 0 l= -1):=ah (by rw[<- HD.out,List.drop_of_length_le (by omega)];rfl);have a8:=K.out.trans' P.out;have a9:Hid (rC T l=0):=ah (by rw[Y.out,nN' (by rw[a7.out];simp)]);have aa:=ah (X.out.trans (nN' (by rw[a7.out];simp)));clear W;by_cases U:4096<((l.flatMap (jd T)).length:Int)
   .have G:Hid (jV T l=7):=ah (by rw[aa.out,pP' U]);have hd:decide (4096<(i:Int))=true:=(by rw[au,D.out,HE.out];exact U);have aL:decide (4096<i)=true:=(by rw[au];rw[au]at hd;omega);clear U;go_wp2;go_ret3;exact⟨none,0,0,by rw[G.out,a9.out];rfl,a8,by rw[lW,G.out,nN' (by decide)];exact aF.nil_ _⟩
   .have G:Hid (jV T l=0):=ah (by rw[aa.out,nN' U]);have hd:decide (4096<(i:Int))=false:=(by rw[aA,D.out,HE.out];exact U);have aL:decide (4096<i)=false:=(by rw[aA];rw[aA]at hd;omega);have aM:Hid (aF wr ⟨A2,i,c2⟩ (l.flatMap (jd T))):=ah (by rw[<- HE.out];exact aK.ints C.out);clear U;go_wp2;go_ret3;exact⟨A2,i,c2,by rw[G.out,a9.out];rfl,a8,by rw[lW,G.out,pP' rfl];exact aM.out⟩
 .have al:(aX T l != 0)=true:=bN' j
  have HZ:Hid (jV T l=aX T l/\jV T l≠0/\rC T l=0):=ah (by
   have M:jV T l=aX T l:=by rw[jV,pP' j]
   exact⟨M,by rw[M];exact j,by rw[rC,pP' j]⟩)
  have hb:=K.out.trans' V.out;clear j W;go_wp2;go_ret3;exact⟨none,0,0,by rw[HZ.out.1,HZ.out.2.2];rfl,hb,by rw[lW,nN' HZ.out.2.1];exact aF.nil_ _⟩
def aRj(T:aj)(wb:World)(l:List Int)(gh:Nat)(s9 s23:Value)(wx:World):Prop:=
 ∃(k:Nat)(A:Option Addr)(n c:Nat),k+gh=l.length/\s23=.int .i64 k/\s9=.slice A n c/\Hid (aK wx wb.heap.size A n c ((l.take k).flatMap (jd T)))/\Hid (Ext wb wx)/\Hid (kF T k (l.drop k)=kF T 0 l)
theorem aPb(t:TV)(l:List Int)(A:Option Addr)(n c:Nat)(w:World)(ht:aW w t T)(hi:aF w ⟨A,n,c⟩ l):
 Calls prog 57 #[t.v,.slice A n c] w (Y0 w T l):=by
 have B:=dG w t;have K:=ah B;have HT:=ah (ht.aC B);have HI:=ah (hi.ext B);have hn:=hi.len.1;subst hn;clear ht hi B;go_enter func57,ntmps57;go_wp2_with fail;refine(uJ t T l A _ c _ HT.out HI.out).mono ?_;rintro e O⟨rfl,L⟩;have V:=ah L;have W:=bT' t L;clear L;by_cases j:aX T l=0
 .obtain⟨hw,hl⟩:=sU j;have al:(aX T l != 0)=false:=bZ' j;have X:Hid (jV T l=if kF T 0 l≠ -1 then 16 else if 4096<((l.flatMap (jd T)).length:Int)then 7 else 0):=ah (by rw[jV,nN' (by rw[j];simp)]);have Y:Hid (rC T l=if kF T 0 l≠ -1 then kF T 0 l else 0):=ah (by rw[rC,nN' (by rw[j];simp)]);have HW:=ah hw;have HL:=ah hl;have nY:=ah (MV j);clear j hw hl W;go_wp2;go_loopg[8,19] l.length (λgh s9 am wx=>aRj T O l gh s9 am wx);exact⟨0,none,0,0,by omega,rfl,rfl,ah (Own.nil_ _ _ _ _),ah eR',ah rfl⟩;obtain⟨k,A2,i,c2,bd,rfl,rfl,C,Z,HD⟩:=hrel;have P:=ah (V.out.trans' Z.out);have W:=bT' t P.out;have an:=ah (HI.out.ext P.out)
  have a0:Hid (((l.take k).flatMap (jd T)).length<=18*4096):=ah (by
   have M:=G5 (X3 HW.out) (l.take k);rw[List.length_take]at M;have:=HL.out
   omega)
  have D:=ah (aK.ints C.out).len.1;by_cases E:k<l.length
  .obtain⟨F,rfl⟩:=gS' gk;obtain⟨b,o,rfl,bf⟩:=an.out.at_ E;have G:=ah (BL (jd T) l k E);have ao:=ah (MQ (nY.out _ (gM' E)));have H:Hid (kF T k (l.drop k)=if eH T l[k]=0 then(k:Int)else kF T (k+1) (l.drop (k+1))):=ah (by rw[drop_at l k E];rfl);have g:Hid (jd T l[k]=if eH T l[k]=3 then sG T l[k]else if eH T l[k]=1\/eH T l[k]=4 then[l[k]]else[]):=rfl;generalize l[k]=x at*;have bh:=z0' k;have bi:(k:Int)<(l.length:Int):=(by omega);have bj:l.length<=4096:=HL.out;go_wp2_with fail;refine(Gz t T x wr (HT.out.aC P.out) (MB (XJ HW.out))).mono ?_;rintro e w3⟨rfl,m⟩;have p:=ah (Z.out.trans' m);have dM:=ah (Own.ext C.out m);have iH:=bT' t (P.out.trans' m);have nK:=ah (P.out.trans' m);clear m W C;generalize eH T x=s at*;by_cases h0:s=0
   .subst h0;have a3:=ah (HD.out.symm.trans (H.out.trans (pP' rfl)));have hb:=K.out.trans' nK.out;clear H g;go_wp2;go_ret3;have a4:kF T 0 l≠ -1:=(by rw[a3.out];omega);have a5:jV T l=16:=(by rw[X.out,pP' a4]);exact⟨none,0,0,by rw[a5,Y.out,pP' a4,a3.out];rfl,hb,by rw[lW,nN' (by rw[a5];decide)];exact aF.nil_ _⟩
   .have I:Hid (kF T ((k+1:Nat):Int) (l.drop (k+1))=kF T 0 l):=ah (by
     have M:=H.out;rw[nN' h0]at M
     exact(M.symm.trans HD.out))
    have q0:(s==0)=false:=(by rw[aO];exact h0);clear H HD h0;by_cases J:s=3
    .have q:Hid (jd T x=sG T x):=ah (by rw[g.out,pP' J]);have q3:(s==3)=true:=(by rw[bq'];exact J);have q1:(s==1)=false:=bF';have q4:(s==4)=false:=bF';clear J g;go_wp2_with fail;refine(aRH t T x w3 (HT.out.aC nK.out) HW.out ao.out).mono ?_;rintro e w4⟨A3,n3,c3,rfl,N,r⟩;have av:=N.len.1;have aw:=OH HW.out x;obtain⟨Q,R,w5,a,d,f,kK⟩:=gJ (Own.ext dM.out r) N (by have:=a0.out;have:=D.out;omega) (p.out.trans' r).b.size;have S:Hid (aK w5 O.heap.size Q (i+n3) R ((l.take (k+1)).flatMap (jd T))):=ah (by rw[G.out,q.out];exact d);have bD:Hid (Ext O w5):=ah (dZ (p.out.trans' r) f (λk hk=>(Own.lt (Own.ext dM.out r) k hk).1));clear d f kK N r av aw iH;go_wp2_with(at_builtin;refine dI rfl _ _ _ rfl _ _ rfl rfl _ _ a ?_);clear a;go_roundg F;exact⟨k+1,Q,i+n3,R,by omega,by go_num,rfl,S,bD,I⟩;omega
    .have q3:(s==3)=false:=(by rw[aO];exact J);by_cases y:s=1\/s=4
     .have q:Hid (jd T x=[x]):=ah (by rw[g.out,nN' J,pP' y]);have az:(s==1)=true\/((s==1)=false/\(s==4)=true):=by
       rcases y with h|h
       .exact .inl (by rw[bq'];exact h)
       .exact .inr ⟨by rw[aO];omega,by rw[bq'];exact h⟩
      have z:Ext w3 (w3.alloc (.cells #[.int .i64 x] 3)):=eR'.aB _;obtain⟨Q,R,w5,a,d,f,kK⟩:=gJ (Own.ext dM.out z) (iQ w3 x) (by have:=a0.out;have:=D.out;omega) (p.out.trans' z).b.size;have S:Hid (aK w5 O.heap.size Q (i+1) R ((l.take (k+1)).flatMap (jd T))):=ah (by rw[G.out,q.out];exact d);have bD:Hid (Ext O w5):=ah (dZ (p.out.trans' z) f (λk hk=>(Own.lt (Own.ext dM.out z) k hk).1));clear d f kK z iH y J g;rcases az with q1|⟨q1,q4⟩
      .go_wp2_with(at_builtin;refine dI rfl _ _ _ rfl _ _ rfl rfl _ _ a ?_);clear a;go_roundg F;exact⟨k+1,Q,i+1,R,by omega,by go_num,rfl,S,bD,I⟩;omega
      .go_wp2_with(at_builtin;refine dI rfl _ _ _ rfl _ _ rfl rfl _ _ a ?_);clear a;go_roundg F;exact⟨k+1,Q,i+1,R,by omega,by go_num,rfl,S,bD,I⟩;omega
     .have q:Hid (jd T x=[]):=ah (by rw[g.out,nN' J,nN' y]);have q1:(s==1)=false:=bF';have q4:(s==4)=false:=bF';have S:Hid (aK w3 O.heap.size A2 i c2 ((l.take (k+1)).flatMap (jd T))):=ah (by rw[G.out,q.out,List.append_nil];exact dM.out);clear y J g iH;go_wp2;go_roundg F;exact⟨k+1,A2,i,c2,by omega,by go_num,rfl,S,p,I⟩;omega
  .have HE:Hid ((l.take k).flatMap (jd T)=l.flatMap (jd T)):=ah (by rw[tL' (by omega)]);have a7:Hid (kF T 0 l= -1):=ah (by rw[<- HD.out,List.drop_of_length_le (by omega)];rfl);have a8:=K.out.trans' P.out;have a9:Hid (rC T l=0):=ah (by rw[Y.out,nN' (by rw[a7.out];simp)]);have aa:=ah (X.out.trans (nN' (by rw[a7.out];simp)));clear W;by_cases U:4096<((l.flatMap (jd T)).length:Int)
   .have G:Hid (jV T l=7):=ah (by rw[aa.out,pP' U]);have hd:decide (4096<(i:Int))=true:=(by rw[au,D.out,HE.out];exact U);have aL:decide (4096<i)=true:=(by rw[au];rw[au]at hd;omega);clear U;go_wp2;go_ret3;exact⟨none,0,0,by rw[G.out,a9.out];rfl,a8,by rw[lW,G.out,nN' (by decide)];exact aF.nil_ _⟩
   .have G:Hid (jV T l=0):=ah (by rw[aa.out,nN' U]);have hd:decide (4096<(i:Int))=false:=(by rw[aA,D.out,HE.out];exact U);have aL:decide (4096<i)=false:=(by rw[aA];rw[aA]at hd;omega);have aM:Hid (aF wr ⟨A2,i,c2⟩ (l.flatMap (jd T))):=ah (by rw[<- HE.out];exact aK.ints C.out);clear U;go_wp2;go_ret3;exact⟨A2,i,c2,by rw[G.out,a9.out];rfl,a8,by rw[lW,G.out,pP' rfl];exact aM.out⟩
 .have al:(aX T l != 0)=true:=bN' j
  have HZ:Hid (jV T l=aX T l/\jV T l≠0/\rC T l=0):=ah (by
   have M:jV T l=aX T l:=by rw[jV,pP' j]
   exact⟨M,by rw[M];exact j,by rw[rC,pP' j]⟩)
  have hb:=K.out.trans' V.out;clear j W;go_wp2;go_ret3;exact⟨none,0,0,by rw[HZ.out.1,HZ.out.2.2];rfl,hb,by rw[lW,nN' HZ.out.2.1];exact aF.nil_ _⟩
theorem RJ{T:aj}{l:List Int}{i s:Int}(h:i<0):gq T l i s=false:=by rw[gq,pP' h]
theorem Qp(i:Int)(w:World)(ht:aW w t T)(h:aF w ⟨A,n,c⟩ l):
 cE' 194 #[t.v,.slice A n c,.int .i64 i] w (.bool (wU T l i)):=by
 obtain⟨hn,bL,bR⟩:=h.len;subst hn;have D:=dG w t;have HI:=ah h;have HT:=ah ht;by_cases c1:i<0
 .have s:Hid (wU T l i=false):=ah (by rw[wU,GZ c1];rfl);have d1:decide (i<0)=true:=iG c1;clear ht h;go_enter func194,ntmps194;go_wp2;go_ret;exact⟨aP s.out.symm,D⟩
 have d1:decide (i<0)=false:=jD c1;obtain⟨i,rfl⟩:=iN' i;by_cases c2:l.length<=i
 .have s:Hid (wU T l i=false):=ah (by rw[wU,GY (by omega)];rfl);have d2:decide (l.length<=i)=true:=iG c2;have d3:decide ((l.length:Int)<=(i:Int))=true:=iG (by omega);clear ht h;go_enter func194,ntmps194;go_wp2;go_ret;exact⟨aP s.out.symm,D⟩
 have d2:decide (l.length<=i)=false:=jD c2;have d3:decide ((l.length:Int)<=(i:Int))=false:=jD (by omega);have S:=ah (uJ t T l A l.length c _ (ht.aC D) (h.ext D));by_cases c3:aX T l=0
 case neg=>
  have s:Hid (wU T l i=false):=ah (by rw[wU,GL c3];rfl);have e1:(aX T l != 0)=true:=bN' c3;generalize aX T l=oe at*;clear c3 ht h;go_enter func194,ntmps194;go_wp2_with fail;refine(S.out).mono ?_;rintro e B⟨rfl,f⟩;go_wp2;go_ret;exact⟨aP s.out.symm,D.trans' f⟩
 have hi:i<l.length:=by omega
 have bZ:=z0' i;have c0:(i:Int)<(l.length:Int):=by omega
 have P:=I5 T l i hi false;have Q:=I5 T l i hi true;have ad:Hid (uI T l i=true):=ah (Ep c3 hi);have HB:Hid (wU T l i=ny T l i):=ah (by rw[wU,ad.out];rfl);rw[c3]at S;obtain⟨b,o,ha,U⟩:=h.at_ hi;subst ha;have HD:Hid (l.getD i 0=l[i]):=ah (getD_lt l i 0 hi)
 have H:Hid (∀j,j<l.length->∃y,l.getD j 0=y/\w.cell? ⟨b,o+j,none⟩=some (.int .i64 y)):=ah (λj hj=>by
  obtain⟨b',o',fJ,h2⟩:=HI.out.at_ hj;injection fJ with fJ;injection fJ with e1 e2;subst e1 e2
  exact⟨_,getD_lt l j 0 hj,h2⟩)
 have b5:Hid (∀a,jM T l i false=a->∀w',Ext w w'->cE' 252 #[t.v,.slice (some ⟨b,o,none⟩) l.length c,.int .i64 i] w' (.int .i64 a)):=ah (λa ha w' m=>by
  have I:=a2B t T l (some ⟨b,o,none⟩) l.length c i w' (HT.out.aC m) (HI.out.ext m);rw[show leftV T l i=a from by rw[leftV,pP' ad.out,<- ha];rfl]at I
  exact I)
 have b6:Hid (∀a,jM T l i true=a->∀w',Ext w w'->cE' 253 #[t.v,.slice (some ⟨b,o,none⟩) l.length c,.int .i64 i] w' (.int .i64 a)):=ah (λa ha w' m=>by
  have I:=ZY' t T l (some ⟨b,o,none⟩) l.length c i w' (HT.out.aC m) (HI.out.ext m);rw[show xX T l i=a from by rw[xX,pP' ad.out,<- ha];rfl]at I
  exact I)
 obtain⟨F,ae⟩:=eY' (jM T l i false);obtain⟨G,af⟩:=eY' (jM T l i true);rw[ae]at P;rw[af]at Q;have nX:=ah (b5.out F ae);have L:=ah (b6.out G af);obtain⟨V,hV⟩:=eX' (wU T l i)
 have HV:Hid (V=if(!(l[i]==8204)&& !(l[i]==8205))=true then true else if(decide (0<i)&&aG T (l.getD (i-1) 0)==9)=true then true else(l[i]==8204&&gq T l F 1&&gq T l G 2)):=ah (by
  rw[hV,HB.out,ny,HD.out,ae,af])
 rw[<- hV];clear hV ae af HB b5 b6 ad ht h c1 c2 c3 HD;generalize l[i]=x at*;by_cases hx:x=8205\/x=8204
 case neg=>
  simp only[not_or]at hx;have e1:(x != 8205)=true:=by rw[bne_iff_ne];exact hx.1
  have e2:(x != 8204)=true:=by rw[bne_iff_ne];exact hx.2
  have s:Hid (V=true):=ah (by
   have f1:(x==8205)=false:=(by rw[aO];exact hx.1);have f2:(x==8204)=false:=by rw[aO];exact hx.2
   rw[HV.out,f1,f2];rfl)
  clear HV hx H nX L;go_enter func194,ntmps194;go_wp2_with fail;refine(S.out).mono ?_;rintro e B⟨rfl,f⟩;have E:=ah f;have C:=ah (D.trans' f);clear f S;have rT:∀z:ak B,∀p:Nat,z.w.cell? ⟨w.heap.size,p,none⟩=t.v.cells[p]? :=λz=>aQ (E.out.trans' z.h)
  have rX:∀z:ak B,z.w.cell? ⟨b,o+i,none⟩=some (.int .i64 x):=λz=>bI (bK (C.out.trans' z.h)) U
  go_wp2_with fail;refine rX' ?_
  repeat(go_big_quiet_step(fail))
  refine wpQuiet_nil ?_;rintro _⟨z,rfl⟩;clear rT rX;go_wp2;go_ret;exact⟨aP s.out.symm,C.out.trans' z.h⟩
 rcases hx with rfl|rfl
 case inl=>
  have M:Hid (V=if(decide (0<i)&&aG T (l.getD (i-1) 0)==9)=true then true else((8205:Int)==8204&&gq T l F 1&&gq T l G 2)):=HV;clear HV;rcases Nat.eq_zero_or_pos i with hz|R
  case inl=>
   have W:decide (0<i)=false:=jD (by omega);have N:Hid (V=((8205:Int)==8204&&gq T l F 1&&gq T l G 2)):=ah (by rw[M.out,W];rfl);clear M hz;go_enter func194,ntmps194;go_wp2_with fail;refine(S.out).mono ?_;rintro e B⟨rfl,f⟩;have E:=ah f;have C:=ah (D.trans' f);clear f S;have rT:∀z:ak B,∀p:Nat,z.w.cell? ⟨w.heap.size,p,none⟩=t.v.cells[p]? :=λz=>aQ (E.out.trans' z.h)
   have rX:∀z:ak B,z.w.cell? ⟨b,o+i,none⟩=some (.int .i64 8205):=λz=>bI (bK (C.out.trans' z.h)) U
   go_wp2_with fail;refine rX' ?_
   repeat(go_big_quiet_step(fail))
   refine wpQuiet_nil ?_;rintro _⟨z,rfl⟩;have X:=ah z.h;have g:=ah (C.out.trans' z.h);have gy:∀y:ak z.w,∀p:Nat,y.w.cell? ⟨w.heap.size,p,none⟩=t.v.cells[p]? :=λy=>aQ (E.out.trans' (X.out.trans' y.h))
   have J:Hid (∀y:ak z.w,cE' 252 #[t.v,.slice (some ⟨b,o,none⟩) l.length c,.int .i64 i] y.w (.int .i64 F)):=ah (λy=>nX.out y.w (g.out.trans' y.h));have K:Hid (∀y:ak z.w,cE' 253 #[t.v,.slice (some ⟨b,o,none⟩) l.length c,.int .i64 i] y.w (.int .i64 G)):=ah (λy=>L.out y.w (g.out.trans' y.h));clear rT rX nX L;have s:Hid (V=false):=ah (by rw[N.out];rfl);clear N;go_wp2_with fail;refine rX' ?_
   repeat(go_big_quiet_step(first|(go_at_call 252;with_reducible exact aS (J.out _))|(go_at_call 253;with_reducible exact aS (K.out _))))
   refine wpQuiet_nil ?_;rintro _⟨y,rfl⟩;have r:=ah (g.out.trans' y.h);have O:=ah (E.out.trans' (X.out.trans' y.h));have gX:y.w.cell? ⟨b,o+i,none⟩=some (.int .i64 8205):=bI (bK r.out) U;clear gy;go_wp2;go_ret;exact⟨aP s.out.symm,r.out⟩
  obtain⟨j,hj⟩:∃j,i=j+1:=⟨i-1,by omega⟩;obtain⟨Y,hy,a8⟩:=H.out j (by omega);have W:decide (0<i)=true:=iG R;have b8:(i:Int)-1=(j:Int):=by omega
  have Vw:=z0' j;have b9:(j:Int)<(l.length:Int):=by omega
  obtain⟨cy,Z⟩:=eY' (aG T Y);obtain⟨v9,ar⟩:=eY' (cy==9);have iy:Hid (V=if v9=true then true else((8205:Int)==8204&&gq T l F 1&&gq T l G 2)):=ah (by rw[M.out,W,show i-1=j from by omega,hy,Z,ar];rfl);have HC:Hid (∀w',Ext w w'->cE' 118 #[t.v,.int .i64 Y] w' (.int .i64 cy)):=ah (λw' m=>by have I:=zW t T Y w' (HT.out.aC m);rw[Z]at I;exact I);clear M R hj hy Z;cases v9
  case true=>
   have s:Hid (V=true):=ah (by rw[iy.out];rfl);clear iy H;go_enter func194,ntmps194;go_wp2_with fail;refine(S.out).mono ?_;rintro e B⟨rfl,f⟩;have E:=ah f;have C:=ah (D.trans' f);clear f S;have rT:∀z:ak B,∀p:Nat,z.w.cell? ⟨w.heap.size,p,none⟩=t.v.cells[p]? :=λz=>aQ (E.out.trans' z.h)
   have rX:∀z:ak B,z.w.cell? ⟨b,o+i,none⟩=some (.int .i64 8205):=λz=>bI (bK (C.out.trans' z.h)) U
   have rY:∀z:ak B,z.w.cell? ⟨b,o+j,none⟩=some (.int .i64 Y):=λz=>bI (bK (C.out.trans' z.h)) a8
   have a0:Hid (∀z:ak B,cE' 118 #[t.v,.int .i64 Y] z.w (.int .i64 cy)):=ah (λz=>HC.out z.w (C.out.trans' z.h));go_wp2_with fail;refine rX' ?_
   repeat(go_big_quiet_step(first|(go_at_call 118;with_reducible exact aS (a0.out _))))
   refine wpQuiet_nil ?_;rintro _⟨z,rfl⟩;clear rT rX rY;go_wp2;go_ret;exact⟨aP s.out.symm,C.out.trans' z.h⟩
  have N:Hid (V=((8205:Int)==8204&&gq T l F 1&&gq T l G 2)):=ah (by rw[iy.out];rfl);clear iy;go_enter func194,ntmps194;go_wp2_with fail;refine(S.out).mono ?_;rintro e B⟨rfl,f⟩;have E:=ah f;have C:=ah (D.trans' f);clear f S;have rT:∀z:ak B,∀p:Nat,z.w.cell? ⟨w.heap.size,p,none⟩=t.v.cells[p]? :=λz=>aQ (E.out.trans' z.h)
  have rX:∀z:ak B,z.w.cell? ⟨b,o+i,none⟩=some (.int .i64 8205):=λz=>bI (bK (C.out.trans' z.h)) U
  have rY:∀z:ak B,z.w.cell? ⟨b,o+j,none⟩=some (.int .i64 Y):=λz=>bI (bK (C.out.trans' z.h)) a8
  have a0:Hid (∀z:ak B,cE' 118 #[t.v,.int .i64 Y] z.w (.int .i64 cy)):=ah (λz=>HC.out z.w (C.out.trans' z.h));go_wp2_with fail;refine rX' ?_
  repeat(go_big_quiet_step(first|(go_at_call 118;with_reducible exact aS (a0.out _))))
  refine wpQuiet_nil ?_;rintro _⟨z,rfl⟩;clear rY;have X:=ah z.h;have g:=ah (C.out.trans' z.h);have gy:∀y:ak z.w,∀p:Nat,y.w.cell? ⟨w.heap.size,p,none⟩=t.v.cells[p]? :=λy=>aQ (E.out.trans' (X.out.trans' y.h))
  have J:Hid (∀y:ak z.w,cE' 252 #[t.v,.slice (some ⟨b,o,none⟩) l.length c,.int .i64 i] y.w (.int .i64 F)):=ah (λy=>nX.out y.w (g.out.trans' y.h));have K:Hid (∀y:ak z.w,cE' 253 #[t.v,.slice (some ⟨b,o,none⟩) l.length c,.int .i64 i] y.w (.int .i64 G)):=ah (λy=>L.out y.w (g.out.trans' y.h));clear rT rX nX L;have s:Hid (V=false):=ah (by rw[N.out];rfl);clear N;go_wp2_with fail;refine rX' ?_
  repeat(go_big_quiet_step(first|(go_at_call 252;with_reducible exact aS (J.out _))|(go_at_call 253;with_reducible exact aS (K.out _))))
  refine wpQuiet_nil ?_;rintro _⟨y,rfl⟩;have r:=ah (g.out.trans' y.h);have O:=ah (E.out.trans' (X.out.trans' y.h));have gX:y.w.cell? ⟨b,o+i,none⟩=some (.int .i64 8205):=bI (bK r.out) U;clear gy;go_wp2;go_ret;exact⟨aP s.out.symm,r.out⟩
 have M:Hid (V=if(decide (0<i)&&aG T (l.getD (i-1) 0)==9)=true then true else((8204:Int)==8204&&gq T l F 1&&gq T l G 2)):=HV;clear HV;rcases Nat.eq_zero_or_pos i with hz|R
 case inl=>
  have W:decide (0<i)=false:=jD (by omega);have N:Hid (V=((8204:Int)==8204&&gq T l F 1&&gq T l G 2)):=ah (by rw[M.out,W];rfl);clear M hz;go_enter func194,ntmps194;go_wp2_with fail;refine(S.out).mono ?_;rintro e B⟨rfl,f⟩;have E:=ah f;have C:=ah (D.trans' f);clear f S;have rT:∀z:ak B,∀p:Nat,z.w.cell? ⟨w.heap.size,p,none⟩=t.v.cells[p]? :=λz=>aQ (E.out.trans' z.h)
  have rX:∀z:ak B,z.w.cell? ⟨b,o+i,none⟩=some (.int .i64 8204):=λz=>bI (bK (C.out.trans' z.h)) U
  go_wp2_with fail;refine rX' ?_
  repeat(go_big_quiet_step(fail))
  refine wpQuiet_nil ?_;rintro _⟨z,rfl⟩;have X:=ah z.h;have g:=ah (C.out.trans' z.h);have gy:∀y:ak z.w,∀p:Nat,y.w.cell? ⟨w.heap.size,p,none⟩=t.v.cells[p]? :=λy=>aQ (E.out.trans' (X.out.trans' y.h))
  have J:Hid (∀y:ak z.w,cE' 252 #[t.v,.slice (some ⟨b,o,none⟩) l.length c,.int .i64 i] y.w (.int .i64 F)):=ah (λy=>nX.out y.w (g.out.trans' y.h));have K:Hid (∀y:ak z.w,cE' 253 #[t.v,.slice (some ⟨b,o,none⟩) l.length c,.int .i64 i] y.w (.int .i64 G)):=ah (λy=>L.out y.w (g.out.trans' y.h));clear rT rX nX L;by_cases ca:F<0
  case pos=>
   have da:decide (F<0)=true:=iG ca;have s:Hid (V=false):=ah (by rw[N.out,gq,pP' ca];rfl);clear N;go_wp2_with fail;refine rX' ?_
   repeat(go_big_quiet_step(first|(go_at_call 252;with_reducible exact aS (J.out _))|(go_at_call 253;with_reducible exact aS (K.out _))))
   refine wpQuiet_nil ?_;rintro _⟨y,rfl⟩;have r:=ah (g.out.trans' y.h);have O:=ah (E.out.trans' (X.out.trans' y.h));have gX:y.w.cell? ⟨b,o+i,none⟩=some (.int .i64 8204):=bI (bK r.out) U;clear gy;go_wp2;go_ret;exact⟨aP s.out.symm,r.out⟩
  have da:decide (F<0)=false:=jD ca;by_cases cb:G<0
  case pos=>
   have db:decide (G<0)=true:=iG cb;have s:Hid (V=false):=ah (by rw[N.out,RJ cb];simp);clear N;go_wp2_with fail;refine rX' ?_
   repeat(go_big_quiet_step(first|(go_at_call 252;with_reducible exact aS (J.out _))|(go_at_call 253;with_reducible exact aS (K.out _))))
   refine wpQuiet_nil ?_;rintro _⟨y,rfl⟩;have r:=ah (g.out.trans' y.h);have O:=ah (E.out.trans' (X.out.trans' y.h));have gX:y.w.cell? ⟨b,o+i,none⟩=some (.int .i64 8204):=bI (bK r.out) U;clear gy;go_wp2;go_ret;exact⟨aP s.out.symm,r.out⟩
  have db:decide (G<0)=false:=jD cb;obtain⟨na,rfl⟩:=iN' F;obtain⟨nb,rfl⟩:=iN' G;obtain⟨u,hu,ab⟩:=H.out na (by omega);obtain⟨v,hv,ac⟩:=H.out nb (by omega);obtain⟨ju,a1⟩:=eY' (kU T u);obtain⟨jv,a2⟩:=eY' (kU T v)
  have s:Hid (V=((ju==1||ju==3)&&(jv==2||jv==3))):=ah (by
   rw[N.out,gq,nN' ca,gq,nN' cb,Int.toNat_natCast,Int.toNat_natCast,hu,hv,a1,a2];rfl)
  have aw:Hid (∀w',Ext w w'->cE' 254 #[t.v,.int .i64 u] w' (.int .i64 ju)):=ah (λw' m=>by have I:=Ei t T u w' (HT.out.aC m);rw[a1]at I;exact I);have ax:Hid (∀w',Ext w w'->cE' 254 #[t.v,.int .i64 v] w' (.int .i64 jv)):=ah (λw' m=>by have I:=Ei t T v w' (HT.out.aC m);rw[a2]at I;exact I);have bt:(na:Int)<(l.length:Int):=P.1;have bu:(nb:Int)<(l.length:Int):=Q.1;have bv:=z0' na;have bw:=z0' nb;clear N hu hv a1 a2 H P Q ca cb;go_wp2_with fail;refine rX' ?_
  repeat(go_big_quiet_step(first|(go_at_call 252;with_reducible exact aS (J.out _))|(go_at_call 253;with_reducible exact aS (K.out _))))
  refine wpQuiet_nil ?_;rintro _⟨y,rfl⟩;have r:=ah (g.out.trans' y.h);have O:=ah (E.out.trans' (X.out.trans' y.h));have gX:y.w.cell? ⟨b,o+i,none⟩=some (.int .i64 8204):=bI (bK r.out) U;clear gy;go_wp2_with fail;have iH:∀q:ak y.w,∀p:Nat,q.w.cell? ⟨w.heap.size,p,none⟩=t.v.cells[p]? :=λq=>aQ (O.out.trans' q.h)
  have ay:∀q:ak y.w,q.w.cell? ⟨b,o+na,none⟩=some (.int .i64 u):=λq=>bI (bK (r.out.trans' q.h)) ab
  have az:∀q:ak y.w,q.w.cell? ⟨b,o+nb,none⟩=some (.int .i64 v):=λq=>bI (bK (r.out.trans' q.h)) ac
  have NM:Hid (∀q:ak y.w,cE' 254 #[t.v,.int .i64 u] q.w (.int .i64 ju)):=ah (λq=>aw.out q.w (r.out.trans' q.h));have NP:Hid (∀q:ak y.w,cE' 254 #[t.v,.int .i64 v] q.w (.int .i64 jv)):=ah (λq=>ax.out q.w (r.out.trans' q.h));clear gX ab ac;refine rX' ?_
  repeat(go_big_quiet_step(first|(go_at_call 254;with_reducible exact aS (NM.out _))|(go_at_call 254;with_reducible exact aS (NP.out _))))
  refine wpQuiet_nil ?_;rintro _⟨q,rfl⟩;clear iH ay az;obtain⟨b1,k1⟩:=eY' (ju==1);obtain⟨b2,k2⟩:=eY' (ju==3);obtain⟨b3,k3⟩:=eY' (jv==2);obtain⟨b4,k4⟩:=eY' (jv==3);have aD:Hid (V=((b1||b2)&&(b3||b4))):=ah (by rw[s.out,k1,k2,k3,k4]);clear s;cases b1<;>cases b2<;>cases b3<;>cases b4
  all_goals
   go_wp2;go_ret;exact⟨aP aD.out.symm,r.out.trans' q.h⟩
 obtain⟨j,hj⟩:∃j,i=j+1:=⟨i-1,by omega⟩;obtain⟨Y,hy,a8⟩:=H.out j (by omega);have W:decide (0<i)=true:=iG R;have b8:(i:Int)-1=(j:Int):=by omega
 have Vw:=z0' j;have b9:(j:Int)<(l.length:Int):=by omega
 obtain⟨cy,Z⟩:=eY' (aG T Y);obtain⟨v9,ar⟩:=eY' (cy==9);have iy:Hid (V=if v9=true then true else((8204:Int)==8204&&gq T l F 1&&gq T l G 2)):=ah (by rw[M.out,W,show i-1=j from by omega,hy,Z,ar];rfl);have HC:Hid (∀w',Ext w w'->cE' 118 #[t.v,.int .i64 Y] w' (.int .i64 cy)):=ah (λw' m=>by have I:=zW t T Y w' (HT.out.aC m);rw[Z]at I;exact I);clear M R hj hy Z;cases v9
 case true=>
  have s:Hid (V=true):=ah (by rw[iy.out];rfl);clear iy H;go_enter func194,ntmps194;go_wp2_with fail;refine(S.out).mono ?_;rintro e B⟨rfl,f⟩;have E:=ah f;have C:=ah (D.trans' f);clear f S;have rT:∀z:ak B,∀p:Nat,z.w.cell? ⟨w.heap.size,p,none⟩=t.v.cells[p]? :=λz=>aQ (E.out.trans' z.h)
  have rX:∀z:ak B,z.w.cell? ⟨b,o+i,none⟩=some (.int .i64 8204):=λz=>bI (bK (C.out.trans' z.h)) U
  have rY:∀z:ak B,z.w.cell? ⟨b,o+j,none⟩=some (.int .i64 Y):=λz=>bI (bK (C.out.trans' z.h)) a8
  have a0:Hid (∀z:ak B,cE' 118 #[t.v,.int .i64 Y] z.w (.int .i64 cy)):=ah (λz=>HC.out z.w (C.out.trans' z.h));go_wp2_with fail;refine rX' ?_
  repeat(go_big_quiet_step(first|(go_at_call 118;with_reducible exact aS (a0.out _))))
  refine wpQuiet_nil ?_;rintro _⟨z,rfl⟩;clear rT rX rY;go_wp2;go_ret;exact⟨aP s.out.symm,C.out.trans' z.h⟩
 have N:Hid (V=((8204:Int)==8204&&gq T l F 1&&gq T l G 2)):=ah (by rw[iy.out];rfl);clear iy;go_enter func194,ntmps194;go_wp2_with fail;refine(S.out).mono ?_;rintro e B⟨rfl,f⟩;have E:=ah f;have C:=ah (D.trans' f);clear f S;have rT:∀z:ak B,∀p:Nat,z.w.cell? ⟨w.heap.size,p,none⟩=t.v.cells[p]? :=λz=>aQ (E.out.trans' z.h)
 have rX:∀z:ak B,z.w.cell? ⟨b,o+i,none⟩=some (.int .i64 8204):=λz=>bI (bK (C.out.trans' z.h)) U
 have rY:∀z:ak B,z.w.cell? ⟨b,o+j,none⟩=some (.int .i64 Y):=λz=>bI (bK (C.out.trans' z.h)) a8
 have a0:Hid (∀z:ak B,cE' 118 #[t.v,.int .i64 Y] z.w (.int .i64 cy)):=ah (λz=>HC.out z.w (C.out.trans' z.h));go_wp2_with fail;refine rX' ?_
 repeat(go_big_quiet_step(first|(go_at_call 118;with_reducible exact aS (a0.out _))))
 refine wpQuiet_nil ?_;rintro _⟨z,rfl⟩;clear rY;have X:=ah z.h;have g:=ah (C.out.trans' z.h);have gy:∀y:ak z.w,∀p:Nat,y.w.cell? ⟨w.heap.size,p,none⟩=t.v.cells[p]? :=λy=>aQ (E.out.trans' (X.out.trans' y.h))
 have J:Hid (∀y:ak z.w,cE' 252 #[t.v,.slice (some ⟨b,o,none⟩) l.length c,.int .i64 i] y.w (.int .i64 F)):=ah (λy=>nX.out y.w (g.out.trans' y.h));have K:Hid (∀y:ak z.w,cE' 253 #[t.v,.slice (some ⟨b,o,none⟩) l.length c,.int .i64 i] y.w (.int .i64 G)):=ah (λy=>L.out y.w (g.out.trans' y.h));clear rT rX nX L;by_cases ca:F<0
 case pos=>
  have da:decide (F<0)=true:=iG ca;have s:Hid (V=false):=ah (by rw[N.out,gq,pP' ca];rfl);clear N;go_wp2_with fail;refine rX' ?_
  repeat(go_big_quiet_step(first|(go_at_call 252;with_reducible exact aS (J.out _))|(go_at_call 253;with_reducible exact aS (K.out _))))
  refine wpQuiet_nil ?_;rintro _⟨y,rfl⟩;have r:=ah (g.out.trans' y.h);have O:=ah (E.out.trans' (X.out.trans' y.h));have gX:y.w.cell? ⟨b,o+i,none⟩=some (.int .i64 8204):=bI (bK r.out) U;clear gy;go_wp2;go_ret;exact⟨aP s.out.symm,r.out⟩
 have da:decide (F<0)=false:=jD ca;by_cases cb:G<0
 case pos=>
  have db:decide (G<0)=true:=iG cb;have s:Hid (V=false):=ah (by rw[N.out,RJ cb];simp);clear N;go_wp2_with fail;refine rX' ?_
  repeat(go_big_quiet_step(first|(go_at_call 252;with_reducible exact aS (J.out _))|(go_at_call 253;with_reducible exact aS (K.out _))))
  refine wpQuiet_nil ?_;rintro _⟨y,rfl⟩;have r:=ah (g.out.trans' y.h);have O:=ah (E.out.trans' (X.out.trans' y.h));have gX:y.w.cell? ⟨b,o+i,none⟩=some (.int .i64 8204):=bI (bK r.out) U;clear gy;go_wp2;go_ret;exact⟨aP s.out.symm,r.out⟩
 have db:decide (G<0)=false:=jD cb;obtain⟨na,rfl⟩:=iN' F;obtain⟨nb,rfl⟩:=iN' G;obtain⟨u,hu,ab⟩:=H.out na (by omega);obtain⟨v,hv,ac⟩:=H.out nb (by omega);obtain⟨ju,a1⟩:=eY' (kU T u);obtain⟨jv,a2⟩:=eY' (kU T v)
 have s:Hid (V=((ju==1||ju==3)&&(jv==2||jv==3))):=ah (by
  rw[N.out,gq,nN' ca,gq,nN' cb,Int.toNat_natCast,Int.toNat_natCast,hu,hv,a1,a2];rfl)
 have aw:Hid (∀w',Ext w w'->cE' 254 #[t.v,.int .i64 u] w' (.int .i64 ju)):=ah (λw' m=>by have I:=Ei t T u w' (HT.out.aC m);rw[a1]at I;exact I);have ax:Hid (∀w',Ext w w'->cE' 254 #[t.v,.int .i64 v] w' (.int .i64 jv)):=ah (λw' m=>by have I:=Ei t T v w' (HT.out.aC m);rw[a2]at I;exact I);have bt:(na:Int)<(l.length:Int):=P.1;have bu:(nb:Int)<(l.length:Int):=Q.1;have bv:=z0' na;have bw:=z0' nb;clear N hu hv a1 a2 H P Q ca cb;go_wp2_with fail;refine rX' ?_
 repeat(go_big_quiet_step(first|(go_at_call 252;with_reducible exact aS (J.out _))|(go_at_call 253;with_reducible exact aS (K.out _))))
 refine wpQuiet_nil ?_;rintro _⟨y,rfl⟩;have r:=ah (g.out.trans' y.h);have O:=ah (E.out.trans' (X.out.trans' y.h));have gX:y.w.cell? ⟨b,o+i,none⟩=some (.int .i64 8204):=bI (bK r.out) U;clear gy;go_wp2_with fail;have iH:∀q:ak y.w,∀p:Nat,q.w.cell? ⟨w.heap.size,p,none⟩=t.v.cells[p]? :=λq=>aQ (O.out.trans' q.h)
 have ay:∀q:ak y.w,q.w.cell? ⟨b,o+na,none⟩=some (.int .i64 u):=λq=>bI (bK (r.out.trans' q.h)) ab
 have az:∀q:ak y.w,q.w.cell? ⟨b,o+nb,none⟩=some (.int .i64 v):=λq=>bI (bK (r.out.trans' q.h)) ac
 have NM:Hid (∀q:ak y.w,cE' 254 #[t.v,.int .i64 u] q.w (.int .i64 ju)):=ah (λq=>aw.out q.w (r.out.trans' q.h));have NP:Hid (∀q:ak y.w,cE' 254 #[t.v,.int .i64 v] q.w (.int .i64 jv)):=ah (λq=>ax.out q.w (r.out.trans' q.h));clear gX ab ac;refine rX' ?_
 repeat(go_big_quiet_step(first|(go_at_call 254;with_reducible exact aS (NM.out _))|(go_at_call 254;with_reducible exact aS (NP.out _))))
 refine wpQuiet_nil ?_;rintro _⟨q,rfl⟩;clear iH ay az;obtain⟨b1,k1⟩:=eY' (ju==1);obtain⟨b2,k2⟩:=eY' (ju==3);obtain⟨b3,k3⟩:=eY' (jv==2);obtain⟨b4,k4⟩:=eY' (jv==3);have aD:Hid (V=((b1||b2)&&(b3||b4))):=ah (by rw[s.out,k1,k2,k3,k4]);clear s;cases b1<;>cases b2<;>cases b3<;>cases b4
 all_goals
  go_wp2;go_ret;exact⟨aP aD.out.symm,r.out.trans' q.h⟩
theorem XB'(ht:aW w t T)(h:aF w ⟨A,n,c⟩ l):
 cE' 125 #[t.v,.slice A n c] w (.tuple #[.int .i64 (fU T l).1,.int .i64 (fU T l).2]):=by
 obtain⟨E,_,_⟩:=h.len;subst E;have s:=ah ht;have x:=ah h;have b:=dG w t;go_enter func125,ntmps125;go_wp2_with fail;refine(uJ t T l A _ c _ (s.out.aC b) (x.out.ext b)).mono ?_;rintro e J⟨rfl,p⟩;have F:=b.trans' p;by_cases f:aX T l=0
 .have y:Hid (∀k,k<l.length->wU T l (k:Int)=ny T l k):=ah (λk D=>by rw[wU,Ep f D];rfl);have z:Hid (fU T l=yu T l (l.length-0) 0):=ah (by simp[fU,f]);rw[f];clear f;go_wp2;go_loopw[16] (λj wr=>∃(k:Nat),k<=l.length/\j=.int .i64 k/\Hid (fU T l=yu T l (l.length-k) k)/\Ext (tW' w t) wr) (λj _=>l.length-(intOf j).toNat);exact⟨0,zl' _,rfl,z,p⟩;obtain⟨k,D,rfl,q,g⟩:=hrel;have a:=b.trans' g;have K:=bT' t g;by_cases B:k<l.length
  .have r:=aJ q (show _=if ny T l k=true then yu T l (l.length-(k+1)) (k+1)else((k:Int),(17:Int))from by
    rw[show l.length-k=(l.length-(k+1))+1 from by omega];rfl)
   have d:=y.out k B;clear q z;cases o:ny T l k
   .have i:=aJ r (show _=((k:Int),(17:Int))from by rw[o];simp);have C:=ah (d.trans o);clear r o d;go_wp2_with(go_at_call 194;refine(Qp t T l A _ c k _ (s.out.aC a) (x.out.ext a)).mono ?_;rintro e G⟨rfl,m⟩;rw[C.out]);go_ret2;exact⟨by rw[i.out];rfl,a.trans' m⟩
   .have i:=aJ r (show _=yu T l (l.length-(k+1)) (k+1)from by rw[o];simp);have C:=ah (d.trans o);clear r o d;go_wp2_with(go_at_call 194;refine(Qp t T l A _ c k _ (s.out.aC a) (x.out.ext a)).mono ?_;rintro e G⟨rfl,m⟩;rw[C.out]);go_roundw;exact⟨k+1,by omega,by go_num,i,g.trans' m⟩;simp[intOf];omega
  .have i:=aJ q (show _=((0:Int),(0:Int))from by rw[show l.length-k=0 from by omega];rfl);clear q z;go_wp2;go_ret2;exact⟨by rw[i.out];rfl,a⟩
 .have H:(aX T l==0)=false:=by rw[aO];exact f
  have I:(aX T l != 0)=true:=bN' f;have i:Hid (fU T l=(0,aX T l)):=ah (by simp[fU,f]);generalize aX T l=oe at*;clear f;go_wp2;go_ret2;exact⟨by rw[i.out];rfl,F⟩
end Go.Proofs.YtlmkgaoakcjlnaaGreatDoor
