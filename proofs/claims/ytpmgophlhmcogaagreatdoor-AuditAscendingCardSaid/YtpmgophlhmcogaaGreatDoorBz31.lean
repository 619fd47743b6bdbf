/- Part Bz31. -/
import Derived.Laws.ResultCell
import Derived.Test.YtpmgophlhmcogaaGreatDoorBz28
import Derived.Test.YtpmgophlhmcogaaGreatDoorBz30
open Go.Proofs.Tryz
namespace Go.Proofs.YtpmgophlhmcogaaGreatDoor
set_option maxHeartbeats 25600000
set_option maxRecDepth 100000
open Go.RowKit
theorem J7{w:World}{a n c:Nat}{A:Option Addr}{l:List Int}(f:aB w a A n c l){i:Option Addr}{m k:Nat}{g:List Int}(p:au w ⟨i,m,k⟩ g)(z:n+m<=17592186044416)(b:a<=w.heap.size):
 ∃A' c' w',(∀ty,(Builtin.append_ #[22,22] ty #[.slice A n c,.slice i m k]).run prog w=.ok (.slice A' (n+m) c') w')/\aB w' a A' (n+m) c' (l++g)/\w.grownBy w' (aK A)/\(aK A'=aK A\/aK A'=some w.heap.size):=by
 have q:=p.len.1;obtain⟨A',c',w',r,s,t,y⟩:=wH underlying22 infoInt rfl (by omega) f i m k (g.map (Value.int .i64)) (by simp[q])
  (λj u d=>by
   rw[List.getElem?_map]at d;cases h:g[j]? with
   |none=>rw[h]at d;cases d
   |some x=>
    rw[h]at d;simp only[Option.map_some,Option.some.injEq]at d;subst d
    exact p.2 j x h)
  (by intro u o;rw[List.mem_map]at o;obtain⟨x,_,rfl⟩:=o;rfl) (by simp only[maxLen];omega) (by omega) b
 exact⟨A',c',w',r,by rw[aB,List.map_append];exact s,t,y⟩
theorem CX(x:List Int):∀(l:List (List Int))(i:Int),dD x i l= -1\/i<=dD x i l/\dD x i l<i+l.length
 |[],_=>.inl rfl
 |y::r,i=>by
  unfold dD;split
  .exact .inr ⟨Int.le_refl _,by simp only[List.length_cons];omega⟩
  .rcases CX x r (i+1)with h|h
   .exact .inl h
   .exact .inr ⟨by omega,by simp only[List.length_cons];omega⟩
theorem IC{x:List Int}{L:List (List Int)}{k:Nat}(a:k<L.length):dD x k (L.drop k)=if L[k]=x then(k:Int)else dD x ((k+1:Nat):Int) (L.drop (k+1)):=by
 rw[drop_at L k a];rfl
theorem index_spec(x:List Int)(L:List (List Int))(A:Option Addr)(n c:Nat)(w:World)(h:fP w ⟨A,n,c⟩ L)(g:IsB x)(p:∀y∈L,IsB y)(H:L.length<=8796093021952):
 cE' 24 #[.slice A n c,.string (sB x)] w (.int .i64 (dD x 0 L)):=by
 have q:n=L.length:=h.1.1;subst q;have r:=ah h;have s:=ah p;clear h p;go_enter func24,ntmps24;go_wp2;go_loopg[8] L.length (λt z B=>∃k:Nat,k+t=L.length/\z=.int .i64 k/\Hid (dD x k (L.drop k)=dD x 0 L)/\Hid (Ext w B));exact⟨0,by omega,rfl,ah rfl,ah eR'⟩;obtain⟨k,G,rfl,d,j⟩:=hrel;by_cases a:k<L.length
 .obtain⟨m,rfl⟩:=gS' gk;obtain⟨b,o,rfl,D⟩:=(r.out.ext j.out).at_ a;have l:=ah (IC (x:=x) a);have f:=uq g (s.out _ (gM' a));generalize L[k]=y at*;have E:=z0' k;have F:(k:Int)<(L.length:Int):=by omega
  by_cases e:y=x
  .rw[dt' e.symm]at f;have i:=ah (d.out.symm.trans (l.out.trans (pP' e)));have g:=j.out;clear e l d;go_wp2;go_ret;exact⟨by rw[i.out];rfl,g⟩
  .rw[df' (λh=>e h.symm)]at f;have i:=ah ((l.out.trans (nN' e)).symm.trans d.out);clear e l d;go_wp2;go_roundg m;exact⟨k+1,by omega,by go_num,i,j⟩;omega
 .have i:Hid (dD x 0 L= -1):=ah (by rw[<- d.out,List.drop_of_length_le (by omega)];rfl);have g:=j.out;go_wp2;go_ret;exact⟨by rw[i.out];rfl,g⟩
theorem sO(n a c:Int)(w:World):cW' 25 #[.int .i64 n,.int .i64 a,.int .i64 c] w (.bool (decide (a<=n)&&decide (n<=c))):=by
 obtain⟨d,g⟩:=eY' (decide (a<=n));obtain⟨f,h⟩:=eY' (decide (n<=c));have i:Hid ((decide (a<=n)&&decide (n<=c))=(d&&f)):=ah (by rw[g,h]);cases d<;>cases f
 all_goals
  go_enter func25,ntmps25;go_wp2;go_ret;exact⟨aJ i.out.symm,rfl⟩
def WtL(f:Int->Int)(w:World)(g N:Nat)(gh:Nat)(s24:Value)(wx:World):Prop:=
 ∃(k:Nat)(M:List Int),k+gh=N/\s24=.int .i64 k/\M.length=N/\Hid (aB wx w.heap.size (some ⟨g,0,none⟩) N N M)/\Hid (M.take k=(List.range k).map λi:Nat=>f i)/\Hid (Ext w wx)
theorem SB{f:Int->Int}{M:List Int}{k:Nat}(a:k<M.length)(h:M.take k=(List.range k).map λi:Nat=>f i):(M.set k (f k)).take (k+1)=(List.range (k+1)).map λi:Nat=>f i:=by
 rw[tS' (by simpa using a),List.take_set_of_le (lr' _),h,List.range_succ];simp
theorem zK{f:Int->Int}{M:List Int}{k:Nat}{y:Int}(a:k<M.length)(h:M.take k=(List.range k).map λi:Nat=>f i)(b:f k=y):Hid ((M.set k y).take (k+1)=(List.range (k+1)).map λi:Nat=>f i):=ah (by rw[<- b];exact SB a h)
theorem SE(b:List (List Int))(d:List Int)(a:List (List Int)){k:Nat}(h:k<a.length):nxF b d a k=if a[k]≠[]/\0<=dD a[k] 0 b/\0<=d.getD (dD a[k] 0 b).toNat 0/\d.getD (dD a[k] 0 b).toNat 0<a.length then d.getD (dD a[k] 0 b).toNat 0 else -1:=by
 have e:a.getD (k:Int).toNat []=a[k]:=by simp[List.getD_eq_getElem?_getD,h]
 have j:=CX a[k] b 0;unfold nxF wtF;rw[e];generalize a[k]=X at*;generalize dD X 0 b=I at*;generalize d.getD I.toNat 0=O at*;have i:(if 0<=(k:Int)/\(k:Int)<a.length/\X≠[]/\I≠ -1 then O else -1)=if X≠[]/\0<=I then O else -1:=by
  by_cases c:X=[]
  .rw[nN' (λh=>h.2.2.1 c),nN' (λh=>h.1 c)]
  .by_cases g:0<=I
   .rw[pP' ⟨by omega,by omega,c,by omega⟩,pP' ⟨c,g⟩]
   .rw[nN' (λh=>h.2.2.2 (by omega)),nN' (λh=>g h.2)]
 rw[i];by_cases c:X≠[]/\0<=I
 .rw[pP' c];by_cases f:0<=O/\O<(a.length:Int)
  .rw[pP' f,pP' ⟨c.1,c.2,f⟩]
  .rw[nN' f,nN' (λh=>f h.2.2)]
 .rw[nN' c,nN' (by omega),nN' (λh=>c ⟨h.1,h.2.1⟩)]
def CiL(f:Int->Int)(wb:World)(n:Nat)(first:Int)(R:Option (List Int))(gh:Nat)(s12 s13:Value)(wx:World):Prop:=
 ∃(kk:Int)(cl:List Int)(B:Option Addr)(d:Nat),s13=.int .i64 kk/\s12=.slice B cl.length d/\gh+cl.length=n+2/\kk<n/\ -1<=kk/\Hid (aB wx wb.heap.size B cl.length d cl)/\Hid (jg f n first gh kk cl=R)/\Hid (Ext wb wx)
theorem zJ(l:List (List Int))(p:List Int)(a:List (List Int))(A:Option Addr)(n c:Nat)(A2:Option Addr)(n2 c2:Nat)(A3:Option Addr)(n3 c3:Nat)(w:World)
 (h1:fP w ⟨A,n,c⟩ l) (h2:au w ⟨A2,n2,c2⟩ p) (h3:fP w ⟨A3,n3,c3⟩ a) (hl:∀y∈l,IsB y) (R:∀y∈a,IsB y) (hm:l.length<=8796093021952) (bH:a.length<=8796093021952):
 Calls prog 11 #[.slice A n c,.slice A2 n2 c2,.slice A3 n3 c3] w λe w'=>∃B k d,e=.returned (.slice B k d)/\au w' ⟨B,k,d⟩ (lC l p a)/\Ext w w':=by
 have e1:n=l.length:=h1.1.1;have e2:n2=p.length:=h2.1.1;have e3:n3=a.length:=h3.1.1;subst e1 e2 e3;have Q:Hid (lC l p a=if l.length≠p.length then[]else lu (nxF l p a) a.length a.length 0):=rfl;by_cases s:l.length=p.length
 case neg=>
  have q1:(l.length != p.length)=true:=by rw[bne_iff_ne];exact s
  have q2:((l.length:Int) != (p.length:Int))=true:=by rw[bne_iff_ne];omega
  have HF:=ah (Q.out.trans (pP' s));clear s Q;go_enter func11,ntmps11;go_wp2;go_ret;exact⟨none,0,0,rfl,by rw[HF.out];exact au.nil_ _,eR'⟩
 have q1:(l.length != p.length)=false:=by rw[bne_eq_false_iff_eq];exact s
 have q2:((l.length:Int) != (p.length:Int))=false:=by rw[bne_eq_false_iff_eq];omega
 have HF:=ah (Q.out.trans (nN' (λh=>h s)));have aL:=ah s;have H1:=ah h1;have H2:=ah h2;have H3:=ah h3;have aM:=ah hl;have aR:=ah R;generalize hf:nxF l p a=f at*;have a9:Hid (∀k:Nat,k<a.length->f k=if a.getD k []≠[]/\0<=dD (a.getD k []) 0 l/\0<=p.getD (dD (a.getD k []) 0 l).toNat 0/\p.getD (dD (a.getD k []) 0 l).toNat 0<a.length then p.getD (dD (a.getD k []) 0 l).toNat 0 else -1):=ah λk G=>by
  have e:a.getD k []=a[k]:=by simp[List.getD_eq_getElem?_getD,G]
  rw[e,<- hf,SE l p a G]
 have II:∀k,-1<=f k/\f k<a.length:=λk=>by rw[<- hf];unfold nxF;split<;>omega
 have b0:=ah II;generalize hN:a.length=N at*;have b1:=ah hN;have br:=z0' N;clear s Q h1 h2 h3 hl R hf II hN;obtain⟨kR,b2,b3,b4,b5⟩:=info_parts infoInt;go_enter func11,ntmps11;go_wp2_with(refine wpList_make_full _ rfl _ _ 22 rfl w.heap.size 3 kR _ 1 underlying22 b2 b3 b4 .i64 .i64 N N N rfl rfl rfl rfl (by rw[b5];omega) (by simp only[maxLen];omega) (lr' _) ?_;intro w1 D GN);have IJ:aB w1 w.heap.size (some ⟨w.heap.size,0,none⟩) N N (List.replicate N 0):=by
  have e:(madeCells (Value.int .i64 0).cells (N*1)).toList=(List.replicate N (0:Int)).map (Value.int .i64):=by
   rw[Nat.mul_one,List.map_replicate];simp only[madeCells,Value.cells];refine List.ext_getElem (by simp) λi h1 h2=>?_
   simp[Nat.mod_one]
  have h:=D;rw[e]at h;exact h
 have aa:=ah IJ;have gU:Hid (Ext w w1):=ah (dP eR' GN (by intro k G;cases G));generalize hg:w.heap.size=g at*;have S:=ah hg;clear D GN IJ hg;go_loopg[24] N (λgh b6 wx=>WtL f w g N gh b6 wx);exact⟨0,List.replicate N 0,by omega,rfl,List.length_replicate,by rw[S.out];exact aa,ah rfl,gU⟩;obtain⟨k,M,bs,rfl,H,HO,HM,T⟩:=hrel;rw[S.out]at HO;by_cases G:k<N
 .obtain⟨J,rfl⟩:=gS' gk;have X:k<a.length:=by rw[b1.out];exact G
  obtain⟨b,o,rfl,b7⟩:=(H3.out.ext T.out).at_ X;have b8:=ah (aR.out _ (gM' X));have z:=ah (a9.out k G);rw[List.getD_eq_getElem?_getD,List.getElem?_eq_getElem X,Option.getD_some]at z;generalize a[k]=x at*;have r0:=HO.out.cell k (M[k]'(by omega)) (List.getElem?_eq_getElem (by omega));have f0:=HO.out.frozen k;have bt:=z0' k;have b9:(k:Int)<(N:Int):=by omega
  go_wp2_with fail;obtain⟨W2,K⟩:=eX' (wr.setCell ⟨g,k,none⟩ (.int .i64 (-1)));have ba:Hid (aB W2 g (some ⟨g,0,none⟩) N N (M.set k (-1))):=ah (by rw[K];exact HO.out.set k (-1));have ae:Hid (Ext w W2):=ah (by rw[K];exact T.out.lG (Nat.le_of_eq S.out) _);rw[<- K];clear K r0 f0 b7;refine(index_spec x l A _ c W2 (H1.out.ext ae.out) b8.out aM.out (by omega)).mono ?_;rintro e w3⟨rfl,Y⟩;have aU:=ah (Own.ext ba.out Y);have fO:=ah (ae.out.trans' Y);have bb:=ah (CX x l 0);generalize dD x 0 l=I at*;clear Y;by_cases r:x=[]
  .have q0:((sB x).toList.isEmpty)=true:=by rw[pU,r];rfl
   have m:=ah (z.out.trans (nN' (λh=>h.1 r)));clear r;go_wp2;go_roundg J;exact⟨k+1,M.set k (-1),by omega,by go_num,by simp[H],by rw[S.out];exact aU,zK (by omega) HM.out m.out,fO⟩;omega
  .have q0:((sB x).toList.isEmpty)=false:=by rw[pU];cases x with|nil=>exact absurd rfl r|cons _ _=>rfl
   by_cases hi:0<=I
   .obtain⟨j,rfl⟩:=iN' I;have hj:j<p.length:=(by have:=bb.out;have:=aL.out;omega);obtain⟨b',o',rfl,bu⟩:=(H2.out.ext fO.out).at_ hj;have e0:p.getD (j:Int).toNat 0=p[j]:=(by simp[List.getD_eq_getElem?_getD,hj]);rw[e0]at z;generalize p[j]=ow at*;have d0:decide ((0:Int)<=(j:Int))=true:=dt' hi;have bv:(j:Int)<(p.length:Int):=(by omega);have bw:(N:Int)<=8796093021952:=(by omega);clear e0;by_cases R:0<=ow/\ow<(N:Int)
    .have m:=ah (z.out.trans (pP' ⟨r,hi,R⟩));have HB:Hid ((decide ((0:Int)<=ow)&&decide (ow<=(N:Int)-1))=true):=ah (by rw[dt' R.1,dt' (by omega)];rfl);have r0:=aB.cell aU.out k (-1) (by rw[List.getElem?_set_self (by omega)]);have f0:=aB.frozen aU.out k;clear r R;go_wp2_with fail;refine(sO ow 0 ((N:Int)-1) w3).mono ?_;rintro e w4⟨rfl,rfl⟩;rw[HB.out];go_wp2;go_roundg J;exact⟨k+1,(M.set k (-1)).set k ow,by omega,by go_num,by simp[H],by rw[S.out];exact ah (aB.set aU.out k ow),zK (by simp;omega) (by rw[List.take_set_of_le (lr' _)];exact HM.out) m.out,ah (fO.out.lG (Nat.le_of_eq S.out) _)⟩;omega
    .have m:=ah (z.out.trans (nN' (λh=>R h.2.2)))
     have HB:Hid ((decide ((0:Int)<=ow)&&decide (ow<=(N:Int)-1))=false):=ah (by
      rw[aF',bf,bf];omega)
     clear r R;go_wp2_with fail;refine(sO ow 0 ((N:Int)-1) w3).mono ?_;rintro e w4⟨rfl,rfl⟩;rw[HB.out];go_wp2;go_roundg J;exact⟨k+1,M.set k (-1),by omega,by go_num,by simp[H],by rw[S.out];exact aU,zK (by omega) HM.out m.out,fO⟩;omega
   .have d0:decide ((0:Int)<=I)=false:=df' hi;have m:=ah (z.out.trans (nN' (λh=>hi h.2.1)));clear r;go_wp2;go_roundg J;exact⟨k+1,M.set k (-1),by omega,by go_num,by simp[H],by rw[S.out];exact aU,zK (by omega) HM.out m.out,fO⟩;omega
 .have bd:k=N:=by omega
  subst bd;have be:Hid (M=(List.range k).map λi:Nat=>f i):=ah (by rw[<- HM.out,tL' (by omega)]);obtain⟨Au,rfl⟩:=eX' wr;clear HM;have bg:=ah HO.out;have ai:=ah T.out;obtain⟨U,Z⟩:=eY' (lC l p a);have al:=ah Z;have bh:Hid (lu f k k 0=U):=ah (by rw[<- Z];exact HF.out.symm);clear Z;have bx:k<=8796093021952:=by omega
  clear HF HO T a9 aa gU;go_wp2;go_loopg[61] k (λgh bi wx=>∃i:Nat,i+gh=k/\bi=.int .i64 i/\Hid (lu f k gh i=U)/\Hid (Ext Au wx));exact⟨0,by omega,rfl,bh,ah eR'⟩;obtain⟨i,bz,rfl,Q,T⟩:=hrel;by_cases hi:i<k
  .obtain⟨g2,rfl⟩:=gS' gk;have a0:U=match jg f k i (k+2) i []with|some c=>c|none=>lu f k g2 (i+1):=by rw[<- Q.out];rfl
   generalize am:jg f k i (k+2) i []=RC at a0;have bj:=ah am;have L:=ah a0;have bA:=z0' i;have bB:(i:Int)<(k:Int):=(by omega);clear Q am a0;go_wp2_with fail;obtain⟨qN,rfl⟩:=eX' wr;go_loopg[12,13] (k+2) (λgh bk bl wx=>CiL f qN k i RC gh bk bl wx);exact⟨i,[],none,0,rfl,rfl,by simp,by omega,by omega,ah (Own.nil_ _ _ _ _),bj,ah eR'⟩;obtain⟨F,C,B,d,rfl,rfl,bD,b9,bE,a1,O,a2⟩:=hrel;by_cases V:0<=F/\C.length<=k
   .obtain⟨g3,rfl⟩:=gS' gk;have t:Hid (RC=if f F=i then some (C++[F])else jg f k i g3 (f F) (C++[F])):=ah (by rw[<- O.out,jg,pP' V]);obtain⟨q,rfl⟩:=iN' F;have d0:decide ((0:Int)<=(q:Int))=true:=dt' V.1;have d1:decide (C.length<=k)=true:=dt' V.2;have d2:decide ((C.length:Int)<=(k:Int))=true:=dT';have P:Ext wr (wr.alloc (.cells #[.int .i64 q] 3)):=eR'.aA _;obtain⟨B7,d7,w7,E,oh,kJ,_⟩:=J7 (Own.ext a1.out P) (iP wr q) (by omega) (a2.out.trans' P).b.size;have an:Hid (Ext qN w7):=ah (dP (a2.out.trans' P) kJ (λk G=>(Own.lt a1.out k G).1));have ao:=ah (T.out.trans' an.out);have ap:=ah oh;have aq:=b0.out q;have r7:=aB.cell (Own.ext bg.out ao.out) q (f q) (by rw[be.out,List.getElem?_map,List.getElem?_range (by omega)];rfl);have bF:=z0' q;have W:(C++[(q:Int)]).length=C.length+1:=(by simp);generalize f q=y at*;clear oh kJ P V O a1;by_cases he:y=i
    .have e1:(y==(i:Int))=true:=(by rw[bq'];exact he);have m:Hid (U=C++[(q:Int)]):=ah (by rw[L.out,t.out,pP' he]);have a3:=ai.out.trans' ao.out;clear he t L;go_wp2_with(at_builtin;refine bP rfl _ _ _ rfl _ _ rfl rfl _ _ E ?_);go_ret;exact⟨B7,_,d7,rfl,by rw[al.out,m.out];exact aB.ints ap.out,a3⟩
    .have e1:(y==(i:Int))=false:=(by rw[aP];exact he);have bm:Hid (jg f k i g3 y (C++[(q:Int)])=RC):=ah (by rw[t.out,nN' he]);clear he t;go_wp2_with(at_builtin;refine bP rfl _ _ _ rfl _ _ rfl rfl _ _ E ?_);go_roundg g3;exact⟨y,C++[(q:Int)],B7,d7,rfl,by rw[W],by omega,aq.2,aq.1,by rw[W];exact ap,bm,an⟩;omega
   .have t:Hid (RC=none):=ah (by
     rw[<- O.out];cases gk with
     |zero=>rfl
     |succ g=>rw[jg,nN' V])
    have bo:Hid (lu f k g2 (i+1)=U):=ah (by rw[L.out,t.out]);have bp:=ah (T.out.trans' a2.out);have bq:(decide ((0:Int)<=F)=false)\/(decide ((0:Int)<=F)=true/\decide (C.length<=k)=false/\decide ((C.length:Int)<=(k:Int))=false):=by
     by_cases h0:0<=F
     .exact .inr ⟨dt' h0,df' (λh=>V ⟨h0,h⟩),df' (λh=>V ⟨h0,by omega⟩)⟩
     .exact .inl (df' h0)
    clear V O L t;rcases bq with d0|⟨d0,d1,d2⟩
    all_goals
     go_wp2;go_roundg g2;exact⟨i+1,by omega,by go_num,bo,bp⟩;omega
  .have m:Hid (U=[]):=ah (by
    rw[<- Q.out];obtain rfl:gk=0:=by omega
    rfl)
   have a3:=ai.out.trans' T.out;go_wp2;go_ret;exact⟨none,0,0,rfl,by rw[al.out,m.out];exact au.nil_ _,a3⟩
def mG:Nm:=([],[],[])
abbrev nmV(p:Nm):Value:=.agg #[.string (sB p.1),.string (sB p.2.1),.string (sB p.2.2)]
abbrev qc:Array Value:= #[.string ⟨#[]⟩,.string ⟨#[]⟩,.string ⟨#[]⟩]
noncomputable def xJ(T:aj)(s l:List Int):Nm×Int:=if 4<rV T l then(mG,20)else if(jX T l).2≠0 then(mG,(jX T l).2)else if(jX T l).1.length=0 then(mG,10)else(((dA T s).1,(uniD T s).1,(jX T l).1),0)
noncomputable def kP(T:aj)(s:List Int):Nm×Int:=if(dA T s).2.2≠0 then(mG,(dA T s).2.2)else if(bT T s).1.length≠1 then(mG,21)else xJ T s ((bT T s).1.getD 0 [])
def IB(w:World)(d:Nm×Int)(e:Ending)(w':World):Prop:=e=.returned (.tuple #[nmV d.1,.int .i64 d.2])/\Ext w w'
theorem sN{w w':World}{A:Obj}{cs:Array Value}{ty:TypeId}(h:Ext ((w.alloc A).alloc (.cells cs ty)) w'):w'.heap[w.heap.size+1]? =some (.cells cs ty (0,0)):=
 (h.b.block _ (by simp)).trans (heap_alloc2_new w _ _)
theorem vV{w w':World}{g:Nat}(h:Ext w w')(c:w.heap.size<=g)(cs:Array Value):Ext w (w'.setRow g cs):=
 dP (row:=some g) h ⟨rfl,rfl,rfl,by simp[World.setRow],λk a b=>setRow_other _ _ _ _ λe=>b (by rw[e])⟩ (λk a=>by injection a with a;omega)
theorem results_cell_row_tmp{b:Func}{p u:Tmp}{ty:TypeId}(h:b.results= #[.cell p ty,.tmp u])(a:Array Value)(w:World)(g:Nat)(t:TypeId)(cs:Array Value)(c:Nat×Nat){fs}
 (d:a.getD p undef=.pointer (some ⟨g,0,none⟩)) (f:w.heap[g]? =some (.cells cs t c))
 (i:prog.underlying ty=some (.struct fs)) (j:(prog.info? ty).map (·.size)=some cs.size):
 (results b a).run prog w=.ok (.tuple #[.agg cs,a.getD u undef]) w:=by
 rw[results_cell_tmp h,d];simp[asAddr,Result.andThen,run_loadVar_row w g t ty cs c (.struct fs) f i rfl j]
theorem sK(a b c:ByteArray):(#[.string a,.string b,.string c]:Array Value).all (·.oneCell')=true:=by simp[Value.oneCell']
theorem Sr(T:aj)(t:TV)(s:List Int)(w:World)(ht:aN w t T)(hs:IsB s):Calls prog 44 #[t.v,.string (sB s)] w (IB w (kP T s)):=by
 obtain⟨I,y⟩:=eX' ((w.alloc (.cells #[.slice t.s0.a t.s0.n t.s0.c,.slice t.s1.a t.s1.n t.s1.c,.slice t.s2.a t.s2.n t.s2.c,.slice t.s3.a t.s3.n t.s3.c,.slice t.s4.a t.s4.n t.s4.c,.slice t.s5.a t.s5.n t.s5.c,.slice t.s6.a t.s6.n t.s6.c,.slice t.s7.a t.s7.n t.s7.c,.slice t.s8.a t.s8.n t.s8.c,.slice t.s9.a t.s9.n t.s9.c,.slice t.s10.a t.s10.n t.s10.c,.slice t.s11.a t.s11.n t.s11.c] 36)).alloc (.cells qc 79));have K:Ext w I:=by rw[y];exact(eR'.aA _).aA _
 have j:=ah K;have HT:=ah (ht.ay K);have M:Hid (∀f,Ext I f->∀k:Nat,f.cell? ⟨w.heap.size,k,none⟩=t.v.cells[k]?):=ah (λf h=>aO ((eR'.aA _).trans' (by rw[y]at h;exact h)));have g:Hid (∀f,Ext I f->f.heap[w.heap.size+1]? =some (.cells qc 79 (0,0))):=ah (λf h=>sN (by rw[y]at h;exact h));have C1:Hid (∀f,Ext I f->Calls prog 66 #[t.v,.string (sB s)] f (zF f (dA T s))):=ah (λf h=>QO T t s f (HT.out.ay h) hs);have C2:Hid (∀f,Ext I f->Calls prog 67 #[t.v,.string (sB s)] f (zF f (uniD T s))):=ah (λf h=>QU T t s f (HT.out.ay h) hs);have C3:Hid (∀f,Ext I f->Calls prog 68 #[t.v,.string (sB s)] f (Io f (bT T s))):=ah (λf h=>Ht T t s f (HT.out.ay h) hs);have HD:Hid (kP T s=if(dA T s).2.2≠0 then(mG,(dA T s).2.2)else if(bT T s).1.length≠1 then(mG,21)else xJ T s ((bT T s).1.getD 0 [])):=rfl;have iL:Hid (∀l,xJ T s l=if 4<rV T l then(mG,20)else if(jX T l).2≠0 then(mG,(jX T l).2)else if(jX T l).1.length=0 then(mG,10)else(((dA T s).1,(uniD T s).1,(jX T l).1),0)):=ah λ_=>rfl
 have HU:Hid ((dA T s).2.2=0->(uniD T s).2.2=0):=ah λh=>by rw[(uni_ok h).2]
 have HP:Hid ((dA T s).2.2=0->(bT T s).2.2=0/\∀l∈(bT T s).1,aS T l=0):=ah λh=>by
  have N:(bT T s).2.2=0:=by
   unfold dA at h;split at h
   .exact absurd h ‹_›
   .exact Decidable.not_not.1 ‹_›
  exact⟨N,λl hl=>Cm ((xH N).2 l hl).1⟩
 generalize xJ T s=CL at*;generalize kP T s=D at*;generalize dA T s=DA at*;generalize uniD T s=Jg at*;generalize bT T s=DP at*;obtain⟨a,ai,ae⟩:=DA;obtain⟨u,ui,ue⟩:=Jg;obtain⟨L,pi,pe⟩:=DP;simp only[]at HD iL HU HP;clear ht hs K;go_enter func44,ntmps44;go_wp2_with fail;rw[<- y];refine(C1.out _ eR').mono ?_;rintro e w1⟨rfl,a4⟩;have q:=ah (a4);have uj:=M.out _ q.out;clear a4 y;by_cases J:ae=0
 case neg=>
  have e0:(ae != 0)=true:=bN' J;have B:=ah (HD.out.trans (pP' J));clear J HD iL HU HP C2 C3;go_wp2_with(refine wpList_store_row rfl _ _ _ rfl (w.heap.size+1) _ rfl rfl 79 qc (g.out _ q.out) (by kernel_rfl) rfl (sK _ _ _) ?_)
  (try simp only[Exit.inBlock,Exit.then])
  refine bodyPost_ret (results_cell_row_tmp (p:=4) (u:=5) (ty:=79) (by kernel_rfl) _ _ (w.heap.size+1) 79 _ (0,0) (by first|rfl|simp[Act.put]) (setRow_heap _ _ _ _ _ _ (g.out _ q.out)) underlying79 (by kernel_rfl)) rfl ?_;exact⟨by rw[B.out];rfl,vV (j.out.trans' q.out) (Nat.le_succ _) _⟩
 have O:=ah (HD.out.trans (nN' (by rw[J];simp)));have aq:=ah (HU.out J);have P:=ah (HP.out J);have e0:(ae != 0)=false:=bZ' J;clear J HD HU HP;have eu:(ue != 0)=false:=by rw[aq.out];rfl
 go_wp2_with fail;refine(C2.out _ q.out).mono ?_;rintro e w2⟨rfl,a5⟩;have Q:=ah (q.out.trans' a5);have kW:=M.out _ Q.out;clear a5 uj;have ep:(pe != 0)=false:=by rw[P.out.1];rfl
 go_wp2_with fail;refine(C3.out _ Q.out).mono ?_;rintro e w3⟨A,m,d,rfl,hl,a6⟩;have i:=ah (Q.out.trans' a6);have lK:=M.out _ i.out;clear a6 kW;have HL:=ah hl;have hm:=hl.len.1;simp only[]at hm HL;clear hl;by_cases N:L.length=1
 case neg=>
  have B:=ah (O.out.trans (pP' N));have e1:(((m:Nat):Int) != 1)=true:=by rw[bne_iff_ne];omega
  have av:(m != 1)=true:=by rw[bne_iff_ne];omega
  clear N O iL;go_wp2_with(refine wpList_store_row rfl _ _ _ rfl (w.heap.size+1) _ rfl rfl 79 qc (g.out _ i.out) (by kernel_rfl) rfl (sK _ _ _) ?_)
  (try simp only[Exit.inBlock,Exit.then])
  refine bodyPost_ret (results_cell_row_tmp (p:=4) (u:=5) (ty:=79) (by kernel_rfl) _ _ (w.heap.size+1) 79 _ (0,0) (by first|rfl|simp[Act.put]) (setRow_heap _ _ _ _ _ _ (g.out _ i.out)) underlying79 (by kernel_rfl)) rfl ?_;exact⟨by rw[B.out];rfl,vV (j.out.trans' i.out) (Nat.le_succ _) _⟩
 have a7:=ah (O.out.trans (nN' (by rw[N];simp)));have e1:(((m:Nat):Int) != 1)=false:=by rw[show m=1 by omega];rfl
 have av:(m != 1)=false:=by rw[show m=1 by omega];rfl
 obtain⟨b,o,R,S,U,rfl,a8,hz⟩:=HL.out.at_ (show 0<L.length by omega);have V:=ah (P.out.2 _ (gM' (show 0<L.length by omega)));have W:=ah (iL.out (L[0]'(by omega)));have a9:Hid (D=CL (L[0]'(by omega))):=ah (by rw[a7.out,getD_lt L 0 [] (by omega)]);have HZ:=ah hz;have Gt:=ah a8;have ax:m=1:=by omega
 clear hz P iL a7 a8;generalize L[0]'(by omega)=x at*;subst ax;clear N hm HL;have aa:Hid (qZ T x=rV T x):=ah (by rw[qZ,pP' V.out])
 have ab:Hid (∀f,Ext w3 f->cE' 69 #[t.v,.slice R S U] f (.tuple #[.int .i64 (rV T x),.int .i64 0])):=ah (λf h=>by
  have h':=TT t T x R S U f (HT.out.ay (i.out.trans' h)) (HZ.out.ext h)
  rwa[aa.out,V.out]at h')
 have HK:Hid (∀f,Ext w3 f->cE' 70 #[t.v,.slice R S U] f (.tuple #[.string (sB (jX T x).1),.int .i64 (jX T x).2])):=ah (λf h=>Sl T t x R S U f (HT.out.ay (i.out.trans' h)) (HZ.out.ext h));generalize rV T x=lv at*;generalize jX T x=kd at*;obtain⟨k,ke⟩:=kd;simp only[]at W HK;have F:=ah (a9.out.trans W.out);have rL:∀z:ak w3,∀p:Nat,z.w.cell? ⟨w.heap.size,p,none⟩=t.v.cells[p]? :=λz=>M.out _ (i.out.trans' z.h)
 have cL:∀z:ak w3,z.w.cell? ⟨b,o,none⟩=some (.slice R S U):=dJ Gt.out;clear a9 W aa V HZ lK;go_wp2_with fail;refine rX' ?_
 repeat(go_big_quiet_step(first|(go_at_call 69;with_reducible exact aI (ab.out _ (ak.h _)))))
 refine wpQuiet_nil ?_;rintro _⟨v,rfl⟩;have r:=ah (i.out.trans' v.h);have ac:=ah v.h;have fA:=M.out _ r.out;clear rL cL ab;generalize v.w=v1 at*;clear v;by_cases Y:4<lv
 .have d2:decide (4<lv)=true:=dt' Y;have B:=ah (F.out.trans (pP' Y));clear Y F;go_wp2_with(refine wpList_store_row rfl _ _ _ rfl (w.heap.size+1) _ rfl rfl 79 qc (g.out _ r.out) (by kernel_rfl) rfl (sK _ _ _) ?_)
  (try simp only[Exit.inBlock,Exit.then])
  refine bodyPost_ret (results_cell_row_tmp (p:=4) (u:=5) (ty:=79) (by kernel_rfl) _ _ (w.heap.size+1) 79 _ (0,0) (by first|rfl|simp[Act.put]) (setRow_heap _ _ _ _ _ _ (g.out _ r.out)) underlying79 (by kernel_rfl)) rfl ?_;exact⟨by rw[B.out];rfl,vV (j.out.trans' r.out) (Nat.le_succ _) _⟩
 have G:=ah (F.out.trans (nN' Y));have d2:decide (4<lv)=false:=df' Y;have rL:∀z:ak v1,∀p:Nat,z.w.cell? ⟨w.heap.size,p,none⟩=t.v.cells[p]? :=λz=>M.out _ (r.out.trans' z.h)
 have cL:∀z:ak v1,z.w.cell? ⟨b,o,none⟩=some (.slice R S U):=dJ (dh (dG ac.out) Gt.out);have ad:Hid (∀f,Ext v1 f->cE' 70 #[t.v,.slice R S U] f (.tuple #[.string (sB k),.int .i64 ke])):=ah (λf h=>HK.out f (ac.out.trans' h));clear Y F fA HK;go_wp2_with fail;refine rX' ?_
 repeat(go_big_quiet_step(first|(go_at_call 70;with_reducible exact aI (ad.out _ (ak.h _)))))
 refine wpQuiet_nil ?_;rintro _⟨v,rfl⟩;have E:=ah (r.out.trans' v.h);have rK:=M.out _ E.out;clear rL cL ad;generalize v.w=v2 at*;clear v;by_cases Z:ke=0
 case neg=>
  have e3:(ke != 0)=true:=bN' Z;have B:=ah (G.out.trans (pP' Z));clear Z G;go_wp2_with(refine wpList_store_row rfl _ _ _ rfl (w.heap.size+1) _ rfl rfl 79 qc (g.out _ E.out) (by kernel_rfl) rfl (sK _ _ _) ?_)
  (try simp only[Exit.inBlock,Exit.then])
  refine bodyPost_ret (results_cell_row_tmp (p:=4) (u:=5) (ty:=79) (by kernel_rfl) _ _ (w.heap.size+1) 79 _ (0,0) (by first|rfl|simp[Act.put]) (setRow_heap _ _ _ _ _ _ (g.out _ E.out)) underlying79 (by kernel_rfl)) rfl ?_;exact⟨by rw[B.out];rfl,vV (j.out.trans' E.out) (Nat.le_succ _) _⟩
 have e3:(ke != 0)=false:=bZ' Z;have H:=ah (G.out.trans (nN' (by rw[Z];simp)));have af:=pU k;clear Z G;by_cases X:k.length=0
 .have B:=ah (H.out.trans (pP' X));rw[List.eq_nil_of_length_eq_zero X,show([]:List Int).isEmpty=true from rfl]at af;rw[List.eq_nil_of_length_eq_zero X];clear X H;go_wp2_with(refine wpList_store_row rfl _ _ _ rfl (w.heap.size+1) _ rfl rfl 79 qc (g.out _ E.out) (by kernel_rfl) rfl (sK _ _ _) ?_)
  (try simp only[Exit.inBlock,Exit.then])
  refine bodyPost_ret (results_cell_row_tmp (p:=4) (u:=5) (ty:=79) (by kernel_rfl) _ _ (w.heap.size+1) 79 _ (0,0) (by first|rfl|simp[Act.put]) (setRow_heap _ _ _ _ _ _ (g.out _ E.out)) underlying79 (by kernel_rfl)) rfl ?_;exact⟨by rw[B.out];rfl,vV (j.out.trans' E.out) (Nat.le_succ _) _⟩
 have B:=ah (H.out.trans (nN' X));rw[show k.isEmpty=false from by cases k with|nil=>exact absurd rfl X|cons a b=>rfl]at af;clear X H;go_wp2_with(refine wpList_store_row rfl _ _ _ rfl (w.heap.size+1) _ rfl rfl 79 qc (g.out _ E.out) (by kernel_rfl) rfl (sK _ _ _) ?_)
 (try simp only[Exit.inBlock,Exit.then])
 refine bodyPost_ret (results_cell_row_tmp (p:=4) (u:=5) (ty:=79) (by kernel_rfl) _ _ (w.heap.size+1) 79 _ (0,0) (by first|rfl|simp[Act.put]) (setRow_heap _ _ _ _ _ _ (g.out _ E.out)) underlying79 (by kernel_rfl)) rfl ?_;exact⟨by rw[B.out];rfl,vV (j.out.trans' E.out) (Nat.le_succ _) _⟩
end Go.Proofs.YtpmgophlhmcogaaGreatDoor
