/- Part Bw26. -/
import Derived.Test.YtljilcbobhmkgaaGreatDoorBw25
open Go.Proofs.Tryz
namespace Go.Proofs.YtljilcbobhmkgaaGreatDoor
set_option maxHeartbeats 25600000
set_option maxRecDepth 100000
open Go.RowKit
variable (T:ak)(t:TV)(l:List Int)(A:Option Addr)(n c:Nat)(w:World)
theorem b3N{w:World}{a n c:Nat}{A:Option Addr}{l:List Int}(f:aK w a A n c l){i:Option Addr}{m k:Nat}{g:List Int}(p:aC w ⟨i,m,k⟩ g)(z:n+m<=17592186044416)(b:a<=w.heap.size):
 ∃A' c' w',(∀ty,(Builtin.append_ #[22,22] ty #[.slice A n c,.slice i m k]).run prog w=.ok (.slice A' (n+m) c') w')/\aK w' a A' (n+m) c' (l++g)/\w.grownBy w' (aF A)/\(aF A'=aF A\/aF A'=some w.heap.size):=by
 have q:=p.len.1;obtain⟨A',c',w',r,s,t,y⟩:=zf underlying22 infoInt rfl (by omega) f i m k (g.map (Value.int .i64)) (by simp[q])
  (λj u d=>by
   rw[List.getElem?_map]at d;cases h:g[j]? with
   |none=>rw[h]at d;cases d
   |some x=>
    rw[h]at d;simp only[Option.map_some,Option.some.injEq]at d;subst d
    exact p.2 j x h)
  (by intro u o;rw[List.mem_map]at o;obtain⟨x,_,rfl⟩:=o;rfl) (by simp only[maxLen];omega) (by omega) b
 exact⟨A',c',w',r,by rw[aK,List.map_append];exact s,t,y⟩
theorem MW(x:List Int):∀(l:List (List Int))(i:Int),mD x i l= -1\/i<=mD x i l/\mD x i l<i+l.length
 |[],_=>.inl rfl
 |y::r,i=>by
  unfold mD;split
  .exact .inr ⟨Int.le_refl _,by simp only[List.length_cons];omega⟩
  .rcases MW x r (i+1)with h|h
   .exact .inl h
   .exact .inr ⟨by omega,by simp only[List.length_cons];omega⟩
theorem aZl{x:List Int}{L:List (List Int)}{k:Nat}(a:k<L.length):mD x k (L.drop k)=if L[k]=x then(k:Int)else mD x ((k+1:Nat):Int) (L.drop (k+1)):=by
 rw[drop_at L k a];rfl
theorem index_spec(x:List Int)(L:List (List Int))(A:Option Addr)(n c:Nat)(w:World)(h:lq w ⟨A,n,c⟩ L)(g:IsB x)(p:∀y∈L,IsB y)(H:L.length<=8796093021952):
 cE' 59 #[.slice A n c,.string (sB x)] w (.int .i64 (mD x 0 L)):=by
 have q:n=L.length:=h.1.1;subst q;have r:=ah h;have s:=ah p;clear h p;go_enter func59,ntmps59;go_wp2;go_loopg[8] L.length (λt z B=>∃k:Nat,k+t=L.length/\z=.int .i64 k/\Hid (mD x k (L.drop k)=mD x 0 L)/\Hid (Ext w B));exact⟨0,by omega,rfl,ah rfl,ah eR'⟩;obtain⟨k,G,rfl,d,j⟩:=hrel;by_cases a:k<L.length
 .obtain⟨m,rfl⟩:=gS' gk;obtain⟨b,o,rfl,D⟩:=(r.out.ext j.out).at_ a;have l:=ah (aZl (x:=x) a);have f:=rJ g (s.out _ (gM' a));generalize L[k]=y at*;have E:=z0' k;have F:(k:Int)<(L.length:Int):=by omega
  by_cases e:y=x
  .rw[dt' e.symm]at f;have i:=ah (d.out.symm.trans (l.out.trans (pP' e)));have g:=j.out;clear e l d;go_wp2;go_ret;exact⟨by rw[i.out];rfl,g⟩
  .rw[df' (λh=>e h.symm)]at f;have i:=ah ((l.out.trans (nN' e)).symm.trans d.out);clear e l d;go_wp2;go_roundg m;exact⟨k+1,by omega,by go_num,i,j⟩;omega
 .have i:Hid (mD x 0 L= -1):=ah (by rw[<- d.out,List.drop_of_length_le (by omega)];rfl);have g:=j.out;go_wp2;go_ret;exact⟨by rw[i.out];rfl,g⟩
theorem zQ(n a c:Int)(w:World):cW' 24 #[.int .i64 n,.int .i64 a,.int .i64 c] w (.bool (decide (a<=n)&&decide (n<=c))):=by
 obtain⟨d,g⟩:=eY' (decide (a<=n));obtain⟨f,h⟩:=eY' (decide (n<=c));have i:Hid ((decide (a<=n)&&decide (n<=c))=(d&&f)):=ah (by rw[g,h]);cases d<;>cases f
 all_goals
  go_enter func24,ntmps24;go_wp2;go_ret;exact⟨aO i.out.symm,rfl⟩
def WtL(f:Int->Int)(w:World)(g N:Nat)(gh:Nat)(s24:Value)(wx:World):Prop:=
 ∃(k:Nat)(M:List Int),k+gh=N/\s24=.int .i64 k/\M.length=N/\Hid (aK wx w.heap.size (some ⟨g,0,none⟩) N N M)/\Hid (M.take k=(List.range k).map λi:Nat=>f i)/\Hid (Ext w wx)
theorem b0L{f:Int->Int}{M:List Int}{k:Nat}(a:k<M.length)(h:M.take k=(List.range k).map λi:Nat=>f i):(M.set k (f k)).take (k+1)=(List.range (k+1)).map λi:Nat=>f i:=by
 rw[tS' (by simpa using a),List.take_set_of_le (lr' _),h,List.range_succ];simp
theorem Hu{f:Int->Int}{M:List Int}{k:Nat}{y:Int}(a:k<M.length)(h:M.take k=(List.range k).map λi:Nat=>f i)(b:f k=y):Hid ((M.set k y).take (k+1)=(List.range (k+1)).map λi:Nat=>f i):=ah (by rw[<- b];exact b0L a h)
theorem b0q(b:List (List Int))(d:List Int)(a:List (List Int)){k:Nat}(h:k<a.length):nxF b d a k=if a[k]≠[]/\0<=mD a[k] 0 b/\0<=d.getD (mD a[k] 0 b).toNat 0/\d.getD (mD a[k] 0 b).toNat 0<a.length then d.getD (mD a[k] 0 b).toNat 0 else -1:=by
 have e:a.getD (k:Int).toNat []=a[k]:=by simp[List.getD_eq_getElem?_getD,h]
 have j:=MW a[k] b 0;unfold nxF wtF;rw[e];generalize a[k]=X at*;generalize mD X 0 b=I at*;generalize d.getD I.toNat 0=O at*;have i:(if 0<=(k:Int)/\(k:Int)<a.length/\X≠[]/\I≠ -1 then O else -1)=if X≠[]/\0<=I then O else -1:=by
  by_cases c:X=[]
  .rw[nN' (λh=>h.2.2.1 c),nN' (λh=>h.1 c)]
  .by_cases g:0<=I
   .rw[pP' ⟨by omega,by omega,c,by omega⟩,pP' ⟨c,g⟩]
   .rw[nN' (λh=>h.2.2.2 (by omega)),nN' (λh=>g h.2)]
 rw[i];by_cases c:X≠[]/\0<=I
 .rw[pP' c];by_cases f:0<=O/\O<(a.length:Int)
  .rw[pP' f,pP' ⟨c.1,c.2,f⟩]
  .rw[nN' f,nN' (λh=>f h.2.2)]
 .rw[nN' c,nN' (by omega),nN' (λh=>c ⟨h.1,h.2.1⟩)]
def CiL(f:Int->Int)(wb:World)(n:Nat)(first:Int)(R:Option (List Int))(gh:Nat)(s12 s13:Value)(wx:World):Prop:=
 ∃(kk:Int)(cl:List Int)(B:Option Addr)(d:Nat),s13=.int .i64 kk/\s12=.slice B cl.length d/\gh+cl.length=n+2/\kk<n/\ -1<=kk/\Hid (aK wx wb.heap.size B cl.length d cl)/\Hid (yO f n first gh kk cl=R)/\Hid (Ext wb wx)
theorem b0K(l:List (List Int))(p:List Int)(a:List (List Int))(A:Option Addr)(n c:Nat)(A2:Option Addr)(n2 c2:Nat)(A3:Option Addr)(n3 c3:Nat)(w:World)
 (h1:lq w ⟨A,n,c⟩ l) (h2:aC w ⟨A2,n2,c2⟩ p) (h3:lq w ⟨A3,n3,c3⟩ a) (hl:∀y∈l,IsB y) (R:∀y∈a,IsB y) (hm:l.length<=8796093021952) (bH:a.length<=8796093021952):
 Calls prog 31 #[.slice A n c,.slice A2 n2 c2,.slice A3 n3 c3] w λe w'=>∃B k d,e=.returned (.slice B k d)/\aC w' ⟨B,k,d⟩ (Hl l p a)/\Ext w w':=by
 have e1:n=l.length:=h1.1.1;have e2:n2=p.length:=h2.1.1;have e3:n3=a.length:=h3.1.1;subst e1 e2 e3;have Q:Hid (Hl l p a=if l.length≠p.length then[]else AZ (nxF l p a) a.length a.length 0):=rfl;by_cases s:l.length=p.length
 case neg=>
  have q1:(l.length != p.length)=true:=by rw[bne_iff_ne];exact s
  have q2:((l.length:Int) != (p.length:Int))=true:=by rw[bne_iff_ne];omega
  have HF:=ah (Q.out.trans (pP' s));clear s Q;go_enter func31,ntmps31;go_wp2;go_ret;exact⟨none,0,0,rfl,by rw[HF.out];exact aC.nil_ _,eR'⟩
 have q1:(l.length != p.length)=false:=by rw[bne_eq_false_iff_eq];exact s
 have q2:((l.length:Int) != (p.length:Int))=false:=by rw[bne_eq_false_iff_eq];omega
 have HF:=ah (Q.out.trans (nN' (λh=>h s)));have aL:=ah s;have H1:=ah h1;have H2:=ah h2;have H3:=ah h3;have aM:=ah hl;have aR:=ah R;generalize hf:nxF l p a=f at*;have a9:Hid (∀k:Nat,k<a.length->f k=if a.getD k []≠[]/\0<=mD (a.getD k []) 0 l/\0<=p.getD (mD (a.getD k []) 0 l).toNat 0/\p.getD (mD (a.getD k []) 0 l).toNat 0<a.length then p.getD (mD (a.getD k []) 0 l).toNat 0 else -1):=ah λk G=>by
  have e:a.getD k []=a[k]:=by simp[List.getD_eq_getElem?_getD,G]
  rw[e,<- hf,b0q l p a G]
 have VG:∀k,-1<=f k/\f k<a.length:=λk=>by rw[<- hf];unfold nxF;split<;>omega
 have b0:=ah VG;generalize hN:a.length=N at*;have b1:=ah hN;have br:=z0' N;clear s Q h1 h2 h3 hl R hf VG hN;obtain⟨vF,b2,b3,b4,b5⟩:=info_parts infoInt;go_enter func31,ntmps31;go_wp2_with(refine wpList_make_full _ rfl _ _ 22 rfl w.heap.size 3 vF _ 1 underlying22 b2 b3 b4 .i64 .i64 N N N rfl rfl rfl rfl (by rw[b5];omega) (by simp only[maxLen];omega) (lr' _) ?_;intro w1 D Es);have VH:aK w1 w.heap.size (some ⟨w.heap.size,0,none⟩) N N (List.replicate N 0):=by
  have e:(madeCells (Value.int .i64 0).cells (N*1)).toList=(List.replicate N (0:Int)).map (Value.int .i64):=by
   rw[Nat.mul_one,List.map_replicate];simp only[madeCells,Value.cells];refine List.ext_getElem (by simp) λi h1 h2=>?_
   simp[Nat.mod_one]
  have h:=D;rw[e]at h;exact h
 have aa:=ah VH;have gW:Hid (Ext w w1):=ah (dV eR' Es (by intro k G;cases G));generalize hg:w.heap.size=g at*;have S:=ah hg;clear D Es VH hg;go_loopg[24] N (λgh b6 wx=>WtL f w g N gh b6 wx);exact⟨0,List.replicate N 0,by omega,rfl,List.length_replicate,by rw[S.out];exact aa,ah rfl,gW⟩;obtain⟨k,M,bs,rfl,H,HO,HM,T⟩:=hrel;rw[S.out]at HO;by_cases G:k<N
 .obtain⟨J,rfl⟩:=gS' gk;have X:k<a.length:=by rw[b1.out];exact G
  obtain⟨b,o,rfl,b7⟩:=(H3.out.ext T.out).at_ X;have b8:=ah (aR.out _ (gM' X));have z:=ah (a9.out k G);rw[List.getD_eq_getElem?_getD,List.getElem?_eq_getElem X,Option.getD_some]at z;generalize a[k]=x at*;have r0:=HO.out.cell k (M[k]'(by omega)) (List.getElem?_eq_getElem (by omega));have f0:=HO.out.frozen k;have bt:=z0' k;have b9:(k:Int)<(N:Int):=by omega
  go_wp2_with fail;obtain⟨W2,K⟩:=eX' (wr.setCell ⟨g,k,none⟩ (.int .i64 (-1)));have ba:Hid (aK W2 g (some ⟨g,0,none⟩) N N (M.set k (-1))):=ah (by rw[K];exact HO.out.set k (-1));have ae:Hid (Ext w W2):=ah (by rw[K];exact T.out.jP (Nat.le_of_eq S.out) _);rw[<- K];clear K r0 f0 b7;refine(index_spec x l A _ c W2 (H1.out.ext ae.out) b8.out aM.out (by omega)).mono ?_;rintro e w3⟨rfl,Y⟩;have dM:=ah (Own.ext ba.out Y);have dU:=ah (ae.out.trans' Y);have bb:=ah (MW x l 0);generalize mD x 0 l=I at*;clear Y;by_cases r:x=[]
  .have q0:((sB x).toList.isEmpty)=true:=by rw[sO,r];rfl
   have m:=ah (z.out.trans (nN' (λh=>h.1 r)));clear r;go_wp2;go_roundg J;exact⟨k+1,M.set k (-1),by omega,by go_num,by simp[H],by rw[S.out];exact dM,Hu (by omega) HM.out m.out,dU⟩;omega
  .have q0:((sB x).toList.isEmpty)=false:=by rw[sO];cases x with|nil=>exact absurd rfl r|cons _ _=>rfl
   by_cases hi:0<=I
   .obtain⟨j,rfl⟩:=iN' I;have hj:j<p.length:=(by have:=bb.out;have:=aL.out;omega);obtain⟨b',o',rfl,bu⟩:=(H2.out.ext dU.out).at_ hj;have e0:p.getD (j:Int).toNat 0=p[j]:=(by simp[List.getD_eq_getElem?_getD,hj]);rw[e0]at z;generalize p[j]=ow at*;have d0:decide ((0:Int)<=(j:Int))=true:=dt' hi;have bv:(j:Int)<(p.length:Int):=(by omega);have bw:(N:Int)<=8796093021952:=(by omega);clear e0;by_cases R:0<=ow/\ow<(N:Int)
    .have m:=ah (z.out.trans (pP' ⟨r,hi,R⟩));have HB:Hid ((decide ((0:Int)<=ow)&&decide (ow<=(N:Int)-1))=true):=ah (by rw[dt' R.1,dt' (by omega)];rfl);have r0:=aK.cell dM.out k (-1) (by rw[List.getElem?_set_self (by omega)]);have f0:=aK.frozen dM.out k;clear r R;go_wp2_with fail;refine(zQ ow 0 ((N:Int)-1) w3).mono ?_;rintro e w4⟨rfl,rfl⟩;rw[HB.out];go_wp2;go_roundg J;exact⟨k+1,(M.set k (-1)).set k ow,by omega,by go_num,by simp[H],by rw[S.out];exact ah (aK.set dM.out k ow),Hu (by simp;omega) (by rw[List.take_set_of_le (lr' _)];exact HM.out) m.out,ah (dU.out.jP (Nat.le_of_eq S.out) _)⟩;omega
    .have m:=ah (z.out.trans (nN' (λh=>R h.2.2)))
     have HB:Hid ((decide ((0:Int)<=ow)&&decide (ow<=(N:Int)-1))=false):=ah (by
      rw[aF',aA,aA];omega)
     clear r R;go_wp2_with fail;refine(zQ ow 0 ((N:Int)-1) w3).mono ?_;rintro e w4⟨rfl,rfl⟩;rw[HB.out];go_wp2;go_roundg J;exact⟨k+1,M.set k (-1),by omega,by go_num,by simp[H],by rw[S.out];exact dM,Hu (by omega) HM.out m.out,dU⟩;omega
   .have d0:decide ((0:Int)<=I)=false:=df' hi;have m:=ah (z.out.trans (nN' (λh=>hi h.2.1)));clear r;go_wp2;go_roundg J;exact⟨k+1,M.set k (-1),by omega,by go_num,by simp[H],by rw[S.out];exact dM,Hu (by omega) HM.out m.out,dU⟩;omega
 .have bd:k=N:=by omega
  subst bd;have be:Hid (M=(List.range k).map λi:Nat=>f i):=ah (by rw[<- HM.out,tL' (by omega)]);obtain⟨J5,rfl⟩:=eX' wr;clear HM;have bf:=ah HO.out;have ai:=ah T.out;obtain⟨U,Z⟩:=eY' (Hl l p a);have al:=ah Z;have bh:Hid (AZ f k k 0=U):=ah (by rw[<- Z];exact HF.out.symm);clear Z;have bx:k<=8796093021952:=by omega
  clear HF HO T a9 aa gW;go_wp2;go_loopg[61] k (λgh bi wx=>∃i:Nat,i+gh=k/\bi=.int .i64 i/\Hid (AZ f k gh i=U)/\Hid (Ext J5 wx));exact⟨0,by omega,rfl,bh,ah eR'⟩;obtain⟨i,bz,rfl,Q,T⟩:=hrel;by_cases hi:i<k
  .obtain⟨g2,rfl⟩:=gS' gk;have a0:U=match yO f k i (k+2) i []with|some c=>c|none=>AZ f k g2 (i+1):=by rw[<- Q.out];rfl
   generalize am:yO f k i (k+2) i []=RC at a0;have bj:=ah am;have L:=ah a0;have bA:=z0' i;have bB:(i:Int)<(k:Int):=(by omega);clear Q am a0;go_wp2_with fail;obtain⟨Fj,rfl⟩:=eX' wr;go_loopg[12,13] (k+2) (λgh bk bl wx=>CiL f Fj k i RC gh bk bl wx);exact⟨i,[],none,0,rfl,rfl,by simp,by omega,by omega,ah (Own.nil_ _ _ _ _),bj,ah eR'⟩;obtain⟨F,C,B,d,rfl,rfl,bC,b9,bE,a1,O,a2⟩:=hrel;by_cases V:0<=F/\C.length<=k
   .obtain⟨g3,rfl⟩:=gS' gk;have t:Hid (RC=if f F=i then some (C++[F])else yO f k i g3 (f F) (C++[F])):=ah (by rw[<- O.out,yO,pP' V]);obtain⟨q,rfl⟩:=iN' F;have d0:decide ((0:Int)<=(q:Int))=true:=dt' V.1;have d1:decide (C.length<=k)=true:=dt' V.2;have d2:decide ((C.length:Int)<=(k:Int))=true:=dT';have P:Ext wr (wr.alloc (.cells #[.int .i64 q] 3)):=eR'.ay _;obtain⟨B7,d7,w7,E,rG,uf,_⟩:=b3N (Own.ext a1.out P) (iJ wr q) (by omega) (a2.out.trans' P).b.size;have an:Hid (Ext Fj w7):=ah (dV (a2.out.trans' P) uf (λk G=>(Own.lt a1.out k G).1));have ao:=ah (T.out.trans' an.out);have ap:=ah rG;have aq:=b0.out q;have r7:=aK.cell (Own.ext bf.out ao.out) q (f q) (by rw[be.out,List.getElem?_map,List.getElem?_range (by omega)];rfl);have bG:=z0' q;have W:(C++[(q:Int)]).length=C.length+1:=(by simp);generalize f q=y at*;clear rG uf P V O a1;by_cases he:y=i
    .have e1:(y==(i:Int))=true:=(by rw[bq'];exact he);have m:Hid (U=C++[(q:Int)]):=ah (by rw[L.out,t.out,pP' he]);have a3:=ai.out.trans' ao.out;clear he t L;go_wp2_with(at_builtin;refine dA rfl _ _ _ rfl _ _ rfl rfl _ _ E ?_);go_ret;exact⟨B7,_,d7,rfl,by rw[al.out,m.out];exact aK.ints ap.out,a3⟩
    .have e1:(y==(i:Int))=false:=(by rw[aH];exact he);have bm:Hid (yO f k i g3 y (C++[(q:Int)])=RC):=ah (by rw[t.out,nN' he]);clear he t;go_wp2_with(at_builtin;refine dA rfl _ _ _ rfl _ _ rfl rfl _ _ E ?_);go_roundg g3;exact⟨y,C++[(q:Int)],B7,d7,rfl,by rw[W],by omega,aq.2,aq.1,by rw[W];exact ap,bm,an⟩;omega
   .have t:Hid (RC=none):=ah (by
     rw[<- O.out];cases gk with
     |zero=>rfl
     |succ g=>rw[yO,nN' V])
    have bo:Hid (AZ f k g2 (i+1)=U):=ah (by rw[L.out,t.out]);have bp:=ah (T.out.trans' a2.out);have bq:(decide ((0:Int)<=F)=false)\/(decide ((0:Int)<=F)=true/\decide (C.length<=k)=false/\decide ((C.length:Int)<=(k:Int))=false):=by
     by_cases h0:0<=F
     .exact .inr ⟨dt' h0,df' (λh=>V ⟨h0,h⟩),df' (λh=>V ⟨h0,by omega⟩)⟩
     .exact .inl (df' h0)
    clear V O L t;rcases bq with d0|⟨d0,d1,d2⟩
    all_goals
     go_wp2;go_roundg g2;exact⟨i+1,by omega,by go_num,bo,bp⟩;omega
  .have m:Hid (U=[]):=ah (by
    rw[<- Q.out];obtain rfl:gk=0:=by omega
    rfl)
   have a3:=ai.out.trans' T.out;go_wp2;go_ret;exact⟨none,0,0,rfl,by rw[al.out,m.out];exact aC.nil_ _,a3⟩
def jJ(T:ak)(c:Int):List Int:=if ug T c=true then[]else if aJ T.eG c=[]then[c]else aJ T.eG c
def kL(T:ak)(l:List Int):Int:=if aV T l≠0 then aV T l else if 4096<((l.flatMap (jJ T)).length:Int)then 7 else 0
def qH(T:ak)(l:List Int):List Int:=if kL T l=0 then l.flatMap (jJ T)else[]
def Ho(w:World)(l:List Int)(v:Int)(e:Ending)(w':World):Prop:=∃B m d,e=.returned (.tuple #[.slice B m d,.int .i64 v])/\Ext w w'/\aC w' ⟨B,m,d⟩ l
theorem Hg{T:ak}(h:bV T=true):∀x,(aJ T.eG x).length<=18:=by
 simp only[bV,aT]at h;have a:iV T=true:=by simp only[h]
 simp only[iV,maps,jW,aT]at a;exact Fz a.2.2.2.1
theorem VA{T:ak}(h:bV T=true)(x:Int):(jJ T x).length<=18:=by
 unfold jJ;split
 .simp
 .split
  .simp
  .exact Hg h x
theorem aYS(T:ak)(c:Int)(w:World)(ht:aS w t T)(i:bV T=true):
 Calls prog 254 #[t.v,.int .i64 c] w λe w'=>∃B m d,e=.returned (.slice B m d)/\aC w' ⟨B,m,d⟩ (aJ T.eG c)/\Ext w w':=by
 have b:=cO w t;have x:=ah (ht.aB b);have y:=ah (Hg i c);have o:=ah (mG i);have z:=ah (DN i);clear i;obtain⟨p,A,q,r,f,C⟩:=Ae T.eG t.s11.a t.s11.n t.s11.c c _ x.out.eG o.out.eG.1 o.out.eG.2;have D:=ah r;have j:Hid (aJ T.eG c=[]->p=none/\q=0):=ah λh=>by
  have:=f (Bv z.out.eG h);exact⟨this.1,this.2.2⟩
 clear r f;go_enter func254,ntmps254;go_wp2_with fail;refine(C _ eR').mono ?_;rintro e E⟨rfl,g⟩;go_wp2_with fail;refine(Jz _ p A q E (D.out.ext g) (by have:=y.out;omega) j.out).mono ?_;rintro e H⟨B,d,rfl,s,k,l⟩;have F:=(b.trans' g).trans' l;have G:=ah (aK.ints s);clear s k;go_wp2;go_ret;exact⟨_,_,_,rfl,G.out,F⟩
theorem aYP(T:ak)(c:Int)(w:World)(ht:aS w t T):
 Calls prog 270 #[t.v,.int .i64 c] w λe w'=>∃B m d,e=.returned (.slice B m d)/\aC w' ⟨B,m,d⟩ (aJ T.eG c)/\Ext w w':=by
 have a:=cO w t;have g:=ah (ht.aB a);go_enter func270,ntmps270;go_wp2_with fail;refine(Dt T.eG _ _ _ c _ g.out.eG).mono ?_;rintro e j⟨k,l,n,rfl,f,b⟩;have h:=ah f;have i:=a.trans' b;clear f b;go_wp2;go_ret;exact⟨_,_,_,rfl,h.out,i⟩
def VB(T:ak)(wb:World)(l:List Int)(gh:Nat)(s9 s23:Value)(wx:World):Prop:=
 ∃(k:Nat)(A:Option Addr)(n c:Nat),k+gh=l.length/\s23=.int .i64 k/\s9=.slice A n c/\Hid (aK wx wb.heap.size A n c ((l.take k).flatMap (jJ T)))/\Hid (Ext wb wx)
theorem aYb(ht:aS w t T)(hi:aC w ⟨A,n,c⟩ l):
 Calls prog 197 #[t.v,.slice A n c] w (Ho w (qH T l) (kL T l)):=by
 have z:=cO w t;have N:=ah z;have HT:=ah (ht.aB z);have HI:=ah (hi.ext z);have hn:=hi.len.1;subst hn;clear ht hi z;go_enter func197,ntmps197;go_wp2_with fail;refine(xJ t T l A _ c _ HT.out HI.out).mono ?_;rintro e K⟨v,rfl,G,_⟩;have O:=ah G;have P:=bT' t G;clear G;by_cases F:aV T l=0
 .obtain⟨hw,hl⟩:=qm F;have aa:(aV T l != 0)=false:=bZ' F;have Q:Hid (kL T l=if 4096<((l.flatMap (jJ T)).length:Int)then 7 else 0):=ah (by rw[kL,nN' (by rw[F];simp)]);have HW:=ah hw;have HL:=ah hl;clear F hw hl P;go_wp2;go_loopg[8,23] l.length (λgh s9 ab wx=>VB T K l gh s9 ab wx);exact⟨0,none,0,0,by omega,rfl,rfl,ah (Own.nil_ _ _ _ _),ah eR'⟩;obtain⟨k,A2,j,c2,b2,rfl,rfl,H,R⟩:=hrel;have L:=ah (O.out.trans' R.out);have P:=bT' t L.out;have ac:=ah (HI.out.ext L.out)
  have S:Hid (((l.take k).flatMap (jJ T)).length<=18*4096):=ah (by
   have h1:=Ep (VA HW.out) (l.take k);rw[List.length_take]at h1;have:=HL.out
   omega)
  have B:=ah (aK.ints H.out).len.1;by_cases U:k<l.length
  .obtain⟨I,rfl⟩:=gS' gk;obtain⟨b,o,rfl,b4⟩:=ac.out.at_ U;have C:=ah (Ai (jJ T) l k U);have h:Hid (jJ T l[k]=if ug T l[k]=true then[]else if aJ T.eG l[k]=[]then[l[k]]else aJ T.eG l[k]):=rfl;have ad:=ah (Hg HW.out l[k]);generalize l[k]=x at*;have b5:=z0' k;have b6:(k:Int)<(l.length:Int):=(by omega);have b7:l.length<=4096:=HL.out;go_wp2_with fail;refine(OB t T x wr (HT.out.aB L.out) (mG HW.out)).mono ?_;rintro e w3⟨rfl,m⟩;have V:=ah (R.out.trans' m);have dM:=ah (Own.ext H.out m);have gV:=bT' t (L.out.trans' m);have lM:=ah (L.out.trans' m);clear m P ;cases W:ug T x with
   |true=>
    rw[W]at h;have p:Hid (jJ T x=[]):=ah (h.out.trans (pP' rfl));have X:Hid (aK w3 K.heap.size A2 j c2 ((l.take (k+1)).flatMap (jJ T))):=ah (by rw[C.out,p.out,List.append_nil];exact dM.out);clear h gV;go_wp2;go_roundg I;exact⟨k+1,A2,j,c2,by omega,by go_num,rfl,X,V⟩;omega
   |false=>
    rw[W,nN' (by simp)]at h;have yP:=h;clear h;go_wp2_with fail;refine(aYS t T x w3 (HT.out.aB lM.out) HW.out).mono ?_;rintro e w4⟨A3,J,c3,rfl,Y,q⟩;have D:=ah (V.out.trans' q);have tK:=ah (Own.ext dM.out q);have IQ:=bT' t (lM.out.trans' q);have b8:=ah (lM.out.trans' q);have s:=ah (Y);clear q gV dM Y;by_cases i:aJ T.eG x=[]
    .have p:Hid (jJ T x=[x]):=ah (yP.out.trans (pP' i));have E:J=0:=(by have:=s.out.len.1;rw[i]at this;exact this);have y:Ext w4 (w4.alloc (.cells #[.int .i64 x] 3)):=eR'.ay _;obtain⟨Z,c5,w5,f,d,g,jL⟩:=fQ (Own.ext tK.out y) (iJ w4 x) (by have:=S.out;have:=B.out;omega) (D.out.trans' y).b.size;have X:Hid (aK w5 K.heap.size Z (j+1) c5 ((l.take (k+1)).flatMap (jJ T))):=ah (by rw[C.out,p.out];exact d);have bH:Hid (Ext K w5):=ah (dV (D.out.trans' y) g (λk hk=>(Own.lt (Own.ext tK.out y) k hk).1));clear d g jL y i yP s;subst E;go_wp2_with(at_builtin;refine dA rfl _ _ _ rfl _ _ rfl rfl _ _ f ?_);clear f;go_roundg I;exact⟨k+1,Z,j+1,c5,by omega,by go_num,rfl,X,bH⟩;omega
    .have p:=ah (yP.out.trans (nN' i));have E:0<J:=by
      have:=s.out.len.1;cases hq:aJ T.eG x with
      |nil=>exact absurd hq i
      |cons a r=>rw[hq]at this;simp only[List.length_cons]at this;omega
     have d3:decide (0<J)=true:=dt' E;have EC:J<=18:=(by have h7:J=_:=s.out.len.1;have:=ad.out;omega);obtain⟨Z,c5,w5,f,d,g,jL⟩:=fQ tK.out s.out (by have:=S.out;have:=B.out;omega) D.out.b.size;have X:Hid (aK w5 K.heap.size Z (j+J) c5 ((l.take (k+1)).flatMap (jJ T))):=ah (by rw[C.out,p.out];exact d);have bH:Hid (Ext K w5):=ah (dV D.out g (λk hk=>(Own.lt tK.out k hk).1));clear d g jL i yP EC E;go_wp2_with(at_builtin;refine dA rfl _ _ _ rfl _ _ rfl rfl _ _ f ?_);clear f;go_roundg I;exact⟨k+1,Z,j+J,c5,by omega,by go_num,rfl,X,bH⟩;omega
  .have HE:Hid ((l.take k).flatMap (jJ T)=l.flatMap (jJ T)):=ah (by rw[tL' (by omega)]);have a2:=N.out.trans' L.out;clear P;by_cases M:4096<((l.flatMap (jJ T)).length:Int)
   .have C:Hid (kL T l=7):=ah (by rw[Q.out,pP' M]);have hd:decide (4096<(j:Int))=true:=(by rw[au,B.out,HE.out];exact M);have ap:decide (4096<j)=true:=(by rw[au];rw[au]at hd;omega);clear M;go_wp2;go_ret2;exact⟨none,0,0,by rw[C.out];rfl,a2,by rw[qH,C.out,nN' (by decide)];exact aC.nil_ _⟩
   .have C:Hid (kL T l=0):=ah (by rw[Q.out,nN' M]);have hd:decide (4096<(j:Int))=false:=(by rw[aA,B.out,HE.out];exact M);have ap:decide (4096<j)=false:=(by rw[aA];rw[aA]at hd;omega);have aq:Hid (aC wr ⟨A2,j,c2⟩ (l.flatMap (jJ T))):=ah (by rw[<- HE.out];exact aK.ints H.out);clear M;go_wp2;go_ret2;exact⟨A2,j,c2,by rw[C.out];rfl,a2,by rw[qH,C.out,pP' rfl];exact aq.out⟩
 .have aa:(aV T l != 0)=true:=bN' F
  have HZ:Hid (kL T l=aV T l/\kL T l≠0):=ah (by
   have h1:kL T l=aV T l:=by rw[kL,pP' F]
   exact⟨h1,by rw[h1];exact F⟩)
  have hb:=N.out.trans' O.out;clear F P;go_wp2;go_ret2;exact⟨none,0,0,by rw[HZ.out.1];rfl,hb,by rw[qH,nN' HZ.out.2];exact aC.nil_ _⟩
theorem aYZ(ht:aS w t T)(hi:aC w ⟨A,n,c⟩ l):
 Calls prog 217 #[t.v,.slice A n c] w (Ho w (qH T l) (kL T l)):=by
 have B:=cO w t;have N:=ah B;have HT:=ah (ht.aB B);have HI:=ah (hi.ext B);have hn:=hi.len.1;subst hn;clear ht hi B;go_enter func217,ntmps217;go_wp2_with fail;refine(rU t T l A _ c _ HT.out HI.out).mono ?_;rintro e K⟨rfl,G⟩;have O:=ah G;have P:=bT' t G;clear G;by_cases F:aV T l=0
 .obtain⟨hw,hl⟩:=qm F;have aa:(aV T l != 0)=false:=bZ' F;have Q:Hid (kL T l=if 4096<((l.flatMap (jJ T)).length:Int)then 7 else 0):=ah (by rw[kL,nN' (by rw[F];simp)]);have HW:=ah hw;have HL:=ah hl;clear F hw hl P;go_wp2;go_loopg[7,19] l.length (λgh s9 ab wx=>VB T K l gh s9 ab wx);exact⟨0,none,0,0,by omega,rfl,rfl,ah (Own.nil_ _ _ _ _),ah eR'⟩;obtain⟨k,A2,p,c2,b1,rfl,rfl,H,R⟩:=hrel;have L:=ah (O.out.trans' R.out);have P:=bT' t L.out;have ac:=ah (HI.out.ext L.out)
  have S:Hid (((l.take k).flatMap (jJ T)).length<=18*4096):=ah (by
   have h1:=Ep (VA HW.out) (l.take k);rw[List.length_take]at h1;have:=HL.out
   omega)
  have C:=ah (aK.ints H.out).len.1;by_cases U:k<l.length
  .obtain⟨I,rfl⟩:=gS' gk;obtain⟨b,o,rfl,b3⟩:=ac.out.at_ U;have D:=ah (Ai (jJ T) l k U);have h:Hid (jJ T l[k]=if ug T l[k]=true then[]else if aJ T.eG l[k]=[]then[l[k]]else aJ T.eG l[k]):=rfl;have ad:=ah (Hg HW.out l[k]);generalize l[k]=x at*;have b4:=z0' k;have b5:(k:Int)<(l.length:Int):=(by omega);have b6:l.length<=4096:=HL.out;go_wp2_with fail;refine(aYP t T x wr (HT.out.aB L.out)).mono ?_;rintro e w3⟨A3,J,c3,rfl,V,q⟩;have ae:=ah (R.out.trans' q);have dM:=ah (Own.ext H.out q);have gV:=bT' t (L.out.trans' q);have lM:=ah (L.out.trans' q);have W:=ah (V);clear q P V;go_wp2_with fail;refine(Ot t T x w3 (HT.out.aB lM.out)).mono ?_;rintro e w4⟨rfl,i⟩;have s:=ah (ae.out.trans' i);have X:=ah (Own.ext dM.out i);have IQ:=bT' t (lM.out.trans' i);have ba:=ah (lM.out.trans' i);have j:=ah (W.out.ext i);clear i W gV dM;cases Y:ug T x with
   |true=>
    rw[Y]at h;have y:Hid (jJ T x=[]):=ah (h.out.trans (pP' rfl));have Z:Hid (aK w4 K.heap.size A2 p c2 ((l.take (k+1)).flatMap (jJ T))):=ah (by rw[D.out,y.out,List.append_nil];exact X.out);clear h IQ j;go_wp2;go_roundg I;exact⟨k+1,A2,p,c2,by omega,by go_num,rfl,Z,s⟩;omega
   |false=>
    rw[Y,nN' (by simp)]at h;have yP:=h;clear h;by_cases m:aJ T.eG x=[]
    .have y:Hid (jJ T x=[x]):=ah (yP.out.trans (pP' m));have E:J=0:=(by have:=j.out.len.1;rw[m]at this;exact this);have z:Ext w4 (w4.alloc (.cells #[.int .i64 x] 3)):=eR'.ay _;obtain⟨A5,c5,w5,f,d,g,jL⟩:=fQ (Own.ext X.out z) (iJ w4 x) (by have:=S.out;have:=C.out;omega) (s.out.trans' z).b.size;have Z:Hid (aK w5 K.heap.size A5 (p+1) c5 ((l.take (k+1)).flatMap (jJ T))):=ah (by rw[D.out,y.out];exact d);have bH:Hid (Ext K w5):=ah (dV (s.out.trans' z) g (λk hk=>(Own.lt (Own.ext X.out z) k hk).1));clear d g jL z m yP j;subst E;go_wp2_with(at_builtin;refine dA rfl _ _ _ rfl _ _ rfl rfl _ _ f ?_);clear f;go_roundg I;exact⟨k+1,A5,p+1,c5,by omega,by go_num,rfl,Z,bH⟩;omega
    .have y:=ah (yP.out.trans (nN' m));have E:0<J:=by
      have:=j.out.len.1;cases hq:aJ T.eG x with
      |nil=>exact absurd hq m
      |cons a r=>rw[hq]at this;simp only[List.length_cons]at this;omega
     have d3:decide (0<J)=true:=dt' E;have EC:J<=18:=(by have h7:J=_:=j.out.len.1;have:=ad.out;omega);obtain⟨A5,c5,w5,f,d,g,jL⟩:=fQ X.out j.out (by have:=S.out;have:=C.out;omega) s.out.b.size;have Z:Hid (aK w5 K.heap.size A5 (p+J) c5 ((l.take (k+1)).flatMap (jJ T))):=ah (by rw[D.out,y.out];exact d);have bH:Hid (Ext K w5):=ah (dV s.out g (λk hk=>(Own.lt X.out k hk).1));clear d g jL m yP EC E;go_wp2_with(at_builtin;refine dA rfl _ _ _ rfl _ _ rfl rfl _ _ f ?_);clear f;go_roundg I;exact⟨k+1,A5,p+J,c5,by omega,by go_num,rfl,Z,bH⟩;omega
  .have HE:Hid ((l.take k).flatMap (jJ T)=l.flatMap (jJ T)):=ah (by rw[tL' (by omega)]);have a3:=N.out.trans' L.out;clear P;by_cases M:4096<((l.flatMap (jJ T)).length:Int)
   .have D:Hid (kL T l=7):=ah (by rw[Q.out,pP' M]);have hd:decide (4096<(p:Int))=true:=(by rw[au,C.out,HE.out];exact M);have ao:decide (4096<p)=true:=(by rw[au];rw[au]at hd;omega);clear M;go_wp2;go_ret2;exact⟨none,0,0,by rw[D.out];rfl,a3,by rw[qH,D.out,nN' (by decide)];exact aC.nil_ _⟩
   .have D:Hid (kL T l=0):=ah (by rw[Q.out,nN' M]);have hd:decide (4096<(p:Int))=false:=(by rw[aA,C.out,HE.out];exact M);have ao:decide (4096<p)=false:=(by rw[aA];rw[aA]at hd;omega);have ap:Hid (aC wr ⟨A2,p,c2⟩ (l.flatMap (jJ T))):=ah (by rw[<- HE.out];exact aK.ints H.out);clear M;go_wp2;go_ret2;exact⟨A2,p,c2,by rw[D.out];rfl,a3,by rw[qH,D.out,pP' rfl];exact ap.out⟩
 .have aa:(aV T l != 0)=true:=bN' F
  have HZ:Hid (kL T l=aV T l/\kL T l≠0):=ah (by
   have h1:kL T l=aV T l:=by rw[kL,pP' F]
   exact⟨h1,by rw[h1];exact F⟩)
  have hb:=N.out.trans' O.out;clear F P;go_wp2;go_ret2;exact⟨none,0,0,by rw[HZ.out.1];rfl,hb,by rw[qH,nN' HZ.out.2];exact aC.nil_ _⟩
theorem Tc(b:Int):∀(ds:List (Option Int))(j v w x:Int)(r:List (Option Int)),jl b ds j v w=some (x,r)->r.length<ds.length
 |[],_,_,_,_,_,h=>by cases h
 |none::_,_,_,_,_,_,h=>by cases h
 |some d::ds,j,v,w,x,r,h=>by
  unfold jl at h;split at h
  .injection h with h;injection h with _ h;subst h;simp
  .have:=Tc b ds _ _ _ _ _ h;simp only[List.length_cons];omega
theorem SY:∀(g:Nat)(ds:List (Option Int))(o:List Int)(n i b:Int)(f:Bool)(l:List Int),0<=i->decP g ds o n i b f=.ok l->l.length<=o.length+ds.length
 |0,_,o,_,_,_,_,l,_,h=>by
  unfold decP at h;injection h with h;subst h;omega
 |g+1,ds,o,n,i,b,f,l,hi,h=>by
  by_cases a:ds=[]
  .subst a;unfold decP at h;injection h with h;subst h;simp
  .rw[KI a]at h;split at h
   .cases h
   .rename_i v r c;have j:=Tc b ds 0 0 1 v r c;split at h
    .cases h
    .split at h
     .cases h
     .have k:=Int.emod_nonneg (v+i) (b:=(o.length:Int)+1) (by omega);have d:=Int.emod_lt_of_pos (v+i) (b:=(o.length:Int)+1) (by omega);have:=SY g r _ _ _ _ _ l (by omega) h;rw[AP _ _ _ (by omega)]at this;omega
theorem LJ(s:List Int):(pdU s).1.length<=s.length:=by
 unfold pdU;split
 .simp
 .split
  .simp
  .cases a:decP (pz s).length ((pz s).map fF) (s.take (hyB s)) 128 0 72 true with
   |Cc=>simp[resD]
   |over=>simp[resD]
   |ok l=>
    have h:=SY _ _ _ _ _ _ _ l (by omega) a;simp only[resD];unfold pz at h;split at h
    .rename_i b;rw[b]at h;simpa using h
    .simp at h;omega
theorem Ti:IsB (alE l).1:=by
 unfold alE;split
 .exact tZ
 .split
  .rename_i b;split
   .exact tZ
   .intro x a;have:=Em b x a;omega
  .split
   .exact tZ
   .rename_i c;split
    .exact tZ
    .exact OW (by intro x a;simp at a;omega) (SI l (by omega))
def aMe(w1:World)(s:List Int)(g:Nat)(so si:Value)(wx:World):Prop:=
 ∃(A:Option Addr)(c k:Nat),g+k=s.length/\si=.int .i64 k/\so=.slice A k c/\aK wx w1.heap.size A k c (s.take k)/\Ext w1 wx/\Hid ((s.take k).any (λb=>decide (127<b))=false)
theorem aMi(s:List Int)(hs:IsB s)(hm:s.length<=1000000)(w:World):Calls prog 188 #[.string (sB s)] w (Cj w (alD s)):=by
 have d:Hid (alD s=if s.length=0 then([],10)else if s.any (λb=>decide (127<b))then([],12)else if 63<s.length then([],11)else if isX s=false then(s,0)
  else if(pdU (fK (s.drop 4))).2≠0 then([],(pdU (fK (s.drop 4))).2)else if jG (pdU (fK (s.drop 4))).1=true then([],12)
  else if(alE (pdU (fK (s.drop 4))).1).2≠0\/(alE (pdU (fK (s.drop 4))).1).1≠fK s then([],12)else((pdU (fK (s.drop 4))).1,0)):=rfl
 have p:=ah hs;generalize alD s=D at*;clear hs;have r:=sO s;by_cases I:s.length=0
 .rw[pP' I]at d;rw[List.eq_nil_of_length_eq_zero I,show([]:List Int).isEmpty=true from rfl]at r;rw[List.eq_nil_of_length_eq_zero I];clear I;go_enter func188,ntmps188;go_wp2;go_ret2;exact⟨none,0,0,by rw[d.out];rfl,by rw[d.out];exact aC.nil_ w,eR'⟩
 rw[nN' I]at d;rw[show s.isEmpty=false from by cases s with|nil=>exact absurd rfl I|cons a b=>rfl]at r;obtain⟨cc,w1,ac,K,L,_⟩:=FT (w:=w) p.out (by omega);have ad:=ah K;have M:=ah L;go_enter func188,ntmps188;go_wp2_with fail;clear r ac K L;go_loopg[4,15] s.length (λgh so si wx=>aMe w1 s gh so si wx);exact⟨none,0,0,by omega,rfl,rfl,Own.nil_ _ _ _ _,eR',rfl⟩;obtain⟨A,c,k,hg,rfl,rfl,o,N,O⟩:=hrel;have HO:=ah o;have Q:=ah N;clear o N;by_cases J:k<s.length
 .have hr:=wH p.out k;obtain⟨b',o',hA,ag⟩:=(ad.out.ext Q.out).at_ J;injection hA with hA;injection hA with e1 e2;subst e1 e2;rw[Nat.zero_add,<- getD_lt s k 0 J]at ag;have t:=ah (xC (f:=λb=>decide (127<b)) J);have x:=ah (anyM (f:=λb=>decide (127<b)) J);have HT:Hid (s.take (k+1)=s.take k++[s[k]]):=ah (tS' J);rw[<- getD_lt s k 0 J]at t x HT;generalize s.getD k 0=y at*;by_cases R:127<y
  .have HF:Hid (D=([],12)):=ah (by rw[d.out,pP' (x.out (by simp[R]))]);have g:=M.out.trans' Q.out;go_wp2;go_ret2;exact⟨none,0,0,by rw[HF.out];rfl,by rw[HF.out];exact aC.nil_ _,g⟩
  .have al:Hid ((s.take (k+1)).any (λb=>decide (127<b))=false):=ah (by rw[t.out,O.out];simp;omega);obtain⟨A5,c5,w5,S,i,j,_⟩:=xA HO.out Q.out y (by omega);have bI:Hid (aK w5 w1.heap.size A5 (k+1) c5 (s.take (k+1))):=ah (by rw[HT.out];exact i);have T:=ah j;clear i j O t x HT;go_wp2_with(at_builtin;refine dA rfl _ _ _ rfl _ _ rfl rfl _ _ S ?_);go_roundg (s.length-(k+1));exact⟨A5,c5,k+1,by omega,by go_num,rfl,bI.out,T.out,al⟩;omega
 .have he:s.take k=s:=tL' (by omega);rw[he]at HO O;rw[nN' (by rw[O.out];simp)]at d;have z:=ah (M.out.trans' Q.out);have U:=ah (aK.ints HO.out);have bf:k<=s.length/\s.length<=k:=by omega
  clear O HO he Q;generalize wr=w3 at*;by_cases V:63<s.length
  .rw[pP' V]at d;have g:=z.out;go_wp2;go_ret2;exact⟨none,0,0,by rw[d.out];rfl,by rw[d.out];exact aC.nil_ _,g⟩
  rw[nN' V]at d;have B:=ah (SN s p.out w3);obtain⟨X,hX⟩:=eY' (isX s)
  have jC:Hid (X=true->4<=s.length):=ah (by
   intro h;rw[<- hX]at h;unfold isX at h;rw[aT]at h
   exact of_decide_eq_true h.1)
  rw[hX]at d B;clear hX;go_wp2_with fail;refine B.out.mono ?_;rintro e w4⟨rfl,C⟩;have T:=ah (z.out.trans' C);have Af:=ah (U.out.ext C);clear B C z U;cases X
  .rw[pP' rfl]at d;have g:=T.out;have hi:=Af.out;go_wp2;go_ret2;exact⟨A,_,c,by rw[d.out];rfl,by rw[d.out];exact hi,g⟩
  rw[nN' (by simp)]at d;have h4:=jC.out rfl;have Y:∀W,(Instr.slice 9 (.string (sB s)) (some (.int .i64 4)) none none).run prog W=.ok (.string (sB (s.drop 4))) W:=λW=>BP W (l:=s) (k:=4) h4
  have Z:(s.drop 4).length<=63:=by rw[List.length_drop];omega
  have a0:=ah (LC (s.drop 4) (zB p.out 4) (by omega) w4);have En:=ah (λW=>LC s p.out (by omega) W);have ap:=ah (CG (zB p.out 4));have a1:=ah (LJ (fK (s.drop 4)));have bj:(fK (s.drop 4)).length<=63:=by rw[Cm];exact Z
  have a2:=ah (λW=>aJw (fK (s.drop 4)) ap.out W);have aq:=ah (CG p.out);clear jC Z;generalize s.drop 4=s4 at*;generalize fK s4=u at*;generalize fK s=sl at*;go_wp2_with fail;refine a0.out.mono ?_;rintro e w5⟨rfl,j⟩;have eY:=ah (T.out.trans' j);clear a0 j T Af Y;go_wp2_with fail;refine(a2.out w5).mono ?_;rintro e w6⟨A6,n6,c6,rfl,qy,a3⟩;have pY:=ah (eY.out.trans' a3);have az:=a1.out;generalize pdU u=P at*;obtain⟨q,pe⟩:=P;simp only at d qy az;have aD:=qy.len.1;subst aD;have qA:=ah qy;clear eY a3 qy a2 a1;by_cases F:pe=0
  case neg=>
   rw[pP' F]at d;have g:=pY.out;go_wp2;go_ret2;exact⟨none,0,0,by rw[d.out];rfl,by rw[d.out];exact aC.nil_ _,g⟩
  rw[nN' (by rw[F];simp)]at d;subst F;have a4:=ah (λW(h:Ext w6 W)=>LG q A6 q.length c6 W (qA.out.ext h));have a5:=ah (SQ q A6 q.length c6 w6 qA.out (by omega));have a6:=ah (Ti q);generalize jG q=av at*;generalize alE q=E at*;obtain⟨ae,ee⟩:=E;simp only at d a6;have a7:=rJ a6.out aq.out;go_wp2_with fail;refine(a4.out w6 eR').mono ?_;rintro e w'⟨rfl,rfl⟩;cases av
  case true=>
   rw[pP' rfl]at d;have g:=pY.out;go_wp2;go_ret2;exact⟨none,0,0,by rw[d.out];rfl,by rw[d.out];exact aC.nil_ _,g⟩
  rw[nN' (by simp)]at d;go_wp2_with fail;refine a5.out.mono ?_;rintro e w7⟨rfl,G⟩;have rV:=ah (pY.out.trans' G);have aL:=ah (qA.out.ext G);clear pY G qA a5 a4;by_cases H:ee=0
  case neg=>
   rw[pP' (.inl H)]at d;have bm:(ee != 0)=true:=bN' H;have g:=rV.out;go_wp2;go_ret2;exact⟨none,0,0,by rw[d.out];rfl,by rw[d.out];exact aC.nil_ _,g⟩
  subst H;by_cases m:ae=sl
  .rw[nN' (by simp[m])]at d;rw[dt' m]at a7;go_wp2_with fail;refine(En.out _).mono ?_;rintro e w8⟨rfl,n⟩;have g:=rV.out.trans' n;have hi:=aL.out.ext n;go_wp2;go_ret2;exact⟨A6,_,c6,by rw[d.out];rfl,by rw[d.out];exact hi,g⟩
  .rw[pP' (.inr m)]at d;rw[df' m]at a7;go_wp2_with fail;refine(En.out _).mono ?_;rintro e w8⟨rfl,n⟩;have g:=rV.out.trans' n;go_wp2;go_ret2;exact⟨none,0,0,by rw[d.out];rfl,by rw[d.out];exact aC.nil_ _,g⟩
def aMd(w1:World)(s:List Int)(g:Nat)(so si:Value)(wx:World):Prop:=
 ∃(A:Option Addr)(c k:Nat),g+k=s.length/\si=.int .i64 k/\so=.slice A k c/\aK wx w1.heap.size A k c (s.take k)/\Ext w1 wx/\Hid ((s.take k).any (λb=>decide (127<b))=false)
theorem aMh(s:List Int)(hs:IsB s)(hm:s.length<=1000000)(w:World):Calls prog 150 #[.string (sB s)] w (Cj w (alD s)):=by
 have d:Hid (alD s=if s.length=0 then([],10)else if s.any (λb=>decide (127<b))then([],12)else if 63<s.length then([],11)else if isX s=false then(s,0)
  else if(pdU (fK (s.drop 4))).2≠0 then([],(pdU (fK (s.drop 4))).2)else if jG (pdU (fK (s.drop 4))).1=true then([],12)
  else if(alE (pdU (fK (s.drop 4))).1).2≠0\/(alE (pdU (fK (s.drop 4))).1).1≠fK s then([],12)else((pdU (fK (s.drop 4))).1,0)):=rfl
 have r:=ah hs;generalize alD s=D at*;clear hs;have t:=sO s;by_cases I:s.length=0
 .rw[pP' I]at d;rw[List.eq_nil_of_length_eq_zero I,show([]:List Int).isEmpty=true from rfl]at t;rw[List.eq_nil_of_length_eq_zero I];clear I;go_enter func150,ntmps150;go_wp2;go_ret2;exact⟨none,0,0,by rw[d.out];rfl,by rw[d.out];exact aC.nil_ w,eR'⟩
 rw[nN' I]at d;rw[show s.isEmpty=false from by cases s with|nil=>exact absurd rfl I|cons a b=>rfl]at t;have J:Hid (Ext w w):=ah eR';go_enter func150,ntmps150;go_wp2_with fail;clear t;go_loopg[4,5] s.length (λgh so si wx=>aMd w s gh so si wx);exact⟨none,0,0,by omega,rfl,rfl,Own.nil_ _ _ _ _,eR',rfl⟩;obtain⟨A,c,k,hg,rfl,rfl,p,K,L⟩:=hrel;have HO:=ah p;have HX:=ah K;clear p K;by_cases M:k<s.length
 .have hr:=wH r.out k;have b6:∀W,(Instr.index 9 (.string (sB s)) (.int .i64 (k:Int))).run prog W=.ok (.int .u8 (s.getD k 0)) W:=ixc r.out M;have x:=ah (xC (f:=λb=>decide (127<b)) M);have z:=ah (anyM (f:=λb=>decide (127<b)) M);have HT:Hid (s.take (k+1)=s.take k++[s[k]]):=ah (tS' M);rw[<- getD_lt s k 0 M]at x z HT;generalize s.getD k 0=y at*;by_cases N:127<y
  .have HF:Hid (D=([],12)):=ah (by rw[d.out,pP' (z.out (by simp[N]))]);have g:=J.out.trans' HX.out;go_wp2;go_ret2;exact⟨none,0,0,by rw[HF.out];rfl,by rw[HF.out];exact aC.nil_ _,g⟩
  .have ab:Hid ((s.take (k+1)).any (λb=>decide (127<b))=false):=ah (by rw[x.out,L.out];simp;omega);obtain⟨A5,c5,w5,O,i,j,_⟩:=xA HO.out HX.out y (by omega);have bI:Hid (aK w5 w.heap.size A5 (k+1) c5 (s.take (k+1))):=ah (by rw[HT.out];exact i);have Q:=ah j;clear i j L x z HT;go_wp2_with(at_builtin;refine dA rfl _ _ _ rfl _ _ rfl rfl _ _ O ?_);go_roundg (s.length-(k+1));exact⟨A5,c5,k+1,by omega,by go_num,rfl,bI.out,Q.out,ab⟩;omega
 .have he:s.take k=s:=tL' (by omega);rw[he]at HO L;rw[nN' (by rw[L.out];simp)]at d;have B:=ah (J.out.trans' HX.out);have R:=ah (aK.ints HO.out);have b8:k<=s.length/\s.length<=k:=by omega
  clear L HO he HX;generalize wr=w3 at*;by_cases S:63<s.length
  .rw[pP' S]at d;have g:=B.out;go_wp2;go_ret2;exact⟨none,0,0,by rw[d.out];rfl,by rw[d.out];exact aC.nil_ _,g⟩
  rw[nN' S]at d;have C:=ah (SL s r.out w3);obtain⟨X,hX⟩:=eY' (isX s)
  have jC:Hid (X=true->4<=s.length):=ah (by
   intro h;rw[<- hX]at h;unfold isX at h;rw[aT]at h
   exact of_decide_eq_true h.1)
  rw[hX]at d C;clear hX;go_wp2_with fail;refine C.out.mono ?_;rintro e w4⟨rfl,F⟩;have Q:=ah (B.out.trans' F);have Af:=ah (R.out.ext F);clear C F B R;cases X
  .rw[pP' rfl]at d;have g:=Q.out;have hi:=Af.out;go_wp2;go_ret2;exact⟨A,_,c,by rw[d.out];rfl,by rw[d.out];exact hi,g⟩
  rw[nN' (by simp)]at d;have h4:=jC.out rfl;have T:∀W,(Instr.slice 9 (.string (sB s)) (some (.int .i64 4)) none none).run prog W=.ok (.string (sB (s.drop 4))) W:=λW=>BP W (l:=s) (k:=4) h4
  have U:(s.drop 4).length<=63:=by rw[List.length_drop];omega
  have V:=ah (Ls (s.drop 4) (zB r.out 4) (by omega) w4);have En:=ah (λW=>Ls s r.out (by omega) W);have ag:=ah (CG (zB r.out 4));have Y:=ah (LJ (fK (s.drop 4)));have bb:(fK (s.drop 4)).length<=63:=by rw[Cm];exact U
  have Z:=ah (λW=>aKV (fK (s.drop 4)) ag.out W);have ai:=ah (CG r.out);clear jC U;generalize s.drop 4=s4 at*;generalize fK s4=u at*;generalize fK s=sl at*;go_wp2_with fail;refine V.out.mono ?_;rintro e w5⟨rfl,j⟩;have eY:=ah (Q.out.trans' j);clear V j Q Af T;go_wp2_with fail;refine(Z.out w5).mono ?_;rintro e w6⟨A6,n6,c6,rfl,qy,a0⟩;have pY:=ah (eY.out.trans' a0);have ao:=Y.out;generalize pdU u=P at*;obtain⟨q,pe⟩:=P;simp only at d qy ao;have ap:=qy.len.1;subst ap;have qA:=ah qy;clear eY a0 qy Z Y;by_cases G:pe=0
  case neg=>
   rw[pP' G]at d;have g:=pY.out;go_wp2;go_ret2;exact⟨none,0,0,by rw[d.out];rfl,by rw[d.out];exact aC.nil_ _,g⟩
  rw[nN' (by rw[G];simp)]at d;subst G;have a1:=ah (λW(h:Ext w6 W)=>LD q A6 q.length c6 W (qA.out.ext h));have a2:=ah (Td q A6 q.length c6 w6 qA.out (by omega));have a3:=ah (Ti q);generalize jG q=av at*;generalize alE q=E at*;obtain⟨ae,ee⟩:=E;simp only at d a3;have a4:=rJ a3.out ai.out;go_wp2_with fail;refine a2.out.mono ?_;rintro e w7⟨rfl,m⟩;have rV:=ah (pY.out.trans' m);have aq:=ah (qA.out.ext m);have ar:=ah (a1.out w7 m);clear pY m qA a2 a1;go_wp2_with fail;refine ar.out.mono ?_;rintro e w'⟨rfl,rfl⟩;cases av
  case true=>
   rw[pP' rfl]at d;have g:=rV.out;go_wp2;go_ret2;exact⟨none,0,0,by rw[d.out];rfl,by rw[d.out];exact aC.nil_ _,g⟩
  rw[nN' (by simp)]at d;by_cases H:ee=0
  case neg=>
   rw[pP' (.inl H)]at d;have bf:(ee != 0)=true:=bN' H;have g:=rV.out;go_wp2;go_ret2;exact⟨none,0,0,by rw[d.out];rfl,by rw[d.out];exact aC.nil_ _,g⟩
  subst H;by_cases n:ae=sl
  .rw[nN' (by simp[n])]at d;rw[dt' n]at a4;go_wp2_with fail;refine(En.out _).mono ?_;rintro e w8⟨rfl,o⟩;have g:=rV.out.trans' o;have hi:=aq.out.ext o;go_wp2;go_ret2;exact⟨A6,_,c6,by rw[d.out];rfl,by rw[d.out];exact hi,g⟩
  .rw[pP' (.inr n)]at d;rw[df' n]at a4;go_wp2_with fail;refine(En.out _).mono ?_;rintro e w8⟨rfl,o⟩;have g:=rV.out.trans' o;go_wp2;go_ret2;exact⟨none,0,0,by rw[d.out];rfl,by rw[d.out];exact aC.nil_ _,g⟩
noncomputable def nX(l:List Int):List Int×Int:=if(jG l&&isX l)=true then alD l else(l,0)
noncomputable def gY(T:ak)(l:List Int):List Int×Int:=if(nX l).2≠0 then([],(nX l).2)else if gU T (nX l).1≠0 then([],gU T (nX l).1)else((nX l).1,0)
theorem UU{l:List Int}(h:jG l=true):∀c∈l,0<=c/\c<=127:=by
 intro c a;unfold jG at h;rw[Bool.not_eq_true',List.any_eq_false]at h;have:=h c a;simp only[oT',au]at this;omega
theorem MF{l:List Int}(h:jG l=true):IsB l:=λc a=>by
 have:=UU h c a;omega
theorem UR:∀{l:List Int},(∀c∈l,0<=c/\c<=127)->lN l=l
 |[],_=>rfl
 |x::r,h=>by
  have a:=UR λc b=>h c (List.mem_cons_of_mem _ b)
  have d:=h x (List.mem_cons_self ..);show enc1 x++lN r=x::r
  rw[a,enc1,pP' d.2];rfl
theorem aQw{l:List Int}(h:jG l=true)(i:l.length<=4096):mQ l=(l,0):=by
 have a:=UU h;unfold mQ;rw[nN' (by omega),nN',UR a];intro b;rw[List.any_eq_true]at b;obtain⟨c,f,d⟩:=b;have:=a c f;have g:bn c=true:=by simp only[bn,aT,oT',au];omega
 rw[g]at d;cases d
theorem aR3(ht:aS w t T)(O:aC w ⟨A,n,c⟩ l)(Z:l.length<=4096):
 Calls prog 120 #[t.v,.slice A n c] w (Cj w (gY T l)):=by
 have s:=cO w t;have G:=ah s;have HT:=ah (ht.aB s);have R:=ah (O.ext s);have P:=ah (LG l A n c _ R.out);have C:Hid (gY T l=if(nX l).2≠0 then([],(nX l).2)else if gU T (nX l).1≠0 then([],gU T (nX l).1)else((nX l).1,0)):=rfl;have i:Hid (nX l=if(jG l&&isX l)=true then alD l else(l,0)):=rfl;generalize gY T l=D at*;generalize nX l=E at*;have L:Hid (∀b,Ext (tW' w t) b->cE' 189 #[t.v,.slice A n c] b (.int .i64 (gU T l))):=ah (λb h=>VY T t l A n c b (HT.out.aB h) (R.out.ext h));cases F:jG l
 .rw[F]at P;have K:=ah (i.out.trans (by rw[F];rfl:_=(l,(0:Int))));have q:=C;rw[K.out]at q;have j:Hid (D=if gU T l≠0 then([],gU T l)else(l,0)):=ah q.out;clear ht O s Z F q C i K;generalize gU T l=v at*;go_enter func120,ntmps120;go_wp2_with fail;refine P.out.mono ?_;rintro e w0⟨rfl,rfl⟩;go_wp2_with fail;refine(L.out _ eR').mono ?_;rintro e w4⟨rfl,a⟩;have y:=ah (R.out.ext a);have r:=G.out.trans' a;clear a;by_cases f:v=0
  .have g:=ah (j.out.trans (nN' (by rw[f];simp)));have Q:(v != 0)=false:=bZ' f;clear f;go_wp2;go_ret2;exact⟨A,n,c,by rw[g.out];rfl,by rw[g.out];exact y.out,r⟩
  .have g:=ah (j.out.trans (pP' f));have Q:(v != 0)=true:=bN' f;clear f;go_wp2;go_ret2;exact⟨none,0,0,by rw[g.out];rfl,by rw[g.out];exact aC.nil_ _,r⟩
 .rw[F]at P;have X:=ah (uenc_spec l A n c (tW' w t) R.out);rw[aQw F Z]at X;have S:Hid (∀b:World,cE' 187 #[.string (sB l)] b (.bool (isX l))):=ah λb=>SN l (MF F) b
  have M:Hid (∀b:World,Calls prog 188 #[.string (sB l)] b (Cj b (alD l))):=ah λb=>aMi l (MF F) (by omega) b
  rw[F]at i;cases r:isX l
  .rw[r]at S i;have K:=ah (i.out.trans (by rfl:_=(l,(0:Int))));have q:=C;rw[K.out]at q;have j:Hid (D=if gU T l≠0 then([],gU T l)else(l,0)):=ah q.out;clear ht O s Z F q C i K r M;generalize gU T l=v at*;go_enter func120,ntmps120;go_wp2_with fail;refine P.out.mono ?_;rintro e w0⟨rfl,rfl⟩;go_wp2_with fail;refine(X.out).mono ?_;rintro e U⟨rfl,o⟩;go_wp2_with fail;refine(S.out U).mono ?_;rintro e V⟨rfl,p⟩;have H:=ah (o.trans' p);have rT:=bT' t H.out;clear o p;go_wp2_with fail;refine(L.out V H.out).mono ?_;rintro e w4⟨rfl,a⟩;have y:=ah (R.out.ext (H.out.trans' a));have r:=G.out.trans' (H.out.trans' a);clear a rT;by_cases f:v=0
   .have g:=ah (j.out.trans (nN' (by rw[f];simp)));have Q:(v != 0)=false:=bZ' f;clear f;go_wp2;go_ret2;exact⟨A,n,c,by rw[g.out];rfl,by rw[g.out];exact y.out,r⟩
   .have g:=ah (j.out.trans (pP' f));have Q:(v != 0)=true:=bN' f;clear f;go_wp2;go_ret2;exact⟨none,0,0,by rw[g.out];rfl,by rw[g.out];exact aC.nil_ _,r⟩
  .rw[r]at S i;have K:=ah (i.out.trans (by rfl:_=alD l));rw[K.out]at C;clear ht O s Z F i K r L;generalize alD l=Y at*;obtain⟨m,ev⟩:=Y;simp only[]at C;by_cases I:ev=0
   .subst I;have j:Hid (D=if gU T m≠0 then([],gU T m)else(m,0)):=ah C.out;have a2:Hid (∀B k d b,Ext (tW' w t) b->aC b ⟨B,k,d⟩ m->cE' 189 #[t.v,.slice B k d] b (.int .i64 (gU T m))):=ah (λB k d b h O=>VY T t m B k d b (HT.out.aB h) O);generalize gU T m=v at*;clear C;go_enter func120,ntmps120;go_wp2_with fail;refine P.out.mono ?_;rintro e w0⟨rfl,rfl⟩;go_wp2_with fail;refine(X.out).mono ?_;rintro e U⟨rfl,o⟩;go_wp2_with fail;refine(S.out U).mono ?_;rintro e V⟨rfl,p⟩;go_wp2_with fail;refine(M.out V).mono ?_;rintro e w3⟨B,k,d,rfl,J,z⟩;have N:Hid (Ext (tW' w t) w3):=ah ((o.trans' p).trans' z);have W:=ah J;have rT:=bT' t N.out;clear o p z J;go_wp2_with fail;refine(a2.out B k d w3 N.out W.out).mono ?_;rintro e w4⟨rfl,a⟩;have y:=ah (W.out.ext a);have r:=(G.out.trans' N.out).trans' a;clear a rT;by_cases f:v=0
    .have g:=ah (j.out.trans (nN' (by rw[f];simp)));have Q:(v != 0)=false:=bZ' f;clear f;go_wp2;go_ret2;exact⟨B,k,d,by rw[g.out];rfl,by rw[g.out];exact y.out,r⟩
    .have g:=ah (j.out.trans (pP' f));have Q:(v != 0)=true:=bN' f;clear f;go_wp2;go_ret2;exact⟨none,0,0,by rw[g.out];rfl,by rw[g.out];exact aC.nil_ _,r⟩
   .have g:=ah (C.out.trans (pP' I));have Q:(ev != 0)=true:=bN' I;clear I C;go_enter func120,ntmps120;go_wp2_with fail;refine P.out.mono ?_;rintro e w0⟨rfl,rfl⟩;go_wp2_with fail;refine(X.out).mono ?_;rintro e U⟨rfl,o⟩;go_wp2_with fail;refine(S.out U).mono ?_;rintro e V⟨rfl,p⟩;go_wp2_with fail;refine(M.out V).mono ?_;rintro e w3⟨B,k,d,rfl,J,z⟩;have r:=((G.out.trans' o).trans' p).trans' z;clear o p z J;go_wp2;go_ret2;exact⟨none,0,0,by rw[g.out];rfl,by rw[g.out];exact aC.nil_ _,r⟩
theorem aQW(ks:List Int)(b:ks.length<=1000):aC (w.alloc (.cells (ks.map (Value.int .i64)).toArray 3)) ⟨some ⟨w.heap.size,0,none⟩,ks.length,ks.length⟩ ks:=by
 refine⟨⟨rfl,lr' _,by simp only[maxLen];omega⟩,λi y a=>⟨w.heap.size,0,rfl,?_⟩⟩;rw[Nat.zero_add,aP eR' i];simp[a]
theorem MC{T:ak}(h:bV T=true):nH T.bT:=aOB (UC h)
theorem take_any{T:ak}{ks:List Int}(l:List Int)(k:Nat)(a:k<l.length):dJ ks (bW T (l.take (k+1)))=(dJ ks (bW T (l.take k))||ks.any λy=>y==fM T l[k]):=by
 rw[GU T l k a,aQ3]
theorem aQL{T:ak}{ks:List Int}{l:List Int}{k j:Nat}(a:k<l.length)(b:j<ks.length)(h:fM T l[k]=ks[j]):dJ ks (bW T l)=true:=by
 unfold dJ;rw[List.any_eq_true];exact⟨fM T l[k],List.mem_map.2 ⟨_,gM' a,rfl⟩,List.any_eq_true.2 ⟨ks[j],gM' b,by rw[h];simp⟩⟩
def AnL(T:ak)(w0:World)(ks l:List Int)(gh:Nat)(s13:Value)(wx:World):Prop:=
 ∃(k:Nat),k+gh=l.length/\s13=.int .i64 k/\Hid (dJ ks (bW T (l.take k))=false)/\Hid (Ext w0 wx)
def aQb(w0:World)(ks:List Int)(q:Int)(gh:Nat)(Aa:Value)(wx:World):Prop:=
 ∃(j:Nat),j+gh=ks.length/\Aa=.int .i64 j/\Hid (((ks.take j).any λy=>y==q)=false)/\Hid (Ext w0 wx)
theorem aQX(l ks:List Int)(A:Option Addr)(n c:Nat)(K:Option Addr)(m d:Nat)(w:World)(ht:aS w t T)(X:aC w ⟨A,n,c⟩ l)(hw:bV T=true)(hm:l.length<=4096)(Y:aC w ⟨K,m,d⟩ ks)(F:ks.length<=4096):
 cE' 267 #[t.v,.slice A n c,.slice K m d] w (.bool (dJ ks (bW T l))):=by
 have g:=cO w t;have p:=ah g;have HT:=ah (ht.aB g);have HI:=ah (X.ext g);have HK:=ah (Y.ext g);have HW:=ah hw;have HM:=ah hm;have G:=ah F;have hn:=X.len.1;subst hn;have H:=Y.len.1;subst H;clear ht X g hw hm Y F;go_enter func267,ntmps267;go_wp2;go_loopg[13] l.length (λI J L=>AnL T (tW' w t) ks l I J L);exact⟨0,by omega,rfl,ah rfl,ah eR'⟩;obtain⟨k,aa,rfl,Z,M⟩:=hrel;have f:=p.out.trans' M.out;have ab:l.length<=4096:=HM.out;have ac:ks.length<=4096:=G.out;by_cases r:k<l.length
 .obtain⟨N,rfl⟩:=gS' gk;obtain⟨b,o,rfl,ad⟩:=(HI.out.ext M.out).at_ r;have P:=ah (take_any (T:=T) (ks:=ks) l k r);have D:Hid (∀j,(B:j<ks.length)->fM T l[k]=ks[j]->dJ ks (bW T l)=true):=ah (λj B h=>aQL r B h);generalize l[k]=x at*;have HC:Hid (∀w',Ext (tW' w t) w'->cE' 269 #[t.v,.int .i64 x] w' (.int .i64 (fM T x))):=ah (λw' h=>LQ t T x w' (HT.out.aB h) (MC HW.out));generalize fM T x=q at*;have ae:=z0' k;have af:(k:Int)<(l.length:Int):=by omega
  clear f;go_wp2_with fail;rename_i ag;go_loopg[19] ks.length (λI Aa L=>aQb (tW' w t) ks q I Aa L);exact⟨0,by omega,rfl,ah rfl,M⟩;obtain⟨j,al,rfl,s,a⟩:=hrel;have f:=p.out.trans' a.out;have R:=bT' t a.out;by_cases B:j<ks.length
  .obtain⟨S,rfl⟩:=gS' gk;obtain⟨b2,o2,rfl,am⟩:=(HK.out.ext a.out).at_ B;have E:=ah (MG (λy=>y==q) ks j B);have z:=ah (D.out j B);generalize ks[j]=y at*;have an:=z0' j;have ao:(j:Int)<(ks.length:Int):=(by omega);by_cases C:q=y
   .have e1:(q==y)=true:=(by rw[bq'];exact C);have HV:=ah (z.out C);clear C z D f;go_wp2_with fail;refine(HC.out _ a.out).mono ?_;rintro e w3⟨rfl,i⟩;have hx:=(p.out.trans' a.out).trans' i;clear R i;go_wp2;go_ret;exact⟨by rw[HV.out];rfl,hx⟩
   .have e1:(q==y)=false:=(by rw[aH];exact C);have U:Hid (((ks.take (j+1)).any λy=>y==q)=false):=ah (by rw[E.out,s.out,Bool.false_or,aH];exact λh=>C h.symm);clear C z E s f;go_wp2_with fail;refine(HC.out _ a.out).mono ?_;rintro e w3⟨rfl,i⟩;have V:=ah (a.out.trans' i);clear R i;go_wp2;go_roundg S;exact⟨j+1,by omega,by go_num,U,V⟩;omega
  .have W:Hid (dJ ks (bW T (l.take (k+1)))=false):=ah (by
    have h1:=s.out;rw[tL' (by omega)]at h1;rw[P.out,Z.out,Bool.false_or]
    exact h1)
   clear R f;go_wp2;go_roundg N;exact⟨k+1,by omega,by go_num,W,a⟩;omega
 .have HE:Hid (dJ ks (bW T l)=false):=ah (by rw[<- Z.out,tL' (by omega)]);go_wp2;go_ret;exact⟨by rw[HE.out];rfl,f⟩
def RlL(T:ak)(w0:World)(l:List Int)(gh:Nat)(s5 s11:Value)(wx:World):Prop:=
 ∃(k:Nat),k+gh=l.length/\s11=.int .i64 k/\s5=.int .i64 (lastB (bW T (l.take k)))/\Hid (Ext w0 wx)
theorem aQS(ht:aS w t T)(B:aC w ⟨A,n,c⟩ l)(D:bV T=true)(E:l.length<=4096):
 cE' 268 #[t.v,.slice A n c] w (.int .i64 (lastB (bW T l))):=by
 have f:=cO w t;have s:=ah f;have F:=ah (ht.aB f);have G:=ah (B.ext f);have H:=ah D;have I:=ah E;have J:=B.len.1;subst J;clear ht B f D E;go_enter func268,ntmps268;go_wp2;go_loopg[5,11] l.length (λK L y M=>RlL T (tW' w t) l K L y M);exact⟨0,by omega,rfl,rfl,ah eR'⟩;obtain⟨k,N,rfl,rfl,i⟩:=hrel;have j:=s.out.trans' i.out;have O:l.length<=4096:=I.out;have z:=bT' t i.out;by_cases m:k<l.length
 .obtain⟨p,rfl⟩:=gS' gk;obtain⟨b,o,rfl,Q⟩:=(G.out.ext i.out).at_ m;have r:Hid (lastB (bW T (l.take (k+1)))=if fM T l[k]=10 then lastB (bW T (l.take k))else fM T l[k]):=ah (by rw[GU T l k m,Mc]);generalize l[k]=x at*;have C:=ah (LQ t T x wr (F.out.aB i.out) (MC H.out));generalize fM T x=q at*;have R:=z0' k;have S:(k:Int)<(l.length:Int):=by omega
  clear j;by_cases a:q=10
  .have U:(q != 10)=false:=by rw[a];rfl
   have g:=ah (r.out.trans (pP' a));clear a r;go_wp2_with fail;refine C.out.mono ?_;rintro e V⟨rfl,d⟩;have h:=ah (i.out.trans' d);clear z d;go_wp2;go_roundg p;exact⟨k+1,by omega,by go_num,by rw[g.out],h⟩;omega
  .have U:(q != 10)=true:=bN' a;have g:=ah (r.out.trans (nN' a));clear a r;go_wp2_with fail;refine C.out.mono ?_;rintro e V⟨rfl,d⟩;have h:=ah (i.out.trans' d);clear z d;go_wp2;go_roundg p;exact⟨k+1,by omega,by go_num,by rw[g.out],h⟩;omega
 .have W:Hid (l.take k=l):=ah (tL' (by omega));clear z;go_wp2;go_ret;exact⟨by rw[W.out];rfl,j⟩
end Go.Proofs.YtljilcbobhmkgaaGreatDoor
