/- Part By28. -/
import Derived.Test.YtlmkgaoakcjlnaaGreatDoorBy23
open Go.Proofs.Tryz
namespace Go.Proofs.YtlmkgaoakcjlnaaGreatDoor
set_option maxHeartbeats 25600000
set_option maxRecDepth 100000
open Go.RowKit
variable (T:aj)(t:TV)(l:List Int)(A:Option Addr)(n c:Nat)(w:World)
def oG(T:aj)(l:List Int):Bool:=dY [1,2,3] (dD T l)
def frR(T:aj):Int->List (List Int)->Int
 |_,[]=> -1
 |i,l::r=>if wP (dD T l)≠0 then i else frR T (i+1) r
def sH(T:aj)(ls:List (List Int)):Int:=if ls.any (oG T)=true/\frR T 0 ls≠ -1 then 19 else 0
def wQ(T:aj)(ls:List (List Int)):Int:=if ls.any (oG T)=true/\frR T 0 ls≠ -1 then frR T 0 ls else 0
theorem XR(h:0<l.length):wP (dD T l)=OT (dY [1,2] [gI T l[0]]) (dY [0,11] (dD T l)) (dY [1,2,3,4] (nZ (dD T l))) (dY [4] (dD T l)) (dY [3] (dD T l)) (dY [0] [gI T l[0]]) (dY [1,2,3,11] (dD T l)) (dY [0,4] (nZ (dD T l))):=by
 cases l with
 |nil=>cases h
 |cons a r=>rfl
theorem OU(k m:Int)(a:0<=k)(b:k<=11)(c:((2 ^ k.toNat:Nat):Int)=m):Hid (∀w:World,cW' 237 #[.int .i64 k] w (.int .i64 m)):=ah λw=>by
 have:=Jb k a b w;rwa[c]at this
theorem zK(a m:Int)(b:Bool)(h:(bits .and .i64 a m != 0)=b):Hid (∀w:World,cW' 236 #[.int .i64 a,.int .i64 m] w (.bool b)):=ah λw=>by
 have:=aQ2 a m w;rwa[h]at this
theorem aQG(ht:aW w t T)(V:aF w ⟨A,n,c⟩ l)(hw:dw T=true)(hm:l.length<=4096):
 cE' 162 #[t.v,.slice A n c] w (.int .i64 (wP (dD T l))):=by
 have j:=dG w t;have C:=ah j;have J:=ah (ht.aC j);have O:=ah (V.ext j);have B:=ah hw;have K:=ah hm;have hn:=V.len.1;subst hn;clear ht V j hm hw;by_cases D:0<l.length
 .have m:=ah (XR T l D);have a6:(0:Int)<(l.length:Int):=by omega
  have a7:l.length<=4096:=K.out;have e0:((l.length:Int)==0)=false:=bF';obtain⟨b,o,rfl,r⟩:=O.out.at_ D;rw[Nat.add_zero]at r;have p:=Ja B.out l[0];have s:=ah (OQ B.out l);have E:Hid (∀w',Ext (tW' w t) w'->cE' 238 #[t.v,.int .i64 l[0]] w' (.int .i64 (gI T l[0]))):=ah (λw' h=>OG t T l[0] w' (J.out.aC h) (ou B.out));have F:Hid (∀w',Ext (tW' w t) w'->cE' 235 #[t.v,.slice (some ⟨b,o,none⟩) l.length c] w' (.int .i64 ((jU (dD T l):Nat):Int))):=ah (λw' h=>XO T t l _ _ c w' (J.out.aC h) (O.out.ext h) B.out K.out);have W:Hid (∀w',Ext (tW' w t) w'->cE' 239 #[t.v,.slice (some ⟨b,o,none⟩) l.length c] w' (.int .i64 ((jU (nZ (dD T l)):Nat):Int))):=ah (λw' h=>aQA T t l _ _ c w' (J.out.aC h) (O.out.ext h) B.out K.out);generalize l[0]=x0 at*;generalize gI T x0=q at*;have x:Hid (InB [q]):=ah (by intro y X;rw[List.mem_singleton]at X;subst X;exact p);have G:Hid (∀w',Ext (w.alloc (.cells #[.slice t.s0.a t.s0.n t.s0.c,.slice t.s1.a t.s1.n t.s1.c,.slice t.s2.a t.s2.n t.s2.c,.slice t.s3.a t.s3.n t.s3.c,.slice t.s4.a t.s4.n t.s4.c,.slice t.s5.a t.s5.n t.s5.c,.slice t.s6.a t.s6.n t.s6.c,.slice t.s7.a t.s7.n t.s7.c,.slice t.s8.a t.s8.n t.s8.c,.slice t.s9.a t.s9.n t.s9.c,.slice t.s10.a t.s10.n t.s10.c,.slice t.s11.a t.s11.n t.s11.c] 26)) w'->cE' 237 #[.int .i64 q] w' (.int .i64 ((jU [q]:Nat):Int))):=ah (λw' h=>(Jb q p.1 p.2 w').mono λe g Y=>⟨by rw[XQ];exact Y.1,by rw[<- Y.2];exact eR'⟩);have i:=λb h=>zK ((jU [q]:Nat):Int) 6 b h
  have i:=i _ (zL [1,2] [q] (by unfold InB;decide) x.out 6 (by decide));have L:=zK ((jU [q]:Nat):Int) 1 _ (zL [0] [q] (by unfold InB;decide) x.out 1 (by decide));have H:=zK _ 2049 _ (zL [0,11] (dD T l) (by unfold InB;decide) s.out 2049 (by decide));have P:=zK _ 16 _ (zL [4] (dD T l) (by unfold InB;decide) s.out 16 (by decide));have Z:=zK _ 8 _ (zL [3] (dD T l) (by unfold InB;decide) s.out 8 (by decide));have Q:=zK _ 2062 _ (zL [1,2,3,11] (dD T l) (by unfold InB;decide) s.out 2062 (by decide));have M:=zK _ 30 _ (zL [1,2,3,4] (nZ (dD T l)) (by unfold InB;decide) (XP s.out) 30 (by decide));have M8:=zK _ 17 _ (zL [0,4] (nZ (dD T l)) (by unfold InB;decide) (XP s.out) 17 (by decide));have S:=OU 4 16 (by omega) (by omega) (by decide);have O3:=OU 3 8 (by omega) (by omega) (by decide);have N:=OU 0 1 (by omega) (by omega) (by decide);generalize dY [1,2] [q]=b1 at*;generalize dY [0,11] (dD T l)=b2 at*;generalize dY [1,2,3,4] (nZ (dD T l))=b3 at*;generalize dY [4] (dD T l)=b4 at*;generalize dY [3] (dD T l)=b5 at*;generalize dY [0] [q]=b6 at*;generalize dY [1,2,3,11] (dD T l)=b7 at*;generalize dY [0,4] (nZ (dD T l))=b8 at*;generalize wP (dD T l)=R at*;generalize((jU [q]:Nat):Int)=SF at*;generalize((jU (dD T l):Nat):Int)=KW at*;generalize((jU (nZ (dD T l)):Nat):Int)=SL' at*;clear s x p B K J;have rT:∀I:ak (tW' w t),∀k:Nat,I.w.cell? ⟨w.heap.size,k,none⟩=t.v.cells[k]? :=λI=>aQ I.h
  have rX:∀I:ak (tW' w t),I.w.cell? ⟨b,o,none⟩=some (.int .i64 x0):=dA r;go_enter func162,ntmps162;go_wp2_with fail;refine rX' ?_
  repeat(go_big_quiet_step(first
   |(go_at_call 238;with_reducible exact aS (E.out _ (ak.h _)))
   |(go_at_call 237;with_reducible exact aS (G.out _ (ak.h _)))
   |(go_at_call 235;with_reducible exact aS (F.out _ (ak.h _)))
   |(go_at_call 239;with_reducible exact aS (W.out _ (ak.h _)))))
  refine wpQuiet_nil ?_;rintro _⟨yw,rfl⟩;clear rT rX r E F W G;obtain⟨U,z⟩:=eX' yw.w;have f:Ext w U:=by rw[z];exact C.out.trans' yw.h
  rw[<- z];clear z;cases b1
  case true=>
   cases b2
   case true=>
    go_wp2_with fail;refine(i.out _).mono ?_;rintro e d⟨rfl,rfl⟩;go_wp2_with fail;refine(H.out _).mono ?_;rintro e d⟨rfl,rfl⟩;go_wp2;go_ret;exact⟨by rw[m.out];rfl,f⟩
   cases b3
   case true=>
    cases b4
    case true=>
     cases b5
     case true=>
      go_wp2_with fail;refine(i.out _).mono ?_;rintro e d⟨rfl,rfl⟩;go_wp2_with fail;refine(H.out _).mono ?_;rintro e d⟨rfl,rfl⟩;go_wp2_with fail;refine(M.out _).mono ?_;rintro e d⟨rfl,rfl⟩;go_wp2_with fail;refine(S.out _).mono ?_;rintro e d⟨rfl,rfl⟩;go_wp2_with fail;refine(P.out _).mono ?_;rintro e d⟨rfl,rfl⟩;go_wp2_with fail;refine(O3.out _).mono ?_;rintro e d⟨rfl,rfl⟩;go_wp2_with fail;refine(Z.out _).mono ?_;rintro e d⟨rfl,rfl⟩;go_wp2;go_ret;exact⟨by rw[m.out];rfl,f⟩
     go_wp2_with fail;refine(i.out _).mono ?_;rintro e d⟨rfl,rfl⟩;go_wp2_with fail;refine(H.out _).mono ?_;rintro e d⟨rfl,rfl⟩;go_wp2_with fail;refine(M.out _).mono ?_;rintro e d⟨rfl,rfl⟩;go_wp2_with fail;refine(S.out _).mono ?_;rintro e d⟨rfl,rfl⟩;go_wp2_with fail;refine(P.out _).mono ?_;rintro e d⟨rfl,rfl⟩;go_wp2_with fail;refine(O3.out _).mono ?_;rintro e d⟨rfl,rfl⟩;go_wp2_with fail;refine(Z.out _).mono ?_;rintro e d⟨rfl,rfl⟩;go_wp2;go_ret;exact⟨by rw[m.out];rfl,f⟩
    go_wp2_with fail;refine(i.out _).mono ?_;rintro e d⟨rfl,rfl⟩;go_wp2_with fail;refine(H.out _).mono ?_;rintro e d⟨rfl,rfl⟩;go_wp2_with fail;refine(M.out _).mono ?_;rintro e d⟨rfl,rfl⟩;go_wp2_with fail;refine(S.out _).mono ?_;rintro e d⟨rfl,rfl⟩;go_wp2_with fail;refine(P.out _).mono ?_;rintro e d⟨rfl,rfl⟩;go_wp2;go_ret;exact⟨by rw[m.out];rfl,f⟩
   go_wp2_with fail;refine(i.out _).mono ?_;rintro e d⟨rfl,rfl⟩;go_wp2_with fail;refine(H.out _).mono ?_;rintro e d⟨rfl,rfl⟩;go_wp2_with fail;refine(M.out _).mono ?_;rintro e d⟨rfl,rfl⟩;go_wp2;go_ret;exact⟨by rw[m.out];rfl,f⟩
  cases b6
  case true=>
   cases b7
   case true=>
    go_wp2_with fail;refine(i.out _).mono ?_;rintro e d⟨rfl,rfl⟩;go_wp2_with fail;refine(N.out _).mono ?_;rintro e d⟨rfl,rfl⟩;go_wp2_with fail;refine(L.out _).mono ?_;rintro e d⟨rfl,rfl⟩;go_wp2_with fail;refine(Q.out _).mono ?_;rintro e d⟨rfl,rfl⟩;go_wp2;go_ret;exact⟨by rw[m.out];rfl,f⟩
   cases b8
   case true=>
    go_wp2_with fail;refine(i.out _).mono ?_;rintro e d⟨rfl,rfl⟩;go_wp2_with fail;refine(N.out _).mono ?_;rintro e d⟨rfl,rfl⟩;go_wp2_with fail;refine(L.out _).mono ?_;rintro e d⟨rfl,rfl⟩;go_wp2_with fail;refine(Q.out _).mono ?_;rintro e d⟨rfl,rfl⟩;go_wp2_with fail;refine(M8.out _).mono ?_;rintro e d⟨rfl,rfl⟩;go_wp2;go_ret;exact⟨by rw[m.out];rfl,f⟩
   go_wp2_with fail;refine(i.out _).mono ?_;rintro e d⟨rfl,rfl⟩;go_wp2_with fail;refine(N.out _).mono ?_;rintro e d⟨rfl,rfl⟩;go_wp2_with fail;refine(L.out _).mono ?_;rintro e d⟨rfl,rfl⟩;go_wp2_with fail;refine(Q.out _).mono ?_;rintro e d⟨rfl,rfl⟩;go_wp2_with fail;refine(M8.out _).mono ?_;rintro e d⟨rfl,rfl⟩;go_wp2;go_ret;exact⟨by rw[m.out];rfl,f⟩
  go_wp2_with fail;refine(i.out _).mono ?_;rintro e d⟨rfl,rfl⟩;go_wp2_with fail;refine(N.out _).mono ?_;rintro e d⟨rfl,rfl⟩;go_wp2_with fail;refine(L.out _).mono ?_;rintro e d⟨rfl,rfl⟩;go_wp2;go_ret;exact⟨by rw[m.out];rfl,f⟩
 .have h0:l=[]:=List.eq_nil_of_length_eq_zero (by omega);subst h0;go_enter func162,ntmps162;go_wp2;go_ret;exact⟨rfl,C.out⟩
theorem G6{T:aj}{l:List Int}(h:aX T l=0):l.length<=4096:=by
 have:=(sU h).2;omega
theorem aQH(ht:aW w t T)(q:aF w ⟨A,n,c⟩ l)(g:aX T l=0):
 cE' 161 #[t.v,.slice A n c] w (.bool (oG T l)):=by
 have a:=dG w t;have i:=ah a;have k:=ah (ht.aC a);have m:=ah (q.ext a);have o:=ah g;have M:=ah (zK _ 14 _ (zL [1,2,3] (dD T l) (by unfold InB;decide) (OQ (sU g).1 l) 14 (by decide)));have r:Hid (∀w',Ext (tW' w t) w'->cE' 235 #[t.v,.slice A n c] w' (.int .i64 ((jU (dD T l):Nat):Int))):=ah (λw' h=>XO T t l A n c w' (k.out.aC h) (m.out.ext h) (sU o.out).1 (G6 o.out));have s:Hid (oG T l=dY [1,2,3] (dD T l)):=rfl;generalize dY [1,2,3] (dD T l)=b1 at*;generalize((jU (dD T l):Nat):Int)=KW at*;have p:=ah (yS t T l A n c _ k.out m.out);rw[g]at p;clear ht q a g;go_enter func161,ntmps161;go_wp2_with fail;refine p.out.mono ?_;rintro e z⟨v,rfl,b,_⟩;have d:=ah b;have x:=bT' t b;clear b;go_wp2_with fail;refine(r.out _ d.out).mono ?_;rintro e B⟨rfl,f⟩;have y:=(i.out.trans' d.out).trans' f;clear x f;go_wp2_with fail;refine(M.out.out _).mono ?_;rintro e C⟨rfl,rfl⟩;go_wp2;go_ret;exact⟨by rw[s.out];rfl,y⟩
theorem Eb{w w':World}{s:SV}{ls:List (List Int)}(h:qY w s ls)(a:Ext w w'):qY w' s ls:=h.ext a
theorem OY{α:Type}(p:α->Bool)(l:List α)(k:Nat)(a:k<l.length):(l.take (k+1)).any p=((l.take k).any p||p l[k]):=by
 rw[tS' a,List.any_append];simp
theorem XV{T:aj}{ls:List (List Int)}{k:Nat}(a:k<ls.length):frR T k (ls.drop k)=if wP (dD T ls[k])≠0 then(k:Int)else frR T ((k+1:Nat):Int) (ls.drop (k+1)):=by
 rw[drop_at ls k a];rfl
def XW(T:aj)(w0:World)(ls:List (List Int))(gh:Nat)(s6 s15:Value)(wx:World):Prop:=
 ∃(k:Nat),k+gh=ls.length/\s15=.int .i64 k/\s6=.bool ((ls.take k).any (oG T))/\Hid (Ext w0 wx)
def Jd(T:aj)(w0:World)(ls:List (List Int))(gh:Nat)(s39:Value)(wx:World):Prop:=
 ∃(k:Nat),k+gh=ls.length/\s39=.int .i64 k/\Hid (ls.any (oG T)=true->frR T k (ls.drop k)=frR T 0 ls)/\Hid (Ext w0 wx)
theorem XT{T:aj}{ls:List (List Int)}{k:Nat}(c:ls.any (oG T)=true)(b:frR T 0 ls=(k:Int)):wQ T ls=k/\sH T ls=19:=by
 have a:ls.any (oG T)=true/\frR T 0 ls≠ -1:=⟨c,by rw[b];omega⟩;unfold wQ sH;rw[pP' a,pP' a,b];exact⟨rfl,rfl⟩
theorem Jc{T:aj}{ls:List (List Int)}(h:ls.any (oG T)=true->frR T 0 ls= -1):wQ T ls=0/\sH T ls=0:=by
 have a:¬(ls.any (oG T)=true/\frR T 0 ls≠ -1):=λb=>b.2 (h b.1)
 unfold wQ sH;rw[nN' a,nN' a];exact⟨rfl,rfl⟩
def XU(w:World)(T:aj)(ls:List (List Int))(e:Ending)(w':World):Prop:=e=.returned (.tuple #[.int .i64 (wQ T ls),.int .i64 (sH T ls)])/\Ext w w'
theorem aQT(ls:List (List Int))(A:Option Addr)(n c:Nat)(w:World)(ht:aW w t T)(hi:qY w ⟨A,n,c⟩ ls)(hw:dw T=true)(g:∀l∈ls,aX T l=0)(hm:ls.length<=1000000):
 Calls prog 85 #[t.v,.slice A n c] w (XU w T ls):=by
 have j:=dG w t;have z:=ah j;have Z:=ah (ht.aC j);have HI:=ah (hi.ext j);have HW:=ah hw;have HZ:=ah g;have HM:=ah hm;have hn:=hi.len.1;subst hn;clear ht hi j hw g hm;go_enter func85,ntmps85;go_wp2;go_loopg[6,15] ls.length (λI s6 a1 J=>XW T (tW' w t) ls I s6 a1 J);exact⟨0,by omega,rfl,rfl,ah eR'⟩;obtain⟨k,K,rfl,rfl,a⟩:=hrel;have B:=bT' t a.out;have ad:ls.length<=1000000:=HM.out;by_cases m:k<ls.length
 .obtain⟨f,rfl⟩:=gS' gk;obtain⟨b,o,M,N,O,rfl,P,g⟩:=(Eb HI.out a.out).at_ m;have Q:=ah g;have X:=ah (OY (oG T) ls k m);have R:=ah (HZ.out _ (gM' m));clear g;generalize ls[k]=x at*;have HO:=ah (yS t T x M N O wr (Z.out.aC a.out) Q.out);rw[R.out]at HO;have S:=z0' k;have U:(k:Int)<(ls.length:Int):=by omega
  go_wp2_with fail;refine HO.out.mono ?_;rintro e w1⟨v,rfl,C,_⟩;have q:=ah (a.out.trans' C);have jk:=ah C;clear B C HO;have B:=bT' t q.out;have gW:=ah (aQH T t x M N O w1 (Z.out.aC q.out) (Q.out.ext jk.out) R.out);generalize oG T x=p at*;cases i:(ls.take k).any (oG T)
  .rw[i]at X;clear i;go_wp2_with fail;refine gW.out.mono ?_;rintro e w2⟨rfl,d⟩;have D:=ah (q.out.trans' d);clear d B;go_wp2;go_roundg f;exact⟨k+1,by omega,by go_num,by rw[X.out];rfl,D⟩;omega
  .rw[i]at X;clear i;go_wp2;go_roundg f;exact⟨k+1,by omega,by go_num,by rw[X.out];rfl,q⟩;omega
 .have HE:Hid (ls.take k=ls):=ah (tL' (by omega));rw[HE.out];clear B;cases i:ls.any (oG T)
  .have Y:=ah i;have y:=ah (Jc (T:=T) (ls:=ls) (λh=>by rw[i]at h;cases h));clear i;go_wp2;go_loopg[39] ls.length (λI E J=>Jd T (tW' w t) ls I E J);exact⟨0,by omega,rfl,ah (λ_=>rfl),a⟩;obtain⟨k,K,rfl,G,a⟩:=hrel;have F:=z.out.trans' a.out;by_cases m:k<ls.length
   .obtain⟨f,rfl⟩:=gS' gk;obtain⟨b,o,M,N,O,rfl,P,g⟩:=(Eb HI.out a.out).at_ m;have S:=z0' k;have U:(k:Int)<(ls.length:Int):=(by omega);clear g F;go_wp2;go_roundg f;exact⟨k+1,by omega,by go_num,ah (λh=>by rw[Y.out]at h;cases h),a⟩;omega
   .go_wp2;go_ret2;exact⟨by rw[y.out.1,y.out.2];rfl,F⟩
  .have Y:=ah i;clear i;go_wp2;go_loopg[39] ls.length (λI E J=>Jd T (tW' w t) ls I E J);exact⟨0,by omega,rfl,ah (λ_=>rfl),a⟩;obtain⟨k,K,rfl,G,a⟩:=hrel;have F:=z.out.trans' a.out;by_cases m:k<ls.length
   .obtain⟨f,rfl⟩:=gS' gk;obtain⟨b,o,M,N,O,rfl,P,g⟩:=(Eb HI.out a.out).at_ m;have s:=ah (XV (T:=T) m);have V:=ah (aQG T t ls[k] M N O wr (Z.out.aC a.out) g HW.out (G6 (HZ.out _ (gM' m))));clear g F;generalize ls[k]=x at*;generalize wP (dD T x)=r at*;have B:=bT' t a.out;have S:=z0' k;have U:(k:Int)<(ls.length:Int):=(by omega);by_cases H:r=0
    .have e1:(r != 0)=false:=bZ' H
     have a3:Hid (ls.any (oG T)=true->frR T ((k+1:Nat):Int) (ls.drop (k+1))=frR T 0 ls):=ah (λh=>by
      have W:=s.out;rw[nN' (by rw[H];simp)]at W
      rw[<- W];exact G.out h)
     clear H s G;go_wp2_with fail;refine V.out.mono ?_;rintro e w2⟨rfl,d⟩;have D:=ah (a.out.trans' d);clear d B;go_wp2;go_roundg f;exact⟨k+1,by omega,by go_num,a3,D⟩;omega
    .have e1:(r != 0)=true:=bN' H
     have y:Hid (wQ T ls=k/\sH T ls=19):=ah (by
      have W:=s.out;rw[pP' H]at W
      exact XT Y.out ((G.out Y.out).symm.trans W))
     clear H s G;go_wp2_with fail;refine V.out.mono ?_;rintro e w2⟨rfl,d⟩;have F:=(z.out.trans' a.out).trans' d;clear d B;go_wp2;go_ret2;exact⟨by rw[y.out.1,y.out.2];rfl,F⟩
   .have y:=ah (Jc (T:=T) (ls:=ls) (λh=>by rw[<- G.out h,List.drop_of_length_le (by omega)];rfl));go_wp2;go_ret2;exact⟨by rw[y.out.1,y.out.2];rfl,F⟩
theorem YP{g b c i:Nat}{o:List Nm}{x:Nm}{w:World}{a:Array Value}(d:b<=g)(l:i<=o.length)(f:w.heap[g]? =some (.cells a 32 (0,0)))(h:o.length+1<=c)(j:c<=maxLen)(k:a.size=c*3)
 (ht:a.toList.take ((o.length+1)*3)=eY (o.take i)++(nmC x++eY (o.drop i))):mg w b (some ⟨g,0,none⟩) (o.length+1) c (o.take i++x::o.drop i):=by
 have e:eY (o.take i++x::o.drop i)=eY (o.take i)++(nmC x++eY (o.drop i)):=by rw[Gn];rfl
 refine⟨?_,.inr ⟨g,c,a,rfl,d,f,h,j,k,by rw[e];exact ht⟩⟩;rw[zS];simp;omega
theorem aYm(P w:World)(A:Option Addr)(c:Nat)(o:List Nm)(x:Nm)(i:Nat)(l:mg w P.heap.size A o.length c o)(hx:Ext P w)(hi:i<=o.length)(hb:o.length<=1000):
 Calls prog 53 #[.slice A o.length c,.int .i64 i,.slice (some ⟨w.heap.size,0,none⟩) 1 1] (w.alloc (.cells #[.string (sB x.1),.string (sB x.2.1),.string (sB x.2.2)] 32))
  λe w'=>∃A' c',e=.returned (.slice A' (o.length+1) c')/\mg w' P.heap.size A' (o.length+1) c' (o.take i++x::o.drop i)/\Ext P w'/\Kp (aH A).toList (w.alloc (.cells #[.string (sB x.1),.string (sB x.2.1),.string (sB x.2.2)] 32)) w':=by
 have bo:=Own.le l;by_cases b2:i=o.length
 .subst b2;obtain⟨A5,c5,w5,U,J,K⟩:=PO l x (by omega) hx.b.size;have X:mg w5 P.heap.size A5 (o.length+1) c5 (o.take o.length++x::o.drop o.length):=by rw[List.take_length,List.drop_length];exact J
  have ai:Ext P w5:=dZ (hx.trans' (eR'.aB _)) K (λk hk=>(Own.lt l k hk).1);have al:=Kp.mD (M:=(aH A).toList) K (by intro b hb;simp[hb]);have b4:¬((1:Int)=0):=by omega
  have HF:=ah X;have HX:=ah ai;have HK:=ah al;clear X ai al l J K hx;generalize o.length=n at*;go_enter func53,ntmps53;cases A with
  |none=>
   go_wp2_with(at_builtin;refine dI rfl _ _ _ rfl _ _ rfl rfl _ _ U ?_)
   all_goals(go_ret;exact⟨_,_,rfl,HF.out,HX.out,HK.out⟩)
  |some a=>
   obtain⟨ab,ao,bp⟩:=a;go_wp2_with(at_builtin;refine dI rfl _ _ _ rfl _ _ rfl rfl _ _ U ?_)
   all_goals(go_ret;exact⟨_,_,rfl,HF.out,HX.out,HK.out⟩)
 have bq:i<o.length:=by omega
 have a4:=Own.rU l;obtain⟨br,h'|⟨g,bs,m,h',a5,hg,bt,b5,bu,b6⟩⟩:=l
 .omega
 injection h' with e1 e2 e3;subst e1 e3;have am:g<w.heap.size:=(Array.getElem?_eq_some_iff.1 hg).1;obtain⟨W,R⟩:=eX' (w.alloc (.cells #[.string (sB x.1),.string (sB x.2.1),.string (sB x.2.2)] 32));rw[<- R];have L:Ext w W:=by rw[R];exact eR'.aB _
 have S:W.heap[g]? =some (.cells m 32 (0,0)):=by rw[L.b.block _ am];exact hg
 have an:∀(j:Nat)(v:Value),(nmC x)[j]? =some v->W.cell? ⟨w.heap.size,0+j,none⟩=some v:=λj v f=>by rw[R];exact YQ w x _ f
 have b7:W.heap.size=w.heap.size+1:=by rw[R];simp
 have a6:∀j,j<c*3->(W.cell? ⟨g,j,none⟩).isSome=true:=λj f=>by rw[cell_of_row W g j m _ (0,0) S,Array.getElem?_eq_getElem (by omega)];rfl
 have Y:∀(j:Nat)(v:Value),(eY o)[j]? =some v->W.cell? ⟨g,j,none⟩=some v:=λj v f=>by
  obtain⟨b,e,h⟩:=a4 j v f;cases e;rw[L.b.cell (p:=⟨g,j,none⟩) am];exact h
 have ap:∀j,W.frozen? ⟨g,j,none⟩=false:=λj=>frozen_of_row W g j m _ S
 have aq:∀v∈nmC x,v.oneCell'=true:=λv hv=>PN [x] v (by simpa[eY]using hv)
 have bv:=zS o;have F:(eY (o.drop i)).length=(o.length-i)*3:=by rw[zS,List.length_drop]
 have T:(prog.info? 32).map (·.size)=some 3:=by
  obtain⟨q,hq,_,h2,_⟩:=info_parts infoNm;rw[hq];simp[h2]
 have b4:¬((1:Int)=0):=by omega
 have bw:¬((i:Int)=(o.length:Int)):=by omega
 have Z:eY o=eY (o.take i)++eY (o.drop i):=by rw[<- Gn,List.take_append_drop]
 have z:(eY (o.take i)).length=i*3:=by rw[zS,List.length_take];omega
 have ar:∀v∈eY (o.drop i),v.oneCell'=true:=PN _;have YS:∀(j:Nat)(v:Value),(eY (o.drop i))[j]? =some v->W.cell? ⟨g,i*3+j,none⟩=some v:=λj v f=>Y _ v (by rw[Z,List.getElem?_append_right (by omega),z,Nat.add_sub_cancel_left];exact f)
 have b9:prog.follows .mixedOrders=true:=by kernel_rfl
 have bx:(0:Int)<=(i:Int)+1:=by omega
 have bz:(i:Int)<=(o.length:Int)+1:=by omega
 have bm:i<=o.length:=by omega
 have bA:IntKind.i64.wrap ((i:Int)+1)=(i:Int)+1:=by rw[IntKind.wrap_i64];omega
 have bB:IntKind.i64.wrap ((o.length:Int)+1)=(o.length:Int)+1:=by rw[IntKind.wrap_i64];omega
 have bD:((i:Int)+1).toNat=i+1:=by omega
 have bE:((o.length:Int)+1).toNat=o.length+1:=by omega
 by_cases a7:o.length+1<=c
 .have av:∀lb cb,(callFunc 101 #[.slice (some ⟨w.heap.size,0,none⟩) 1 1,.slice (some ⟨g,(i+1)*3,none⟩) lb cb]).run prog W=.ok (.value (.bool false)) W:=λlb cb=>by
   rw[run_callFunc_extern func101 (by kernel_rfl) (by kernel_rfl) (by kernel_rfl) (e:=Extern.SlicesOverlaps.overlaps #[38,38] #[4]) (by kernel_rfl),
    Lib.run_overlaps_apart W 38 4 32 underlying38 3 Tryz.sizeOf32 ⟨w.heap.size,0,none⟩ ⟨g,(i+1)*3,none⟩ 1 1 lb cb (by show w.heap.size≠g;omega) 32 32 3 m.size
     (by rw[R];simp[World.shape?,World.alloc,-World.alloc_eq]) (by simp[World.shape?,S]) (by omega) (by rw[R];simp[World.frozen?,World.alloc,-World.alloc_eq]) (by rw[R];simp[World.frozen?,World.alloc,-World.alloc_eq])]
   rfl
  have bH:((c:Nat):Int)<(o.length:Int)+1->False:=by omega
  have ba:decide ((c:Int)<(o.length:Int)+1)=false:=dF';have bL:¬(c=i+1):=by omega
  have bM:¬(c=i):=by omega
  have a0:∀r B sc,(Builtin.copy_ #[38,38] r #[.slice (some ⟨g,(i+1)*3,none⟩) (o.length-i) B,.slice (some ⟨g,i*3,none⟩) (o.length+1-i) sc]).run prog W.drew=.ok (goInt ((o.length+1-i).min (o.length-i))) (W.drew.setCells g ((i+1)*3) (eY (o.drop i))):=λr B sc=>
   Jz W.drew _ _ r 32 3 g ((i+1)*3) (o.length-i) B ⟨g,i*3,none⟩ (o.length+1-i) sc (eY (o.drop i)) underlying38 T (by rw[F];simp only[Nat.min_def];split<;>omega)
    (λj v f=>by rw[Addr.add_lit];exact YS j v f) (λj f=>a6 _ (by omega)) (λj f=>ap _) ar
  clear R;go_enter func53,ntmps53;go_wp2_with(simp only[av]);go_region_law_o (refine step_copy_runI rfl _ _ 38 38 rfl _ _ (by simp[Act.eval,Act.put]) (by simp[Act.eval,Act.put]) (a0 _ _ _) ?_);obtain⟨Q,C⟩:=eX' (W.drew.setCells g ((i+1)*3) (eY (o.drop i)));have a1:∀k,k<c*3->(Q.cell? ⟨g,k,none⟩).isSome=true:=λk hk=>by
   rw[C];refine isSome_setCells g _ _ _ (λj f=>?_) _ (a6 k hk);have h5:j<(o.length-i)*3:=(by rw[<- F];exact f);exact a6 ((i+1)*3+j) (by omega)
  have aw:∀r B,(Builtin.copy_ #[38,38] r #[.slice (some ⟨g,i*3,none⟩) (o.length+1-i) B,.slice (some ⟨w.heap.size,0,none⟩) 1 1]).run prog Q=.ok (goInt ((1:Nat).min (o.length+1-i))) (Q.setCells g (i*3) (nmC x)):=λr B=>
   Jz Q _ _ r 32 3 g (i*3) (o.length+1-i) B ⟨w.heap.size,0,none⟩ 1 1 (nmC x) underlying38 T (by show 3=_;simp only[Nat.min_def];split<;>omega)
    (λj v f=>by
     rw[Addr.add_lit,C,World.cell?_setCells_out g _ _ _ _ (λh _=>absurd h (by show w.heap.size≠g;omega))]
     exact an j v f)
    (λj f=>by have H:j<3:=f;exact a1 _ (by omega)) (λj f=>by rw[C,World.frozen?_setCells];exact ap _) aq
  have ax:(i+1)*3+(eY (o.drop i)).length<=m.size:=by omega
  obtain⟨sF,I,s⟩:=xR (g:=g) (eY (o.drop i)) ((i+1)*3) m W.drew S ax;have bb:sF.size=m.size:=by
   have:=congrArg List.length s;simp only[Array.length_toList,lA',List.length_take,List.length_drop]at this;omega
  rw[<- C]at I |-;obtain⟨Bd,N,D⟩:=xR (g:=g) (nmC x) (i*3) sF Q I (by show i*3+3<=_;omega);have ay:Bd.size=m.size:=by
   have:=congrArg List.length D;have H:(nmC x).length=3:=rfl;simp only[Array.length_toList,lA',List.length_take,List.length_drop,H]at this;omega
  have HF:Hid (mg (Q.setCells g (i*3) (nmC x)) P.heap.size (some ⟨g,0,none⟩) (o.length+1) c (o.take i++x::o.drop i)):=ah (YP a5 hi N a7 b5 (by omega) (by
   have t1:sF.toList.take (i*3)=eY (o.take i):=by
    rw[s,List.append_assoc,List.take_append_of_le_length (by rw[List.length_take,Array.length_toList];omega),List.take_take,Nat.min_eq_left (by omega),aYl,<- b6,List.take_take,Nat.min_eq_left (by omega)]
   have t2:sF.toList.drop (i*3+3)=eY (o.drop i)++m.toList.drop ((i+1)*3+(eY (o.drop i)).length):=by
    rw[s,List.append_assoc];exact List.drop_left' (by rw[List.length_take,Array.length_toList];omega)
   have H:(nmC x).length=3:=rfl;rw[D,H,t1,t2,List.append_assoc,<- List.append_assoc (nmC x),<- List.append_assoc (eY (o.take i))]
   exact List.take_left' (by rw[lA',lA',H,z,F];omega)))
  have HX:Hid (Ext P (Q.setCells g (i*3) (nmC x))):=ah (uF a5 _ _ _ (by rw[C];exact uF a5 _ _ _ (hx.trans' L).dJ));have HK:Hid (Kp [g] W (Q.setCells g (i*3) (nmC x))):=ah (Kp.trans (by rw[C];exact(Kp.cZ eR'.dJ).trans (Ed (by simp) _ _ _)) (Ed (by simp) _ _ _));clear C s D I N a1 a0 av;go_wp2_with(refine wpList_copy_runI _ rfl _ _ 38 38 rfl _ _ rfl rfl (aw _ _) ?_);go_ret;exact⟨_,_,rfl,HF.out,HX.out,HK.out⟩
 .have bc:c<o.length+1:=by omega
  obtain⟨q,hq,hz,bd,az⟩:=info_parts infoNm;have ba:decide ((c:Int)<(o.length:Int)+1)=true:=dT';have aD:(o.length:Int)+1-(i:Int)=((o.length+1-i:Nat):Int):=by omega
  have a9:i+(o.length+1-i)=o.length+1:=by omega
  have a3:(Builtin.firstCells q.size i (.slice (some ⟨g,0,none⟩) i c)).run prog W.drew=.ok (eY (o.take i)).toArray W.drew:=by
   rw[bd]
   exact run_firstCells_some W.drew 3 i ⟨g,0,none⟩ i c (eY (o.take i)) z (λj v f=>by
    rw[Addr.add_lit,Nat.zero_add]
    exact Y j v (by rw[Z,List.getElem?_append_left (List.getElem?_eq_some_iff.1 f).1];exact f))
  obtain⟨G,hG⟩:=eX' (grownCap W (o.length+1) c 32);have be:o.length+1<=G:=by rw[hG];exact grownCap_ge W _ _ _
  have bf:G<=maxLen:=by rw[hG];exact grownCap_le_maxLen W _ _ _ (by unfold maxLen;omega)
  obtain⟨d,E⟩:∃d:Array Value,d=(eY (o.take i)).toArray++Builtin.zeroCells (.agg #[.string ⟨#[]⟩,.string ⟨#[]⟩,.string ⟨#[]⟩]:Value).cells (o.length+1-i)++Builtin.zeroCells (.agg #[.string ⟨#[]⟩,.string ⟨#[]⟩,.string ⟨#[]⟩]:Value).cells (G-(o.length+1)):=⟨_,rfl⟩;have bh:∀r,(Builtin.append_ #[38,3] r #[.slice (some ⟨g,0,none⟩) i c,.int .i64 ((o.length:Int)+1-(i:Int))]).run prog W=.ok (.slice (some ⟨W.heap.size,0,none⟩) (o.length+1) G) (W.drew.alloc (.cells d 32)):=λr=>by
   have h:=Lib.run_append_grow_zeros W 38 3 r 32 q _ .i64 .i64 underlying38 underlying3 hq hz (some ⟨g,0,none⟩) i c _ a3 (o.length+1-i) (by omega) (by omega) (by omega) (by omega) (by rw[az];omega) (by rw[az,a9];exact growslice_fits bc (by omega));rw[a9,<- hG]at h;rw[aD,E];exact h
  have bN:d.size=G*3:=by
   rw[E];simp[Builtin.zeroCells,Value.cells,z];omega
  have aE:d.toList.take (i*3)=eY (o.take i):=by
   rw[E];simp only[Array.toList_append,List.append_assoc];exact List.take_left' z
  clear E a3 hG;have bO:¬(G=i):=by omega
  have bn:¬(G=i+1):=by omega
  have bP:¬(c=i):=by omega
  have hN:∀j,j<G*3->((W.drew.alloc (.cells d 32)).cell? ⟨W.heap.size,j,none⟩).isSome=true:=λj f=>by
   rw[World.cell?_alloc_at (w:=W.drew) d _ W.heap.size j rfl,Array.getElem?_eq_getElem (by omega)];rfl
  have aa:∀j,(W.drew.alloc (.cells d 32)).frozen? ⟨W.heap.size,j,none⟩=false:=λj=>World.frozen?_alloc_at (w:=W.drew) d _ W.heap.size j rfl
  have PS:∀b,b<W.heap.size->∀j v,W.cell? ⟨b,j,none⟩=some v->(W.drew.alloc (.cells d 32)).cell? ⟨b,j,none⟩=some v:=λb hb j v h=>by rw[World.cell?_alloc_past (w:=W.drew) _ b j hb];exact h
  have aL:∀(V:World),(∀y,V.cell? y=(W.drew.alloc (.cells d 32)).cell? y)->(∀y,V.frozen? y=(W.drew.alloc (.cells d 32)).frozen? y)->∀r B,(Builtin.copy_ #[38,38] r #[.slice (some ⟨W.heap.size,i*3,none⟩) (o.length+1-i) B,.slice (some ⟨w.heap.size,0,none⟩) 1 1]).run prog V=.ok (goInt ((1:Nat).min (o.length+1-i))) (V.setCells W.heap.size (i*3) (nmC x)):=λV O ac r B=>
   Jz V _ _ r 32 3 W.heap.size (i*3) (o.length+1-i) B ⟨w.heap.size,0,none⟩ 1 1 (nmC x) underlying38 T (by show 3=_;simp only[Nat.min_def];split<;>omega)
    (λj v f=>by rw[Addr.add_lit,O];exact PS _ (by omega) _ v (an j v f))
    (λj f=>by have H:j<3:=f;rw[O];exact hN _ (by omega)) (λj f=>by rw[ac];exact aa _) aq
  have aM:∀(V:World),(∀y,V.cell? y=((W.drew.alloc (.cells d 32)).setCells W.heap.size (i*3) (nmC x)).cell? y)->(∀y,V.frozen? y=((W.drew.alloc (.cells d 32)).setCells W.heap.size (i*3) (nmC x)).frozen? y)->∀r B sc,(Builtin.copy_ #[38,38] r #[.slice (some ⟨W.heap.size,(i+1)*3,none⟩) (o.length-i) B,.slice (some ⟨g,i*3,none⟩) (o.length-i) sc]).run prog V=.ok (goInt ((o.length-i).min (o.length-i))) (V.setCells W.heap.size ((i+1)*3) (eY (o.drop i))):=λV O ac r B sc=>
   Jz V _ _ r 32 3 W.heap.size ((i+1)*3) (o.length-i) B ⟨g,i*3,none⟩ (o.length-i) sc (eY (o.drop i)) underlying38 T (by rw[F];simp only[Nat.min_def];split<;>omega)
    (λj v f=>by
     rw[Addr.add_lit,O,World.cell?_setCells_out _ _ _ _ _ (λh _=>absurd h (by show g≠W.heap.size;omega))]
     exact PS _ (by omega) _ v (YS j v f))
    (λj f=>by
     have h5:j<(o.length-i)*3:=(by rw[<- F];exact f);rw[O]
     exact isSome_setCells _ _ _ _ (λt ht=>by have H:t<3:=ht;exact hN _ (by omega)) _ (hN _ (by omega)))
    (λj f=>by rw[ac,World.frozen?_setCells];exact aa _) ar
  obtain⟨sF,I,s⟩:=xR (g:=W.heap.size) (nmC x) (i*3) d (W.alloc (.cells d 32)).drew (heap_alloc_new W _) (by show i*3+3<=_;omega);have bb:sF.size=G*3:=by
   have:=congrArg List.length s;have H:(nmC x).length=3:=rfl;simp only[Array.length_toList,lA',List.length_take,List.length_drop,H]at this;omega
  obtain⟨Bd,N,D⟩:=xR (g:=W.heap.size) (eY (o.drop i)) ((i+1)*3) sF ((W.alloc (.cells d 32)).drew.setCells W.heap.size (i*3) (nmC x)).drew I (by omega);have ay:Bd.size=G*3:=by
   have:=congrArg List.length D;simp only[Array.length_toList,lA',List.length_take,List.length_drop]at this;omega
  have PU:P.heap.size<=W.heap.size:=Nat.le_trans hx.b.size L.b.size
  have HF:Hid (mg (((W.alloc (.cells d 32)).drew.setCells W.heap.size (i*3) (nmC x)).drew.setCells W.heap.size ((i+1)*3) (eY (o.drop i))) P.heap.size (some ⟨W.heap.size,0,none⟩) (o.length+1) G (o.take i++x::o.drop i)):=ah (YP PU hi N be bf ay (by
   have t1:sF.toList.take ((i+1)*3)=eY (o.take i)++nmC x:=by
    rw[s,aE];exact List.take_left' (by have H:(nmC x).length=3:=rfl;rw[lA',z,H];omega)
   rw[D,t1,List.append_assoc (eY (o.take i))]
   exact List.take_left' (by have H:(nmC x).length=3:=rfl;rw[lA',lA',H,z,F];omega)))
  have HX:Hid (Ext P (((W.alloc (.cells d 32)).drew.setCells W.heap.size (i*3) (nmC x)).drew.setCells W.heap.size ((i+1)*3) (eY (o.drop i)))):=ah (uF PU _ _ _ (uF PU _ _ _ (((hx.trans' L).aB _).dJ)).dJ);have HK:Hid (Kp (aH (some ⟨g,0,none⟩)).toList W (((W.alloc (.cells d 32)).drew.setCells W.heap.size (i*3) (nmC x)).drew.setCells W.heap.size ((i+1)*3) (eY (o.drop i)))):=ah (Kp.cZ (uF (lr' _) _ _ _ (uF (lr' _) _ _ _ ((eR'.aB _).dJ)).dJ));have bi:∀x,((W.alloc (.cells d 32)).drew).cell? x=(W.drew.alloc (.cells d 32)).cell? x:=λx=>rfl
  have bj:∀x,((W.alloc (.cells d 32)).drew).frozen? x=(W.drew.alloc (.cells d 32)).frozen? x:=λx=>rfl
  have bk:∀y,(((W.alloc (.cells d 32)).drew.setCells W.heap.size (i*3) (nmC x)).drew).cell? y=((W.drew.alloc (.cells d 32)).setCells W.heap.size (i*3) (nmC x)).cell? y:=λy=>rfl
  have bl:∀y,(((W.alloc (.cells d 32)).drew.setCells W.heap.size (i*3) (nmC x)).drew).frozen? y=((W.drew.alloc (.cells d 32)).setCells W.heap.size (i*3) (nmC x)).frozen? y:=λy=>rfl
  clear I N s D aE hN aa PS R aD a9 b7;go_enter func53,ntmps53
  go_wp2_with(first
   |(at_builtin;refine Lib.wpList_append_run _ rfl _ _ _ _ rfl _ _ rfl rfl _ _ (bh _) ?_)
   |(refine wpList_copy_runI _ rfl _ _ 38 38 rfl _ _ rfl rfl (aL _ bi bj _ _) ?_))
  go_region_law_o (refine step_copy_runI rfl _ _ 38 38 rfl (.slice (some ⟨W.heap.size,(i+1)*3,none⟩) (o.length-i) (G-(i+1))) (.slice (some ⟨g,i*3,none⟩) (o.length-i) (c-i)) (by simp[Act.eval,Act.put]) (by simp[Act.eval,Act.put]) (aM _ bk bl 3 (G-(i+1)) (c-i)) ?_);go_wp2;go_ret;exact⟨_,_,rfl,HF.out,HX.out,HK.out⟩
end Go.Proofs.YtlmkgaoakcjlnaaGreatDoor
