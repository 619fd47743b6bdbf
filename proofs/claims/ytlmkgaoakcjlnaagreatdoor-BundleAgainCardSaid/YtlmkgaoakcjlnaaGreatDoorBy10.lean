/- Part By10. -/
import Derived.Test.YtlmkgaoakcjlnaaGreatDoorBy09
import Derived.WalkMore
open Go.Proofs.Tryz
namespace Go.Proofs.YtlmkgaoakcjlnaaGreatDoor
set_option maxHeartbeats 25600000
set_option maxRecDepth 100000
open Go.RowKit
variable (t:TV)(T:aj)(l:List Int)(A:Option Addr)(n c:Nat)(w:World)
def stV(pre:List Int):Option Int->Int
 |none=> -1
 |some _=>pre.length
def aJe(T:aj)(w1:World)(l V:List Int)(gh:Nat)(s6 s7 s20:Value)(wx:World):Prop:=
 ∃(k:Nat)(A:Option Addr)(n c:Nat)(pre tail:List Int)(st:Option Int),k+gh=l.length/\s20=.int .i64 k/\s6=.slice A n c/\s7=.int .i64 (stV pre st)/\Hid (aK wx w1.heap.size A n c (pre++st.toList++tail))/\Hid (Ext w1 wx)/\Hid (V=bT T pre st tail (l.drop k))/\Hid (st=none->pre=[])/\Hid (n<=k)
theorem SB{T:aj}{tail:List Int}{y c:Int}:pV T (tail++[y]) c=(decide (aG T y=0)||decide (aG T c<=aG T y)):=by
 simp[pV]
theorem a3k(hw:dw T=true)(t:TV)(l:List Int)(A:Option Addr)(n c:Nat)(w:World)(ht:aW w t T)(hi:aF w ⟨A,n,c⟩ l)(hl:l.length<=1000000000):
 Calls prog 156 #[t.v,.slice A n c] w λe w'=>∃B m d,e=.returned (.slice B m d)/\aF w' ⟨B,m,d⟩ (yj T l)/\Ext w w'/\∀b,aH B=some b->w.heap.size<=b:=by
 have ao:=dG w t;have HT:=ah (ht.aC ao);have HI:=ah (hi.ext ao);have HW:=ah hw;have HS:=ah (ou hw);have hn:=hi.len.1;subst hn;have HV:Hid (yj T l=bT T [] none [] (l.drop 0)):=ah rfl;generalize yj T l=V at*;clear ht hi hw;go_enter func156,ntmps156;go_wp2_with fail;refine(ZG t T _ HT.out HW.out).mono ?_;rintro e L⟨r,rfl,bv,b0,aD⟩;have ae:=ah b0;have I:=ah aD;have bw:w.heap.size<L.heap.size:=by have h':=aD.b.size;simp at h';omega
 clear b0 aD;go_wp2;go_loopg[6,7,20] l.length (λgh s6 s7 b7 wx=>aJe T L l V gh s6 s7 b7 wx);exact⟨0,none,0,0,[],[],none,by omega,rfl,rfl,rfl,ah (Own.nil_ _ _ _ _),ah eR',HV,ah (λ_=>rfl),ah (lr' _)⟩;obtain⟨k,A2,n2,c2,pre,tail,st,bE,rfl,rfl,rfl,HO,HB,HR,ba,bb⟩:=hrel;have pq:=ah (I.out.trans' HB.out);have bc:=ah (HI.out.ext pq.out);have bH:L.heap.size<=wr.heap.size:=HB.out.b.size;by_cases b1:k<l.length
 .obtain⟨X,rfl⟩:=gS' gk;obtain⟨b,o,hA,Y⟩:=bc.out.at_ b1;subst hA;have HD:=ah (drop_at l k b1);generalize l[k]=x at*;have bL:=z0' k;have bM:(k:Int)<(l.length:Int):=by omega
  have bN:=bb.out;have U:=bT' t pq.out;have gB:=ah (je t T x wr (HT.out.aC pq.out) HS.out);have HN:Hid (n2=(pre++st.toList++tail).length):=ah (by have:=HO.out.len;simp at this |-;omega);have iK:Hid (V=bT T pre st tail (x::l.drop (k+1))):=ah (by rw[HR.out,HD.out]);clear HR HD HV;cases st with
  |none=>
   have aE:pre=[]:=ba.out rfl;have bO:Hid (n2=tail.length):=ah (by rw[HN.out,aE];simp);have bd:=ah aE;clear aE;have hd:decide ((-1:Int)<0)=true:=rfl;by_cases F:aG T x=0
   ·
    have Z:Hid (V=bT T (pre++tail) (some x) ([]) (l.drop (k+1))):=ah (iK.out.trans ((EO pre (tail) x (l.drop (k+1))).trans (pP' F)));have a4:(aG T x==0)=true:=(by rw[bq'];exact F);clear F iK;generalize aG T x=kx at*;go_wp2_with fail;refine gB.out.mono ?_;rintro e E⟨rfl,a⟩;have q:=ah (HB.out.trans' a);have M:Hid (aK E _ _ _ _ _):=ah (Own.ext HO.out a);have a0:wr.heap.size<=E.heap.size:=a.b.size;have bn:Hid (∀(w':World),Ext L w'->∀k:Nat,w'.cell? ⟨w.heap.size,k,none⟩=t.v.cells[k]?):=ah λw' H=>aQ (I.out.trans' H)
    clear a U Y;have K:=M;have N:=q;have j:Ext E (E.alloc (.cells #[.int .i64 x] 3)):=eR'.aB _;obtain⟨A5,c5,w5,C,f,i,_⟩:=gJ (Own.ext K.out j) (iQ E x) (by omega) (by have h':=N.out.b.size;simp;omega);have bP:=ah f;have bD:Hid (Ext L w5):=ah (dZ (N.out.trans' j) i (λk F=>(Own.lt K.out k F).1));clear f i j;go_wp2_with(at_builtin;refine dI rfl _ _ _ rfl _ _ rfl rfl _ _ C ?_);go_roundg X;exact⟨k+1,A5,n2+1,c5,pre++tail,[],some x,by omega,by go_num,rfl,(by show Value.int .i64 (((n2:Nat)):Int)=Value.int .i64 (((pre++tail).length:Nat):Int);rw[HN.out];simp),ah (by simpa using bP.out),bD,Z,ah (by intro h;cases h),ah (by omega)⟩;omega
   ·
    have Z:Hid (V=bT T (pre) (none) (tail++[x]) (l.drop (k+1))):=ah (iK.out.trans ((EO pre (tail) x (l.drop (k+1))).trans (nN' F)));have a4:(aG T x==0)=false:=(by rw[aO];exact F);clear F iK;generalize aG T x=kx at*;go_wp2_with fail;refine gB.out.mono ?_;rintro e E⟨rfl,a⟩;have q:=ah (HB.out.trans' a);have M:Hid (aK E _ _ _ _ _):=ah (Own.ext HO.out a);have a0:wr.heap.size<=E.heap.size:=a.b.size;have bn:Hid (∀(w':World),Ext L w'->∀k:Nat,w'.cell? ⟨w.heap.size,k,none⟩=t.v.cells[k]?):=ah λw' H=>aQ (I.out.trans' H)
    clear a U Y;have K:=M;have N:=q;have j:Ext E (E.alloc (.cells #[.int .i64 x] 3)):=eR'.aB _;obtain⟨A5,c5,w5,C,f,i,_⟩:=gJ (Own.ext K.out j) (iQ E x) (by omega) (by have h':=N.out.b.size;simp;omega);have bP:=ah f;have bD:Hid (Ext L w5):=ah (dZ (N.out.trans' j) i (λk F=>(Own.lt K.out k F).1));clear f i j;go_wp2_with(at_builtin;refine dI rfl _ _ _ rfl _ _ rfl rfl _ _ C ?_);go_roundg X;exact⟨k+1,A5,n2+1,c5,pre,tail++[x],none,by omega,by go_num,rfl,rfl,ah (by simpa using bP.out),bD,Z,ah (λ_=>bd.out),ah (by omega)⟩;omega
  |some s=>
   obtain⟨m,rfl⟩:∃m,n2=m+1:=⟨n2-1,by have:=HN.out;simp at this;omega⟩;obtain⟨g,rfl⟩:=HO.out.some_ (by omega);have br:((m+1:Nat):Int)-1=(m:Int):=(by omega);have bR:(0:Int)<=(pre.length:Int):=bJ _;have hd:decide ((pre.length:Int)<0)=false:=dF';have bS:decide ((0:Int)<=(pre.length:Int))=true:=dT';have b2:stV pre (some s)=(pre.length:Int):=rfl;rw[b2];clear b2;have bW:(pre.length:Int)<((m+1:Nat):Int):=(by have:=HN.out;simp at this;omega);have bX:(m:Int)<((m+1:Nat):Int):=(by omega);have bZ:=z0' m;rcases List.eq_nil_or_concat tail with aq|⟨O,y,aq⟩
   ·
    subst aq;have ab:m=pre.length:=(by have:=HN.out;simp at this;omega);have be:decide ((pre.length:Int)<(m:Int))=false:=dF';have bf:decide (pre.length<m)=false:=dF';have bh:=ah ab;clear ab;cases Q:pairT T s x with
    |some y2=>
     have Z:Hid (V=bT T pre (some y2) ([]) (l.drop (k+1))):=ah (by rw[iK.out,bT,show pV T [] x=false from rfl,nN' (by simp),Q]);have HP:Hid (lJ T s x=(y2,true)):=ah (by rw[lJ,Q]);clear Q iK;go_wp2_with fail;refine gB.out.mono ?_;rintro e E⟨rfl,a⟩;have q:=ah (HB.out.trans' a);have M:Hid (aK E _ _ _ _ _):=ah (Own.ext HO.out a);have a0:wr.heap.size<=E.heap.size:=a.b.size;have bn:Hid (∀(w':World),Ext L w'->∀k:Nat,w'.cell? ⟨w.heap.size,k,none⟩=t.v.cells[k]?):=ah λw' H=>aQ (I.out.trans' H)
     clear a U Y;have W:=M;have P:=q;have r3:E.cell? ⟨g,pre.length,none⟩=some (.int .i64 s):=aK.cell M.out pre.length s (by simp);go_wp2_with fail;refine(D9 T r s x _ (ae.out.ext P.out)).mono ?_;rintro e R⟨rfl,D⟩;have K:Hid (aK R _ _ _ _ _):=ah (Own.ext W.out D);have N:=ah (P.out.trans' D);have qR:=D.b.size;clear D;rw[HP.out];have r0:R.cell? ⟨g,pre.length,none⟩=some (.int .i64 s):=K.out.cell pre.length s (by simp);have f0:R.frozen? ⟨g,pre.length,none⟩=false:=K.out.frozen pre.length;have bP:=ah (K.out.set pre.length y2);have aL:L.heap.size<=g:=(Own.lt K.out g rfl).1;have bD:=ah (N.out.lI (p:=⟨g,pre.length,none⟩) aL (.int .i64 y2));generalize al:pre.length=p at*;go_wp2;go_roundg X;exact⟨k+1,some ⟨g,0,none⟩,m+1,c2,pre,[],some y2,by omega,by go_num,rfl,(by rw[<- al];rfl),ah (by have h5:=bP.out;rw[<- al]at h5 |-;simpa[List.set_append]using h5),bD,Z,ah (by intro h;cases h),ah (by omega)⟩;omega
    |none=>
     have iI:Hid (V=if aG T x=0 then bT T (pre++s::([])) (some x) [] (l.drop (k+1))else bT T pre (some s) ([]++[x]) (l.drop (k+1))):=ah (by rw[iK.out,bT,show pV T [] x=false from rfl,nN' (by simp),Q]);have HP:Hid (lJ T s x=(0,false)):=ah (by rw[lJ,Q]);clear Q;by_cases F:aG T x=0
     ·
      have Z:Hid (V=bT T (pre++s::[]) (some x) ([]) (l.drop (k+1))):=ah (iI.out.trans (pP' F));have a4:(aG T x==0)=true:=(by rw[bq'];exact F);clear F iK iI;generalize aG T x=kx at*;go_wp2_with fail;refine gB.out.mono ?_;rintro e E⟨rfl,a⟩;have q:=ah (HB.out.trans' a);have M:Hid (aK E _ _ _ _ _):=ah (Own.ext HO.out a);have a0:wr.heap.size<=E.heap.size:=a.b.size;have bn:Hid (∀(w':World),Ext L w'->∀k:Nat,w'.cell? ⟨w.heap.size,k,none⟩=t.v.cells[k]?):=ah λw' H=>aQ (I.out.trans' H)
      clear a U Y;have W:=M;have P:=q;have r3:E.cell? ⟨g,pre.length,none⟩=some (.int .i64 s):=aK.cell M.out pre.length s (by simp);go_wp2_with fail;refine(D9 T r s x _ (ae.out.ext P.out)).mono ?_;rintro e R⟨rfl,D⟩;have K:Hid (aK R _ _ _ _ _):=ah (Own.ext W.out D);have N:=ah (P.out.trans' D);have qR:=D.b.size;clear D;rw[HP.out];have j:Ext R (R.alloc (.cells #[.int .i64 x] 3)):=eR'.aB _;obtain⟨A5,c5,w5,C,f,i,_⟩:=gJ (Own.ext K.out j) (iQ R x) (by omega) (by have h':=N.out.b.size;simp;omega);have bP:=ah f;have bD:Hid (Ext L w5):=ah (dZ (N.out.trans' j) i (λk F=>(Own.lt K.out k F).1));clear f i j;go_wp2_with(at_builtin;refine dI rfl _ _ _ rfl _ _ rfl rfl _ _ C ?_);go_roundg X;exact⟨k+1,A5,(m+1)+1,c5,pre++s::[],[],some x,by omega,by go_num,rfl,(by show Value.int .i64 ((((m+1):Nat)):Int)=Value.int .i64 (((pre++s::[]).length:Nat):Int);rw[HN.out];simp),ah (by simpa using bP.out),bD,Z,ah (by intro h;cases h),ah (by omega)⟩;omega
     ·
      have Z:Hid (V=bT T (pre) (some s) ([]++[x]) (l.drop (k+1))):=ah (iI.out.trans (nN' F));have a4:(aG T x==0)=false:=(by rw[aO];exact F);clear F iK iI;generalize aG T x=kx at*;go_wp2_with fail;refine gB.out.mono ?_;rintro e E⟨rfl,a⟩;have q:=ah (HB.out.trans' a);have M:Hid (aK E _ _ _ _ _):=ah (Own.ext HO.out a);have a0:wr.heap.size<=E.heap.size:=a.b.size;have bn:Hid (∀(w':World),Ext L w'->∀k:Nat,w'.cell? ⟨w.heap.size,k,none⟩=t.v.cells[k]?):=ah λw' H=>aQ (I.out.trans' H)
      clear a U Y;have W:=M;have P:=q;have r3:E.cell? ⟨g,pre.length,none⟩=some (.int .i64 s):=aK.cell M.out pre.length s (by simp);go_wp2_with fail;refine(D9 T r s x _ (ae.out.ext P.out)).mono ?_;rintro e R⟨rfl,D⟩;have K:Hid (aK R _ _ _ _ _):=ah (Own.ext W.out D);have N:=ah (P.out.trans' D);have qR:=D.b.size;clear D;rw[HP.out];have j:Ext R (R.alloc (.cells #[.int .i64 x] 3)):=eR'.aB _;obtain⟨A5,c5,w5,C,f,i,_⟩:=gJ (Own.ext K.out j) (iQ R x) (by omega) (by have h':=N.out.b.size;simp;omega);have bP:=ah f;have bD:Hid (Ext L w5):=ah (dZ (N.out.trans' j) i (λk F=>(Own.lt K.out k F).1));clear f i j;go_wp2_with(at_builtin;refine dI rfl _ _ _ rfl _ _ rfl rfl _ _ C ?_);go_roundg X;exact⟨k+1,A5,(m+1)+1,c5,pre,[]++[x],some s,by omega,by go_num,rfl,rfl,ah (by simpa using bP.out),bD,Z,ah (by intro h;cases h),ah (by omega)⟩;omega
   ·
    rw[List.concat_eq_append]at aq;subst aq;have ab:m=(pre++s::O).length:=(by have:=HN.out;simp at this |-;omega);have bi:pre.length<m:=(by rw[ab];simp);have be:decide ((pre.length:Int)<(m:Int))=true:=dT';have bf:decide (pre.length<m)=true:=dT'
    have ac:Hid ((pre++(some s).toList++(O++[y]))[m]? =some y):=ah (by
     have e:pre++(some s).toList++(O++[y])=(pre++s::O)++[y]:=by simp
     rw[e,ab,List.getElem?_concat_length])
    have bh:=ah ab;clear ab bi;have qE:Hid (pV T (O++[y]) x=(decide (aG T y=0)||decide (aG T x<=aG T y))):=ah SB;by_cases h1:aG T y=0
    ·
     have am:pV T (O++[y]) x=true:=(by rw[qE.out,dt' h1];rfl);have e1:(aG T y==0)=true:=(by rw[bq'];exact h1);clear h1 qE;have iI:Hid (V=if aG T x=0 then bT T (pre++s::(O++[y])) (some x) [] (l.drop (k+1))else bT T pre (some s) (O++[y]++[x]) (l.drop (k+1))):=ah (by rw[iK.out,bT,am,pP' rfl]);clear am;by_cases F:aG T x=0
     ·
      have Z:Hid (V=bT T (pre++s::(O++[y])) (some x) ([]) (l.drop (k+1))):=ah (iI.out.trans (pP' F));have a4:(aG T x==0)=true:=(by rw[bq'];exact F);clear F iK iI;generalize aG T x=kx at*;go_wp2_with fail;refine gB.out.mono ?_;rintro e E⟨rfl,a⟩;have q:=ah (HB.out.trans' a);have M:Hid (aK E _ _ _ _ _):=ah (Own.ext HO.out a);have a0:wr.heap.size<=E.heap.size:=a.b.size;have bn:Hid (∀(w':World),Ext L w'->∀k:Nat,w'.cell? ⟨w.heap.size,k,none⟩=t.v.cells[k]?):=ah λw' H=>aQ (I.out.trans' H)
      clear a U Y;have U:∀J:ak E,∀k:Nat,J.w.cell? ⟨w.heap.size,k,none⟩=t.v.cells[k]? :=λJ=>bn.out _ (q.out.trans' J.h)
      have rX:∀J:ak E,J.w.cell? ⟨g,m,none⟩=some (.int .i64 y):=dA (aK.cell M.out m y ac.out);go_wp2_with fail;refine rX' ?_
      repeat(go_big_quiet_step((go_at_call 226;exact aS (je t T y _ (HT.out.aC (I.out.trans' (q.out.trans' (ak.h _)))) HS.out))))
      refine wpQuiet_nil ?_;rintro _⟨S,rfl⟩;obtain⟨G,z⟩:=eX' S.w;have W:Hid (aK G _ _ _ _ _):=ah (by rw[z];exact Own.ext M.out S.h);have P:Hid (Ext L G):=ah (by rw[z];exact q.out.trans' S.h);rw[<- z];clear z U rX;have r3:G.cell? ⟨g,pre.length,none⟩=some (.int .i64 s):=aK.cell W.out pre.length s (by simp);have K:=W;have N:=P;have qR:=P.out.b.size;have j:Ext G (G.alloc (.cells #[.int .i64 x] 3)):=eR'.aB _;obtain⟨A5,c5,w5,C,f,i,_⟩:=gJ (Own.ext K.out j) (iQ G x) (by omega) (by have h':=N.out.b.size;simp;omega);have bP:=ah f;have bD:Hid (Ext L w5):=ah (dZ (N.out.trans' j) i (λk F=>(Own.lt K.out k F).1));clear f i j;go_wp2_with(at_builtin;refine dI rfl _ _ _ rfl _ _ rfl rfl _ _ C ?_);go_roundg X;exact⟨k+1,A5,(m+1)+1,c5,pre++s::(O++[y]),[],some x,by omega,by go_num,rfl,(by show Value.int .i64 ((((m+1):Nat)):Int)=Value.int .i64 (((pre++s::(O++[y])).length:Nat):Int);rw[HN.out];simp),ah (by simpa using bP.out),bD,Z,ah (by intro h;cases h),ah (by omega)⟩;omega
     ·
      have Z:Hid (V=bT T (pre) (some s) ((O++[y])++[x]) (l.drop (k+1))):=ah (iI.out.trans (nN' F));have a4:(aG T x==0)=false:=(by rw[aO];exact F);clear F iK iI;generalize aG T x=kx at*;go_wp2_with fail;refine gB.out.mono ?_;rintro e E⟨rfl,a⟩;have q:=ah (HB.out.trans' a);have M:Hid (aK E _ _ _ _ _):=ah (Own.ext HO.out a);have a0:wr.heap.size<=E.heap.size:=a.b.size;have bn:Hid (∀(w':World),Ext L w'->∀k:Nat,w'.cell? ⟨w.heap.size,k,none⟩=t.v.cells[k]?):=ah λw' H=>aQ (I.out.trans' H)
      clear a U Y;have U:∀J:ak E,∀k:Nat,J.w.cell? ⟨w.heap.size,k,none⟩=t.v.cells[k]? :=λJ=>bn.out _ (q.out.trans' J.h)
      have rX:∀J:ak E,J.w.cell? ⟨g,m,none⟩=some (.int .i64 y):=dA (aK.cell M.out m y ac.out);go_wp2_with fail;refine rX' ?_
      repeat(go_big_quiet_step((go_at_call 226;exact aS (je t T y _ (HT.out.aC (I.out.trans' (q.out.trans' (ak.h _)))) HS.out))))
      refine wpQuiet_nil ?_;rintro _⟨S,rfl⟩;obtain⟨G,z⟩:=eX' S.w;have W:Hid (aK G _ _ _ _ _):=ah (by rw[z];exact Own.ext M.out S.h);have P:Hid (Ext L G):=ah (by rw[z];exact q.out.trans' S.h);rw[<- z];clear z U rX;have r3:G.cell? ⟨g,pre.length,none⟩=some (.int .i64 s):=aK.cell W.out pre.length s (by simp);have K:=W;have N:=P;have qR:=P.out.b.size;have j:Ext G (G.alloc (.cells #[.int .i64 x] 3)):=eR'.aB _;obtain⟨A5,c5,w5,C,f,i,_⟩:=gJ (Own.ext K.out j) (iQ G x) (by omega) (by have h':=N.out.b.size;simp;omega);have bP:=ah f;have bD:Hid (Ext L w5):=ah (dZ (N.out.trans' j) i (λk F=>(Own.lt K.out k F).1));clear f i j;go_wp2_with(at_builtin;refine dI rfl _ _ _ rfl _ _ rfl rfl _ _ C ?_);go_roundg X;exact⟨k+1,A5,(m+1)+1,c5,pre,(O++[y])++[x],some s,by omega,by go_num,rfl,rfl,ah (by simpa using bP.out),bD,Z,ah (by intro h;cases h),ah (by omega)⟩;omega
    ·
     have e1:(aG T y==0)=false:=(by rw[aO];exact h1);by_cases h2:aG T x<=aG T y
     ·
      have am:pV T (O++[y]) x=true:=(by rw[qE.out,dt' h2,Bool.or_true]);have e2:decide (aG T x<=aG T y)=true:=dt' h2;clear h1 h2 qE;have iI:Hid (V=if aG T x=0 then bT T (pre++s::(O++[y])) (some x) [] (l.drop (k+1))else bT T pre (some s) (O++[y]++[x]) (l.drop (k+1))):=ah (by rw[iK.out,bT,am,pP' rfl]);clear am;by_cases F:aG T x=0
      ·
       have Z:Hid (V=bT T (pre++s::(O++[y])) (some x) ([]) (l.drop (k+1))):=ah (iI.out.trans (pP' F));have a4:(aG T x==0)=true:=(by rw[bq'];exact F);clear F iK iI;generalize aG T x=kx at*;go_wp2_with fail;refine gB.out.mono ?_;rintro e E⟨rfl,a⟩;have q:=ah (HB.out.trans' a);have M:Hid (aK E _ _ _ _ _):=ah (Own.ext HO.out a);have a0:wr.heap.size<=E.heap.size:=a.b.size;have bn:Hid (∀(w':World),Ext L w'->∀k:Nat,w'.cell? ⟨w.heap.size,k,none⟩=t.v.cells[k]?):=ah λw' H=>aQ (I.out.trans' H)
       clear a U Y;have U:∀J:ak E,∀k:Nat,J.w.cell? ⟨w.heap.size,k,none⟩=t.v.cells[k]? :=λJ=>bn.out _ (q.out.trans' J.h)
       have rX:∀J:ak E,J.w.cell? ⟨g,m,none⟩=some (.int .i64 y):=dA (aK.cell M.out m y ac.out);go_wp2_with fail;refine rX' ?_
       repeat(go_big_quiet_step((go_at_call 226;exact aS (je t T y _ (HT.out.aC (I.out.trans' (q.out.trans' (ak.h _)))) HS.out))))
       refine wpQuiet_nil ?_;rintro _⟨S,rfl⟩;obtain⟨G,z⟩:=eX' S.w;have W:Hid (aK G _ _ _ _ _):=ah (by rw[z];exact Own.ext M.out S.h);have P:Hid (Ext L G):=ah (by rw[z];exact q.out.trans' S.h);rw[<- z];clear z U rX;have r3:G.cell? ⟨g,pre.length,none⟩=some (.int .i64 s):=aK.cell W.out pre.length s (by simp);have K:=W;have N:=P;have qR:=P.out.b.size;have j:Ext G (G.alloc (.cells #[.int .i64 x] 3)):=eR'.aB _;obtain⟨A5,c5,w5,C,f,i,_⟩:=gJ (Own.ext K.out j) (iQ G x) (by omega) (by have h':=N.out.b.size;simp;omega);have bP:=ah f;have bD:Hid (Ext L w5):=ah (dZ (N.out.trans' j) i (λk F=>(Own.lt K.out k F).1));clear f i j;go_wp2_with(at_builtin;refine dI rfl _ _ _ rfl _ _ rfl rfl _ _ C ?_);go_roundg X;exact⟨k+1,A5,(m+1)+1,c5,pre++s::(O++[y]),[],some x,by omega,by go_num,rfl,(by show Value.int .i64 ((((m+1):Nat)):Int)=Value.int .i64 (((pre++s::(O++[y])).length:Nat):Int);rw[HN.out];simp),ah (by simpa using bP.out),bD,Z,ah (by intro h;cases h),ah (by omega)⟩;omega
      ·
       have Z:Hid (V=bT T (pre) (some s) ((O++[y])++[x]) (l.drop (k+1))):=ah (iI.out.trans (nN' F));have a4:(aG T x==0)=false:=(by rw[aO];exact F);clear F iK iI;generalize aG T x=kx at*;go_wp2_with fail;refine gB.out.mono ?_;rintro e E⟨rfl,a⟩;have q:=ah (HB.out.trans' a);have M:Hid (aK E _ _ _ _ _):=ah (Own.ext HO.out a);have a0:wr.heap.size<=E.heap.size:=a.b.size;have bn:Hid (∀(w':World),Ext L w'->∀k:Nat,w'.cell? ⟨w.heap.size,k,none⟩=t.v.cells[k]?):=ah λw' H=>aQ (I.out.trans' H)
       clear a U Y;have U:∀J:ak E,∀k:Nat,J.w.cell? ⟨w.heap.size,k,none⟩=t.v.cells[k]? :=λJ=>bn.out _ (q.out.trans' J.h)
       have rX:∀J:ak E,J.w.cell? ⟨g,m,none⟩=some (.int .i64 y):=dA (aK.cell M.out m y ac.out);go_wp2_with fail;refine rX' ?_
       repeat(go_big_quiet_step((go_at_call 226;exact aS (je t T y _ (HT.out.aC (I.out.trans' (q.out.trans' (ak.h _)))) HS.out))))
       refine wpQuiet_nil ?_;rintro _⟨S,rfl⟩;obtain⟨G,z⟩:=eX' S.w;have W:Hid (aK G _ _ _ _ _):=ah (by rw[z];exact Own.ext M.out S.h);have P:Hid (Ext L G):=ah (by rw[z];exact q.out.trans' S.h);rw[<- z];clear z U rX;have r3:G.cell? ⟨g,pre.length,none⟩=some (.int .i64 s):=aK.cell W.out pre.length s (by simp);have K:=W;have N:=P;have qR:=P.out.b.size;have j:Ext G (G.alloc (.cells #[.int .i64 x] 3)):=eR'.aB _;obtain⟨A5,c5,w5,C,f,i,_⟩:=gJ (Own.ext K.out j) (iQ G x) (by omega) (by have h':=N.out.b.size;simp;omega);have bP:=ah f;have bD:Hid (Ext L w5):=ah (dZ (N.out.trans' j) i (λk F=>(Own.lt K.out k F).1));clear f i j;go_wp2_with(at_builtin;refine dI rfl _ _ _ rfl _ _ rfl rfl _ _ C ?_);go_roundg X;exact⟨k+1,A5,(m+1)+1,c5,pre,(O++[y])++[x],some s,by omega,by go_num,rfl,rfl,ah (by simpa using bP.out),bD,Z,ah (by intro h;cases h),ah (by omega)⟩;omega
     ·
      have b4:Hid (pV T (O++[y]) x=false):=ah (by rw[qE.out,df' h1,df' h2];rfl);have e2:decide (aG T x<=aG T y)=false:=df' h2;clear h1 h2 qE;cases Q:pairT T s x with
      |some y2=>
       have Z:Hid (V=bT T pre (some y2) ((O++[y])) (l.drop (k+1))):=ah (by rw[iK.out,bT,b4.out,nN' (by simp),Q]);have HP:Hid (lJ T s x=(y2,true)):=ah (by rw[lJ,Q]);clear Q iK;go_wp2_with fail;refine gB.out.mono ?_;rintro e E⟨rfl,a⟩;have q:=ah (HB.out.trans' a);have M:Hid (aK E _ _ _ _ _):=ah (Own.ext HO.out a);have a0:wr.heap.size<=E.heap.size:=a.b.size;have bn:Hid (∀(w':World),Ext L w'->∀k:Nat,w'.cell? ⟨w.heap.size,k,none⟩=t.v.cells[k]?):=ah λw' H=>aQ (I.out.trans' H)
       clear a U Y;have U:∀J:ak E,∀k:Nat,J.w.cell? ⟨w.heap.size,k,none⟩=t.v.cells[k]? :=λJ=>bn.out _ (q.out.trans' J.h)
       have rX:∀J:ak E,J.w.cell? ⟨g,m,none⟩=some (.int .i64 y):=dA (aK.cell M.out m y ac.out);go_wp2_with fail;refine rX' ?_
       repeat(go_big_quiet_step((go_at_call 226;exact aS (je t T y _ (HT.out.aC (I.out.trans' (q.out.trans' (ak.h _)))) HS.out))))
       refine wpQuiet_nil ?_;rintro _⟨S,rfl⟩;obtain⟨G,z⟩:=eX' S.w;have W:Hid (aK G _ _ _ _ _):=ah (by rw[z];exact Own.ext M.out S.h);have P:Hid (Ext L G):=ah (by rw[z];exact q.out.trans' S.h);rw[<- z];clear z U rX;have r3:G.cell? ⟨g,pre.length,none⟩=some (.int .i64 s):=aK.cell W.out pre.length s (by simp);go_wp2_with fail;refine(D9 T r s x _ (ae.out.ext P.out)).mono ?_;rintro e R⟨rfl,D⟩;have K:Hid (aK R _ _ _ _ _):=ah (Own.ext W.out D);have N:=ah (P.out.trans' D);have qR:=D.b.size;clear D;rw[HP.out];have r0:R.cell? ⟨g,pre.length,none⟩=some (.int .i64 s):=K.out.cell pre.length s (by simp);have f0:R.frozen? ⟨g,pre.length,none⟩=false:=K.out.frozen pre.length;have bP:=ah (K.out.set pre.length y2);have aL:L.heap.size<=g:=(Own.lt K.out g rfl).1;have bD:=ah (N.out.lI (p:=⟨g,pre.length,none⟩) aL (.int .i64 y2));generalize al:pre.length=p at*;go_wp2;go_roundg X;exact⟨k+1,some ⟨g,0,none⟩,m+1,c2,pre,(O++[y]),some y2,by omega,by go_num,rfl,(by rw[<- al];rfl),ah (by have h5:=bP.out;rw[<- al]at h5 |-;simpa[List.set_append]using h5),bD,Z,ah (by intro h;cases h),ah (by omega)⟩;omega
      |none=>
       have iI:Hid (V=if aG T x=0 then bT T (pre++s::((O++[y]))) (some x) [] (l.drop (k+1))else bT T pre (some s) ((O++[y])++[x]) (l.drop (k+1))):=ah (by rw[iK.out,bT,b4.out,nN' (by simp),Q]);have HP:Hid (lJ T s x=(0,false)):=ah (by rw[lJ,Q]);clear Q;by_cases F:aG T x=0
       ·
        have Z:Hid (V=bT T (pre++s::(O++[y])) (some x) ([]) (l.drop (k+1))):=ah (iI.out.trans (pP' F));have a4:(aG T x==0)=true:=(by rw[bq'];exact F);clear F iK iI;generalize aG T x=kx at*;go_wp2_with fail;refine gB.out.mono ?_;rintro e E⟨rfl,a⟩;have q:=ah (HB.out.trans' a);have M:Hid (aK E _ _ _ _ _):=ah (Own.ext HO.out a);have a0:wr.heap.size<=E.heap.size:=a.b.size;have bn:Hid (∀(w':World),Ext L w'->∀k:Nat,w'.cell? ⟨w.heap.size,k,none⟩=t.v.cells[k]?):=ah λw' H=>aQ (I.out.trans' H)
        clear a U Y;have U:∀J:ak E,∀k:Nat,J.w.cell? ⟨w.heap.size,k,none⟩=t.v.cells[k]? :=λJ=>bn.out _ (q.out.trans' J.h)
        have rX:∀J:ak E,J.w.cell? ⟨g,m,none⟩=some (.int .i64 y):=dA (aK.cell M.out m y ac.out);go_wp2_with fail;refine rX' ?_
        repeat(go_big_quiet_step((go_at_call 226;exact aS (je t T y _ (HT.out.aC (I.out.trans' (q.out.trans' (ak.h _)))) HS.out))))
        refine wpQuiet_nil ?_;rintro _⟨S,rfl⟩;obtain⟨G,z⟩:=eX' S.w;have W:Hid (aK G _ _ _ _ _):=ah (by rw[z];exact Own.ext M.out S.h);have P:Hid (Ext L G):=ah (by rw[z];exact q.out.trans' S.h);rw[<- z];clear z U rX;have r3:G.cell? ⟨g,pre.length,none⟩=some (.int .i64 s):=aK.cell W.out pre.length s (by simp);go_wp2_with fail;refine(D9 T r s x _ (ae.out.ext P.out)).mono ?_;rintro e R⟨rfl,D⟩;have K:Hid (aK R _ _ _ _ _):=ah (Own.ext W.out D);have N:=ah (P.out.trans' D);have qR:=D.b.size;clear D;rw[HP.out];have j:Ext R (R.alloc (.cells #[.int .i64 x] 3)):=eR'.aB _;obtain⟨A5,c5,w5,C,f,i,_⟩:=gJ (Own.ext K.out j) (iQ R x) (by omega) (by have h':=N.out.b.size;simp;omega);have bP:=ah f;have bD:Hid (Ext L w5):=ah (dZ (N.out.trans' j) i (λk F=>(Own.lt K.out k F).1));clear f i j;go_wp2_with(at_builtin;refine dI rfl _ _ _ rfl _ _ rfl rfl _ _ C ?_);go_roundg X;exact⟨k+1,A5,(m+1)+1,c5,pre++s::(O++[y]),[],some x,by omega,by go_num,rfl,(by show Value.int .i64 ((((m+1):Nat)):Int)=Value.int .i64 (((pre++s::(O++[y])).length:Nat):Int);rw[HN.out];simp),ah (by simpa using bP.out),bD,Z,ah (by intro h;cases h),ah (by omega)⟩;omega
       ·
        have Z:Hid (V=bT T (pre) (some s) ((O++[y])++[x]) (l.drop (k+1))):=ah (iI.out.trans (nN' F));have a4:(aG T x==0)=false:=(by rw[aO];exact F);clear F iK iI;generalize aG T x=kx at*;go_wp2_with fail;refine gB.out.mono ?_;rintro e E⟨rfl,a⟩;have q:=ah (HB.out.trans' a);have M:Hid (aK E _ _ _ _ _):=ah (Own.ext HO.out a);have a0:wr.heap.size<=E.heap.size:=a.b.size;have bn:Hid (∀(w':World),Ext L w'->∀k:Nat,w'.cell? ⟨w.heap.size,k,none⟩=t.v.cells[k]?):=ah λw' H=>aQ (I.out.trans' H)
        clear a U Y;have U:∀J:ak E,∀k:Nat,J.w.cell? ⟨w.heap.size,k,none⟩=t.v.cells[k]? :=λJ=>bn.out _ (q.out.trans' J.h)
        have rX:∀J:ak E,J.w.cell? ⟨g,m,none⟩=some (.int .i64 y):=dA (aK.cell M.out m y ac.out);go_wp2_with fail;refine rX' ?_
        repeat(go_big_quiet_step((go_at_call 226;exact aS (je t T y _ (HT.out.aC (I.out.trans' (q.out.trans' (ak.h _)))) HS.out))))
        refine wpQuiet_nil ?_;rintro _⟨S,rfl⟩;obtain⟨G,z⟩:=eX' S.w;have W:Hid (aK G _ _ _ _ _):=ah (by rw[z];exact Own.ext M.out S.h);have P:Hid (Ext L G):=ah (by rw[z];exact q.out.trans' S.h);rw[<- z];clear z U rX;have r3:G.cell? ⟨g,pre.length,none⟩=some (.int .i64 s):=aK.cell W.out pre.length s (by simp);go_wp2_with fail;refine(D9 T r s x _ (ae.out.ext P.out)).mono ?_;rintro e R⟨rfl,D⟩;have K:Hid (aK R _ _ _ _ _):=ah (Own.ext W.out D);have N:=ah (P.out.trans' D);have qR:=D.b.size;clear D;rw[HP.out];have j:Ext R (R.alloc (.cells #[.int .i64 x] 3)):=eR'.aB _;obtain⟨A5,c5,w5,C,f,i,_⟩:=gJ (Own.ext K.out j) (iQ R x) (by omega) (by have h':=N.out.b.size;simp;omega);have bP:=ah f;have bD:Hid (Ext L w5):=ah (dZ (N.out.trans' j) i (λk F=>(Own.lt K.out k F).1));clear f i j;go_wp2_with(at_builtin;refine dI rfl _ _ _ rfl _ _ rfl rfl _ _ C ?_);go_roundg X;exact⟨k+1,A5,(m+1)+1,c5,pre,(O++[y])++[x],some s,by omega,by go_num,rfl,rfl,ah (by simpa using bP.out),bD,Z,ah (by intro h;cases h),ah (by omega)⟩;omega
 .have Z:Hid (V=pre++st.toList++tail):=ah (by rw[HR.out,bV l k (by omega),Du]);have bj:Hid (aF wr ⟨A2,n2,c2⟩ V):=ah (by rw[Z.out];exact aK.ints HO.out);have hx:=ao.trans' pq.out;have bk:Hid (∀b,aH A2=some b->w.heap.size<=b):=ah (λb hb=>by have h1:=(HO.out.lt b hb).1;have h2:=(ao.trans' I.out).b.size;omega);go_wp2;go_ret;exact⟨_,_,_,rfl,bj.out,hx,bk.out⟩
def qN(T:aj):Nat->List Int->Int
 |_,[]=> -1
 |k,x::r=>if kU T x=5 then qN T (k+1) r else k
def sZ(T:aj):List Int->Int
 |[]=> -1
 |x::r=>if kU T x=5 then sZ T r else r.length
def jM(T:aj)(l:List Int)(i:Nat)(up:Bool):Int:=if up=true then qN T (i+1) (l.drop (i+1))else sZ T (l.take i).reverse
def uI(T:aj)(l:List Int)(i:Int):Bool:=aX T l==0&&decide (0<=i)&&decide (i<(l.length:Int))
def leftV(T:aj)(l:List Int)(i:Int):Int:=if uI T l i=true then jM T l i.toNat false else -1
def xX(T:aj)(l:List Int)(i:Int):Int:=if uI T l i=true then jM T l i.toNat true else -1
def gq(T:aj)(l:List Int)(i side:Int):Bool:=if i<0 then false else(kU T (l.getD i.toNat 0)==side||kU T (l.getD i.toNat 0)==3)
def ny(T:aj)(l:List Int)(i:Nat):Bool:=
 if(!(l.getD i 0==8204)&& !(l.getD i 0==8205))=true then true
 else if(decide (0<i)&&aG T (l.getD (i-1) 0)==9)=true then true
 else l.getD i 0==8204&&gq T l (jM T l i false) 1&&gq T l (jM T l i true) 2
def wU(T:aj)(l:List Int)(i:Int):Bool:=uI T l i&&ny T l i.toNat
def yu(T:aj)(l:List Int):Nat->Nat->Int×Int
 |0,_=>(0,0)
 |n+1,i=>if ny T l i=true then yu T l n (i+1)else(i,17)
def fU(T:aj)(l:List Int):Int×Int:=if aX T l=0 then yu T l l.length 0 else(0,aX T l)
theorem UC(T:aj):∀(l:List Int)(k:Nat),qN T k l<(k+l.length:Nat)/\(qN T k l= -1\/(k:Int)<=qN T k l)
 |[],k=>⟨by simp[qN];omega,.inl rfl⟩
 |x::r,k=>by
  simp only[qN,List.length_cons];by_cases h:kU T x=5
  .rw[pP' h];obtain⟨b,a⟩:=UC T r (k+1);exact⟨by omega,a.imp id (by omega)⟩
  .rw[nN' h];omega
theorem TG(T:aj):∀(l:List Int),sZ T l<(l.length:Int)/\ -1<=sZ T l
 |[]=>by simp[sZ]
 |x::r=>by
  simp only[sZ,List.length_cons];by_cases h:kU T x=5
  .rw[pP' h];obtain⟨a,b⟩:=TG T r;omega
  .rw[nN' h];omega
theorem I5(i:Nat)(h:i<l.length)(a:Bool):jM T l i a<(l.length:Int)/\ -1<=jM T l i a:=by
 cases a
 .have:=TG T (l.take i).reverse;simp only[List.length_reverse,List.length_take]at this;simp only[jM,Bool.false_eq_true,if_false];omega
 .have:=UC T (l.drop (i+1)) (i+1);simp only[List.length_drop]at this;simp only[jM,if_true];omega
theorem BG{t:TV}{w b w':World}(a:b=(tW' w t))(c:Ext b w'):∀k:Nat,w'.cell? ⟨w.heap.size,k,none⟩=t.v.cells[k]? :=by
 subst a;exact aQ c
theorem Sl(k:Nat)(h:k<l.length):(l.take (k+1)).reverse=l[k]::(l.take k).reverse:=by
 rw[tS' h];simp
theorem MP{T:aj}{l:List Int}(h:aX T l=0):dw T=true/\l.length<=4096:=by
 unfold aX at h;cases a:dw T
 .rw[a]at h;simp at h
 .rw[a]at h;simp only[Bool.true_eq_false,if_false]at h;by_cases b:4096<(l.length:Int)
  .rw[pP' b]at h;omega
  .exact⟨rfl,by omega⟩
theorem Dq(i:Nat)(w:World)(ht:aW w t T)(O:gU T)(h:aF w ⟨A,n,c⟩ l)(Q:i<l.length):
 cE' 297 #[t.v,.slice A n c,.int .i64 i,.int .i64 1] w (.int .i64 (jM T l i true)):=by
 obtain⟨F,_,_⟩:=h.len;subst F;have G:=ah ht;have H:=ah h;have m:Ext w (w.alloc (.cells t.v.cells 26)):=eR'.aB _;have I:Hid (jM T l i true=qN T (i+1) (l.drop (i+1))):=rfl;go_enter func297,ntmps297;go_wp2_with fail;go_step3;go_wp2_with fail;go_step3;go_wp2;go_loopw[2,9] (λj f wr=>∃(k:Nat),k<=l.length/\j=.int .i64 k/\f=.int .i64 (-1)/\Hid (jM T l i true=qN T k (l.drop k))/\Ext (w.alloc (.cells t.v.cells 26)) wr) (λj _ _=>l.length-(intOf j).toNat);exact⟨i+1,by omega,by go_num,rfl,I,eR'⟩;obtain⟨k,P,rfl,rfl,s,a⟩:=hrel;have d:=m.trans' a;have J:=z0' k;by_cases p:k<l.length
 .have D:=ah (drop_at l k p);obtain⟨b,o,K,E⟩:=(H.out.ext d).at_ p;subst K;generalize l[k]=x at*;have y:=aJ s (show _=if kU T x=5 then qN T (k+1) (l.drop (k+1))else(k:Int)from by rw[D.out];rfl);have L:=λz:ak wr=>bT' t (a.trans' z.h)
  have M:∀z:ak wr,z.w.cell? ⟨b,o+k,none⟩=some (.int .i64 x):=dA E;have B:(k:Int)<(l.length:Int):=by omega
  clear s D E;go_wp2_with fail;refine rX' ?_
  repeat(go_big_quiet_step((go_at_call 309;exact aS (KH t T x _ (G.out.aC (d.trans' (ak.h _))) O))))
  refine wpQuiet_nil ?_;rintro _⟨N,rfl⟩;have q:=a.trans' N.h;clear L M;by_cases g:kU T x=5
  .have C:(kU T x==5)=true:=by rw[bq'];exact g
   have r:=aJ y (pP' g);clear y g;go_wp2;go_roundw;exact⟨k+1,by omega,by go_num,rfl,r,q⟩;simp[intOf];omega
  .have C:(kU T x==5)=false:=by rw[aO];exact g
   have r:=aJ y (nN' g);clear y g;go_wp2_with fail;rw[Exit.noGoto_ret];go_ret;exact⟨aV r.out.symm,m.trans' q⟩
 .have r:=aJ s (show _= -1 from by rw[bV l k (by omega)];rfl);have B:¬(k:Int)<(l.length:Int):=by omega
  clear s;go_wp2;go_ret;exact⟨aV r.out.symm,d⟩
theorem Dp(i:Nat)(w:World)(ht:aW w t T)(R:gU T)(h:aF w ⟨A,n,c⟩ l)(U:i<l.length):
 cE' 297 #[t.v,.slice A n c,.int .i64 i,.int .i64 (-1)] w (.int .i64 (jM T l i false)):=by
 obtain⟨J,_,_⟩:=h.len;subst J;have K:=ah ht;have L:=ah h;have p:Ext w (w.alloc (.cells t.v.cells 26)):=eR'.aB _;have M:Hid (jM T l i false=sZ T (l.take i).reverse):=rfl;go_enter func297,ntmps297;go_wp2_with fail;go_step3;go_wp2_with fail;go_step3;go_wp2;go_loopw[2,9] (λj f wr=>∃(k:Nat),k<=l.length/\j=.int .i64 ((k:Int)-1)/\f=.int .i64 (-1)/\Hid (jM T l i false=sZ T (l.take k).reverse)/\Ext (w.alloc (.cells t.v.cells 26)) wr) (λj _ _=>(intOf j+1).toNat);exact⟨i,by omega,by go_num,rfl,M,eR'⟩;obtain⟨k,S,rfl,rfl,B,a⟩:=hrel;have d:=p.trans' a;rcases Nat.eq_zero_or_pos k with g|g
 .subst g;have r:=aJ B (show _= -1 from rfl);have D:¬(0:Int)<=((0:Nat):Int)-1:=by omega
  clear B;go_wp2;go_ret;exact⟨aV r.out.symm,d⟩
 .obtain⟨k,rfl⟩:=gS' k;have s:k<l.length:=by omega
  have E:((k+1:Nat):Int)-1=(k:Int):=by omega
  rw[E];have g:=z0' k;have H:Hid ((l.take (k+1)).reverse=l[k]::(l.take k).reverse):=Sl l k s;have y:Hid (((l.take k).reverse.length:Int)=(k:Int)):=ah (by simp;omega);obtain⟨b,o,N,I⟩:=(L.out.ext d).at_ s;subst N;generalize l[k]=x at*;have C:=aJ B (show _=if kU T x=5 then sZ T (l.take k).reverse else(k:Int)from by rw[H.out,<- y.out];rfl);have O:=λF:ak wr=>bT' t (a.trans' F.h)
  have P:∀F:ak wr,F.w.cell? ⟨b,o+k,none⟩=some (.int .i64 x):=dA I;have D:(k:Int)<(l.length:Int):=by omega
  clear B H I y;go_wp2_with fail;refine rX' ?_
  repeat(go_big_quiet_step((go_at_call 309;exact aS (KH t T x _ (K.out.aC (d.trans' (ak.h _))) R))))
  refine wpQuiet_nil ?_;rintro _⟨Q,rfl⟩;have z:=a.trans' Q.h;clear O P;by_cases m:kU T x=5
  .have G:(kU T x==5)=true:=by rw[bq'];exact m
   have r:=aJ C (pP' m);clear C m;go_wp2;go_roundw;exact⟨k,by omega,by trivial,rfl,r,z⟩;simp[intOf];omega
  .have G:(kU T x==5)=false:=by rw[aO];exact m
   have r:=aJ C (nN' m);clear C m;go_wp2_with fail;rw[Exit.noGoto_ret];go_ret;exact⟨aV r.out.symm,p.trans' z⟩
theorem wV(i d:Int)(w:World)(ht:aW w t T)(L:gU T)(h:aF w ⟨A,n,c⟩ l)(M:i<(l.length:Int)):
 cE' 296 #[t.v,.slice A n c,.int .i64 i,.int .i64 d] w (.bool (gq T l i d)):=by
 obtain⟨B,_,_⟩:=h.len;subst B;have C:=ah ht;have D:=ah h;obtain⟨j,g⟩:=eX' (w.alloc (.cells #[.slice t.s0.a t.s0.n t.s0.c,.slice t.s1.a t.s1.n t.s1.c,.slice t.s2.a t.s2.n t.s2.c,.slice t.s3.a t.s3.n t.s3.c,.slice t.s4.a t.s4.n t.s4.c,.slice t.s5.a t.s5.n t.s5.c,.slice t.s6.a t.s6.n t.s6.c,.slice t.s7.a t.s7.n t.s7.c,.slice t.s8.a t.s8.n t.s8.c,.slice t.s9.a t.s9.n t.s9.c,.slice t.s10.a t.s10.n t.s10.c,.slice t.s11.a t.s11.n t.s11.c] 26));have f:Ext w j:=by rw[g];exact eR'.aB _
 by_cases s:i<0
 .have m:Hid (gq T l i d=false):=ah (by simp[gq,s]);go_enter func296,ntmps296;go_wp2;go_ret;exact⟨aP m.out.symm,by rw[g]at f;exact f⟩
 .obtain⟨k,rfl⟩:=iN' i;have p:k<l.length:=by omega
  have y:Hid (l.getD k 0=l[k]):=getD_lt l k 0 p;obtain⟨b,o,E,z⟩:=(D.out.ext f).at_ p;subst E;generalize l[k]=x at*;have m:Hid (gq T l k d=(kU T x==d||kU T x==3)):=ah (by unfold gq;rw[nN' s,Int.toNat_natCast,y.out]);have F:∀q:ak j,∀k:Nat,q.w.cell? ⟨w.heap.size,k,none⟩=t.v.cells[k]? :=λq=>BG g q.h
  have G:∀q:ak j,q.w.cell? ⟨b,o+k,none⟩=some (.int .i64 x):=dA z;have H:=z0' k;clear y z;go_enter func296,ntmps296;go_wp2_with fail;rw[<- g];refine rX' ?_
  repeat(go_big_quiet_step((go_at_call 309;exact aS (KH t T x _ (C.out.aC (f.trans' (ak.h _))) L))))
  refine wpQuiet_nil ?_;rintro _⟨I,rfl⟩;have r:=f.trans' I.h;clear F G g f;generalize J:(kU T x==d)=b1 at m;generalize K:(kU T x==3)=b2 at m;cases b1<;>cases b2
  all_goals
   go_wp2;go_ret;exact⟨aP m.out.symm,r⟩
theorem QW(i:Nat)(w:World)(ht:aW w t T)(q:gU T)(h:aF w ⟨A,n,c⟩ l)(D:i<l.length):
 cE' 278 #[t.v,.slice A n c,.int .i64 i] w (.bool (ny T l i)):=by
 obtain⟨hn,_,_⟩:=h.len;subst hn;have m:=ah ht;have r:=ah h;obtain⟨M,f⟩:=eX' (w.alloc (.cells #[.slice t.s0.a t.s0.n t.s0.c,.slice t.s1.a t.s1.n t.s1.c,.slice t.s2.a t.s2.n t.s2.c,.slice t.s3.a t.s3.n t.s3.c,.slice t.s4.a t.s4.n t.s4.c,.slice t.s5.a t.s5.n t.s5.c,.slice t.s6.a t.s6.n t.s6.c,.slice t.s7.a t.s7.n t.s7.c,.slice t.s8.a t.s8.n t.s8.c,.slice t.s9.a t.s9.n t.s9.c,.slice t.s10.a t.s10.n t.s10.c,.slice t.s11.a t.s11.n t.s11.c] 26));have g:Ext w M:=by rw[f];exact eR'.aB _
 have HD:Hid (l.getD i 0=l[i]):=getD_lt l i 0 D;obtain⟨b,o,ha,V⟩:=(r.out.ext g).at_ D;subst ha;have E:=ah (I5 T l i D false);have F:=ah (I5 T l i D true);generalize l[i]=x at*
 have R:Hid (ny T l i=if(!(x==8204)&& !(x==8205))=true then true else if(decide (0<i)&&aG T (l.getD (i-1) 0)==9)=true then true
  else x==8204&&gq T l (jM T l i false) 1&&gq T l (jM T l i true) 2):=ah (by unfold ny;rw[HD.out])
 have S:∀j:ak M,∀k:Nat,j.w.cell? ⟨w.heap.size,k,none⟩=t.v.cells[k]? :=λj=>BG f j.h
 have L:∀j:ak M,j.w.cell? ⟨b,o+i,none⟩=some (.int .i64 x):=dA V;have a9:=z0' i;have aa:(i:Int)<(l.length:Int):=by omega
 clear HD;have J:(w.alloc (.cells #[.slice t.s0.a t.s0.n t.s0.c,.slice t.s1.a t.s1.n t.s1.c,.slice t.s2.a t.s2.n t.s2.c,.slice t.s3.a t.s3.n t.s3.c,.slice t.s4.a t.s4.n t.s4.c,.slice t.s5.a t.s5.n t.s5.c,.slice t.s6.a t.s6.n t.s6.c,.slice t.s7.a t.s7.n t.s7.c,.slice t.s8.a t.s8.n t.s8.c,.slice t.s9.a t.s9.n t.s9.c,.slice t.s10.a t.s10.n t.s10.c,.slice t.s11.a t.s11.n t.s11.c] 26)).cell? ⟨b,o+i,none⟩=some (.int .i64 x):=by rw[<- f];exact V
 clear V;by_cases G:x=8204\/x=8205
 .have U:Hid (∀W,(decide (0<i)&&aG T (l.getD (i-1) 0)==9)=W->ny T l i=if W=true then true else(x==8204&&gq T l (jM T l i false) 1&&gq T l (jM T l i true) 2)):=ah (by
   intro W h
   rw[R.out,h,nN' (by rcases G with rfl|rfl<;>decide)])
  clear R
  have X:Hid (0<i->∃y,l.getD (i-1) 0=y/\M.cell? ⟨b,o+(i-1),none⟩=some (.int .i64 y)):=ah (λh0=>by
   obtain⟨b',o',Y,h2⟩:=(r.out.ext g).at_ (i:=i-1) (by omega);injection Y with Y;injection Y with e1 e2;subst e1 e2
   exact⟨_,getD_lt l (i-1) 0 (by omega),h2⟩)
  rcases Nat.eq_zero_or_pos i with K|K
  .have hd:decide ((0:Int)<(i:Int))=false:=dF';have P:decide (0<i)=false:=dF';have B:Hid (ny T l i=(x==8204&&gq T l (jM T l i false) 1&&gq T l (jM T l i true) 2)):=ah (by rw[U.out false (by simp[K])];rfl);clear U X K;rcases G with rfl|rfl
   .have C:Hid (ny T l i=(gq T l (jM T l i false) 1&&gq T l (jM T l i true) 2)):=ah (by rw[B.out];simp);clear B;go_enter func278,ntmps278;go_wp2_with fail;rw[<- f];refine rX' ?_
    repeat(go_big_quiet_step(fail))
    refine wpQuiet_nil ?_;rintro _⟨s,rfl⟩;have d:=g.trans' s.h;have Z:∀j:ak s.w,∀k:Nat,j.w.cell? ⟨w.heap.size,k,none⟩=t.v.cells[k]? :=λj=>BG f (s.h.trans' j.h)
    have N:∀j:ak s.w,j.w.cell? ⟨b,o+i,none⟩=some (.int .i64 8204):=dA (L s);clear S L J f g;cases hJ:gq T l (jM T l i false) 1
    .have p:Hid (ny T l i=false):=ah (by rw[C.out,hJ];rfl);clear C;go_wp2_with fail;refine rX' ?_
     repeat(go_big_quiet_step((first|(go_at_call 297;first|with_reducible exact aS (Dp t T l _ _ c i _ (m.out.aC (d.trans' (ak.h _))) q (r.out.ext (d.trans' (ak.h _))) D)|with_reducible exact aS (Dq t T l _ _ c i _ (m.out.aC (d.trans' (ak.h _))) q (r.out.ext (d.trans' (ak.h _))) D))|(go_at_call 296;first|with_reducible exact aS (wV t T l _ _ c _ _ _ (m.out.aC (d.trans' (ak.h _))) q (r.out.ext (d.trans' (ak.h _))) E.out.1)|with_reducible exact aS (wV t T l _ _ c _ _ _ (m.out.aC (d.trans' (ak.h _))) q (r.out.ext (d.trans' (ak.h _))) F.out.1)))))
     refine wpQuiet_nil ?_;rintro _⟨H,rfl⟩;have z:=d.trans' H.h;go_wp2;go_ret;exact⟨aP p.out.symm,z⟩
    .have p:Hid (ny T l i=gq T l (jM T l i true) 2):=ah (by rw[C.out,hJ];rfl);clear C;go_wp2_with fail;refine rX' ?_
     repeat(go_big_quiet_step((first|(go_at_call 297;first|with_reducible exact aS (Dp t T l _ _ c i _ (m.out.aC (d.trans' (ak.h _))) q (r.out.ext (d.trans' (ak.h _))) D)|with_reducible exact aS (Dq t T l _ _ c i _ (m.out.aC (d.trans' (ak.h _))) q (r.out.ext (d.trans' (ak.h _))) D))|(go_at_call 296;first|with_reducible exact aS (wV t T l _ _ c _ _ _ (m.out.aC (d.trans' (ak.h _))) q (r.out.ext (d.trans' (ak.h _))) E.out.1)|with_reducible exact aS (wV t T l _ _ c _ _ _ (m.out.aC (d.trans' (ak.h _))) q (r.out.ext (d.trans' (ak.h _))) F.out.1)))))
     refine wpQuiet_nil ?_;rintro _⟨H,rfl⟩;have z:=d.trans' H.h;go_wp2;go_ret;exact⟨aP p.out.symm,z⟩
   .have p:Hid (ny T l i=false):=ah (by rw[B.out];rfl);clear B;go_enter func278,ntmps278;go_wp2_with fail;rw[<- f];refine rX' ?_
    repeat(go_big_quiet_step(fail))
    refine wpQuiet_nil ?_;rintro _⟨s,rfl⟩;have d:=g.trans' s.h;have Z:∀j:ak s.w,∀k:Nat,j.w.cell? ⟨w.heap.size,k,none⟩=t.v.cells[k]? :=λj=>BG f (s.h.trans' j.h)
    have N:∀j:ak s.w,j.w.cell? ⟨b,o+i,none⟩=some (.int .i64 8205):=dA (L s);clear S L J f g;go_wp2_with fail;refine rX' ?_
    repeat(go_big_quiet_step((first|(go_at_call 297;first|with_reducible exact aS (Dp t T l _ _ c i _ (m.out.aC (d.trans' (ak.h _))) q (r.out.ext (d.trans' (ak.h _))) D)|with_reducible exact aS (Dq t T l _ _ c i _ (m.out.aC (d.trans' (ak.h _))) q (r.out.ext (d.trans' (ak.h _))) D))|(go_at_call 296;first|with_reducible exact aS (wV t T l _ _ c _ _ _ (m.out.aC (d.trans' (ak.h _))) q (r.out.ext (d.trans' (ak.h _))) E.out.1)|with_reducible exact aS (wV t T l _ _ c _ _ _ (m.out.aC (d.trans' (ak.h _))) q (r.out.ext (d.trans' (ak.h _))) F.out.1)))))
    refine wpQuiet_nil ?_;rintro _⟨H,rfl⟩;have z:=d.trans' H.h;go_wp2;go_ret;exact⟨aP p.out.symm,z⟩
  .obtain⟨y,hy,O⟩:=X.out K;obtain⟨k,hk⟩:∃k,i=k+1:=⟨i-1,by omega⟩;have hd:decide ((0:Int)<(i:Int))=true:=dT';have P:decide (0<i)=true:=dT';have a5:(i:Int)-1=(k:Int):=(by omega);have Q:i-1=k:=(by omega);rw[Q]at O;have rY:∀j:ak M,j.w.cell? ⟨b,o+k,none⟩=some (.int .i64 y):=dA O;have af:=z0' k;have ag:(k:Int)<(l.length:Int):=(by omega);have I:=U.out _ rfl;rw[hy,P]at I;clear U X O hk Q;cases hv:(aG T y==9)
   .have B:Hid (ny T l i=(x==8204&&gq T l (jM T l i false) 1&&gq T l (jM T l i true) 2)):=ah (by rw[I,hv];rfl);clear I;rcases G with rfl|rfl
    .have C:Hid (ny T l i=(gq T l (jM T l i false) 1&&gq T l (jM T l i true) 2)):=ah (by rw[B.out];simp);clear B;go_enter func278,ntmps278;go_wp2_with fail;rw[<- f];refine rX' ?_
     repeat(go_big_quiet_step((go_at_call 226;with_reducible exact aS (je t T y _ (m.out.aC (g.trans' (ak.h _))) q))))
     refine wpQuiet_nil ?_;rintro _⟨s,rfl⟩;have d:=g.trans' s.h;have Z:∀j:ak s.w,∀k:Nat,j.w.cell? ⟨w.heap.size,k,none⟩=t.v.cells[k]? :=λj=>BG f (s.h.trans' j.h)
     have N:∀j:ak s.w,j.w.cell? ⟨b,o+i,none⟩=some (.int .i64 8204):=dA (L s);clear S L J f g;cases hJ:gq T l (jM T l i false) 1
     .have p:Hid (ny T l i=false):=ah (by rw[C.out,hJ];rfl);clear C;go_wp2_with fail;refine rX' ?_
      repeat(go_big_quiet_step((first|(go_at_call 297;first|with_reducible exact aS (Dp t T l _ _ c i _ (m.out.aC (d.trans' (ak.h _))) q (r.out.ext (d.trans' (ak.h _))) D)|with_reducible exact aS (Dq t T l _ _ c i _ (m.out.aC (d.trans' (ak.h _))) q (r.out.ext (d.trans' (ak.h _))) D))|(go_at_call 296;first|with_reducible exact aS (wV t T l _ _ c _ _ _ (m.out.aC (d.trans' (ak.h _))) q (r.out.ext (d.trans' (ak.h _))) E.out.1)|with_reducible exact aS (wV t T l _ _ c _ _ _ (m.out.aC (d.trans' (ak.h _))) q (r.out.ext (d.trans' (ak.h _))) F.out.1)))))
      refine wpQuiet_nil ?_;rintro _⟨H,rfl⟩;have z:=d.trans' H.h;go_wp2;go_ret;exact⟨aP p.out.symm,z⟩
     .have p:Hid (ny T l i=gq T l (jM T l i true) 2):=ah (by rw[C.out,hJ];rfl);clear C;go_wp2_with fail;refine rX' ?_
      repeat(go_big_quiet_step((first|(go_at_call 297;first|with_reducible exact aS (Dp t T l _ _ c i _ (m.out.aC (d.trans' (ak.h _))) q (r.out.ext (d.trans' (ak.h _))) D)|with_reducible exact aS (Dq t T l _ _ c i _ (m.out.aC (d.trans' (ak.h _))) q (r.out.ext (d.trans' (ak.h _))) D))|(go_at_call 296;first|with_reducible exact aS (wV t T l _ _ c _ _ _ (m.out.aC (d.trans' (ak.h _))) q (r.out.ext (d.trans' (ak.h _))) E.out.1)|with_reducible exact aS (wV t T l _ _ c _ _ _ (m.out.aC (d.trans' (ak.h _))) q (r.out.ext (d.trans' (ak.h _))) F.out.1)))))
      refine wpQuiet_nil ?_;rintro _⟨H,rfl⟩;have z:=d.trans' H.h;go_wp2;go_ret;exact⟨aP p.out.symm,z⟩
    .have p:Hid (ny T l i=false):=ah (by rw[B.out];rfl);clear B;go_enter func278,ntmps278;go_wp2_with fail;rw[<- f];refine rX' ?_
     repeat(go_big_quiet_step((go_at_call 226;with_reducible exact aS (je t T y _ (m.out.aC (g.trans' (ak.h _))) q))))
     refine wpQuiet_nil ?_;rintro _⟨s,rfl⟩;have d:=g.trans' s.h;have Z:∀j:ak s.w,∀k:Nat,j.w.cell? ⟨w.heap.size,k,none⟩=t.v.cells[k]? :=λj=>BG f (s.h.trans' j.h)
     have N:∀j:ak s.w,j.w.cell? ⟨b,o+i,none⟩=some (.int .i64 8205):=dA (L s);clear S L J f g;go_wp2_with fail;refine rX' ?_
     repeat(go_big_quiet_step((first|(go_at_call 297;first|with_reducible exact aS (Dp t T l _ _ c i _ (m.out.aC (d.trans' (ak.h _))) q (r.out.ext (d.trans' (ak.h _))) D)|with_reducible exact aS (Dq t T l _ _ c i _ (m.out.aC (d.trans' (ak.h _))) q (r.out.ext (d.trans' (ak.h _))) D))|(go_at_call 296;first|with_reducible exact aS (wV t T l _ _ c _ _ _ (m.out.aC (d.trans' (ak.h _))) q (r.out.ext (d.trans' (ak.h _))) E.out.1)|with_reducible exact aS (wV t T l _ _ c _ _ _ (m.out.aC (d.trans' (ak.h _))) q (r.out.ext (d.trans' (ak.h _))) F.out.1)))))
     refine wpQuiet_nil ?_;rintro _⟨H,rfl⟩;have z:=d.trans' H.h;go_wp2;go_ret;exact⟨aP p.out.symm,z⟩
   .have p:Hid (ny T l i=true):=ah (by rw[I,hv];rfl);clear I;have a0:Hid (x=8204\/x=8205):=G;clear G;rcases a0.out with rfl|rfl
    all_goals
     go_enter func278,ntmps278;go_wp2_with fail;rw[<- f];refine rX' ?_
     repeat(go_big_quiet_step((go_at_call 226;with_reducible exact aS (je t T y _ (m.out.aC (g.trans' (ak.h _))) q))))
     refine wpQuiet_nil ?_;rintro _⟨s,rfl⟩;have d:=g.trans' s.h;go_wp2;go_ret;exact⟨aP p.out.symm,d⟩
 .have a1:Hid (ny T l i=true):=ah (by rw[R.out,pP' (by simp only[not_or]at G;simp[G.1,G.2])]);have e1:(x != 8204)=true:=by rw[bne_iff_ne];exact λh=>G (.inl h)
  have e2:(x != 8205)=true:=by rw[bne_iff_ne];exact λh=>G (.inr h)
  clear G R;go_enter func278,ntmps278;go_wp2;go_ret;exact⟨aP a1.out.symm,by rw[f]at g;exact g⟩
theorem ZF(ht:aW w t T)(h:aF w ⟨A,n,c⟩ l):
 cE' 233 #[t.v,.slice A n c] w (.tuple #[.int .i64 (fU T l).1,.int .i64 (fU T l).2]):=by
 obtain⟨C,_,_⟩:=h.len;subst C;have s:=ah ht;have x:=ah h;have b:=dG w t;go_enter func233,ntmps233;go_wp2_with fail;refine(yS t T l A _ c _ (s.out.aC b) (x.out.ext b)).mono ?_;rintro e G⟨v,rfl,o,_⟩;have D:=b.trans' o;by_cases d:aX T l=0
 .have B:=ah (ou (MP d).1);have y:Hid (fU T l=yu T l (l.length-0) 0):=ah (by simp[fU,d]);rw[d];clear d;go_wp2;go_loopw[20] (λj wr=>∃(k:Nat),k<=l.length/\j=.int .i64 k/\Hid (fU T l=yu T l (l.length-k) k)/\Ext (tW' w t) wr) (λj _=>l.length-(intOf j).toNat);exact⟨0,zl' _,rfl,y,o⟩;obtain⟨k,H,rfl,q,f⟩:=hrel;have a:=b.trans' f;have I:=bT' t f;by_cases p:k<l.length
  .have r:=aJ q (show _=if ny T l k=true then yu T l (l.length-(k+1)) (k+1)else((k:Int),(17:Int))from by
    rw[show l.length-k=(l.length-(k+1))+1 from by omega];rfl)
   clear q y;cases m:ny T l k
   .have g:=aJ r (show _=((k:Int),(17:Int))from by rw[m];simp);have z:=ah m;clear r m;go_wp2_with(go_at_call 278;refine(QW t T l A _ c k _ (s.out.aC a) B.out (x.out.ext a) p).mono ?_;rintro e E⟨rfl,i⟩;rw[z.out]);go_ret2;exact⟨by rw[g.out];rfl,a.trans' i⟩
   .have g:=aJ r (show _=yu T l (l.length-(k+1)) (k+1)from by rw[m];simp);have z:=ah m;clear r m;go_wp2_with(go_at_call 278;refine(QW t T l A _ c k _ (s.out.aC a) B.out (x.out.ext a) p).mono ?_;rintro e E⟨rfl,i⟩;rw[z.out]);go_roundw;exact⟨k+1,by omega,by go_num,g,f.trans' i⟩;simp[intOf];omega
  .have g:=aJ q (show _=((0:Int),(0:Int))from by rw[show l.length-k=0 from by omega];rfl);clear q y;go_wp2;go_ret2;exact⟨by rw[g.out];rfl,a⟩
 .have F:(aX T l==0)=false:=by rw[aO];exact d
  have g:Hid (fU T l=(0,aX T l)):=ah (by simp[fU,d]);clear d;go_wp2;go_ret2;exact⟨by rw[g.out];rfl,D⟩
end Go.Proofs.YtlmkgaoakcjlnaaGreatDoor
