/- Part Bw20. -/
import Derived.Deep.LoopGhost
import Derived.Laws.Tables
import Derived.Laws.Rows
import Derived.Deep.CutRange
import Derived.StillTailTactics
import Derived.Test.YtljilcbobhmkgaaGreatDoorBw19
open Go.Proofs.Tryz
namespace Go.Proofs.YtljilcbobhmkgaaGreatDoor
set_option maxHeartbeats 25600000
set_option maxRecDepth 100000
open Go.RowKit
variable (T:ak)(t:TV)(l:List Int)(A:Option Addr)(n c:Nat)(w:World)
def Nu(w:World)(l:List Int)(e:Ending)(w':World):Prop:=∃A n c,e=.returned (.slice A n c)/\aC w' ⟨A,n,c⟩ l/\Ext w w'
def stV(pre:List Int):Option Int->Int
 |none=> -1
 |some _=>pre.length
def aJe(T:ak)(w1:World)(l V:List Int)(gh:Nat)(s6 s7 s20:Value)(wx:World):Prop:=
 ∃(k:Nat)(A:Option Addr)(n c:Nat)(pre tail:List Int)(st:Option Int),k+gh=l.length/\s20=.int .i64 k/\s6=.slice A n c/\s7=.int .i64 (stV pre st)/\Hid (aK wx w1.heap.size A n c (pre++st.toList++tail))/\Hid (Ext w1 wx)/\Hid (V=dH T pre st tail (l.drop k))/\Hid (st=none->pre=[])/\Hid (n<=k)
theorem P6{T:ak}{tail:List Int}{y c:Int}:tC T (tail++[y]) c=(decide (aG T y=0)||decide (aG T c<=aG T y)):=by
 simp[tC]
theorem Y1(hw:bV T=true)(t:TV)(l:List Int)(A:Option Addr)(n c:Nat)(w:World)(ht:aS w t T)(hi:aC w ⟨A,n,c⟩ l)(hl:l.length<=1000000000):
 Calls prog 185 #[t.v,.slice A n c] w λe w'=>∃B m d,e=.returned (.slice B m d)/\aC w' ⟨B,m,d⟩ (Dk T l)/\Ext w w'/\∀b,aF B=some b->w.heap.size<=b:=by
 have ao:=cO w t;have HT:=ah (ht.aB ao);have HI:=ah (hi.ext ao);have HW:=ah hw;have HS:=ah (mG hw);have hn:=hi.len.1;subst hn;have HV:Hid (Dk T l=dH T [] none [] (l.drop 0)):=ah rfl;generalize Dk T l=V at*;clear ht hi hw;go_enter func185,ntmps185;go_wp2_with fail;refine(WB t T _ HT.out HW.out).mono ?_;rintro e L⟨r,rfl,bw,b0,aE⟩;have ae:=ah b0;have I:=ah aE;have bx:w.heap.size<L.heap.size:=by have h':=aE.b.size;simp at h';omega
 clear b0 aE;go_wp2;go_loopg[6,7,20] l.length (λgh s6 s7 b7 wx=>aJe T L l V gh s6 s7 b7 wx);exact⟨0,none,0,0,[],[],none,by omega,rfl,rfl,rfl,ah (Own.nil_ _ _ _ _),ah eR',HV,ah (λ_=>rfl),ah (lr' _)⟩;obtain⟨k,A2,n2,c2,pre,tail,st,bE,rfl,rfl,rfl,HO,HB,HR,ba,bb⟩:=hrel;have xU:=ah (I.out.trans' HB.out);have bc:=ah (HI.out.ext xU.out);have bG:L.heap.size<=wr.heap.size:=HB.out.b.size;by_cases b1:k<l.length
 .obtain⟨X,rfl⟩:=gS' gk;obtain⟨b,o,hA,Y⟩:=bc.out.at_ b1;subst hA;have HD:=ah (drop_at l k b1);generalize l[k]=x at*;have bL:=z0' k;have bN:(k:Int)<(l.length:Int):=by omega
  have bO:=bb.out;have U:=bT' t xU.out;have fZ:=ah (iI t T x wr (HT.out.aB xU.out) HS.out);have HN:Hid (n2=(pre++st.toList++tail).length):=ah (by have:=HO.out.len;simp at this |-;omega);have iw:Hid (V=dH T pre st tail (x::l.drop (k+1))):=ah (by rw[HR.out,HD.out]);clear HR HD HV;cases st with
  |none=>
   have aL:pre=[]:=ba.out rfl;have bR:Hid (n2=tail.length):=ah (by rw[HN.out,aL];simp);have bd:=ah aL;clear aL;have hd:decide ((-1:Int)<0)=true:=rfl;by_cases F:aG T x=0
   ·
    have Z:Hid (V=dH T (pre++tail) (some x) ([]) (l.drop (k+1))):=ah (iw.out.trans ((Jd pre (tail) x (l.drop (k+1))).trans (pP' F)));have a4:(aG T x==0)=true:=(by rw[bq'];exact F);clear F iw;generalize aG T x=kx at*;go_wp2_with fail;refine fZ.out.mono ?_;rintro e E⟨rfl,a⟩;have q:=ah (HB.out.trans' a);have M:Hid (aK E _ _ _ _ _):=ah (Own.ext HO.out a);have a0:wr.heap.size<=E.heap.size:=a.b.size;have bf:Hid (∀(w':World),Ext L w'->∀k:Nat,w'.cell? ⟨w.heap.size,k,none⟩=t.v.cells[k]?):=ah λw' H=>aP (I.out.trans' H)
    clear a U Y;have K:=M;have N:=q;have j:Ext E (E.alloc (.cells #[.int .i64 x] 3)):=eR'.ay _;obtain⟨A5,c5,w5,C,f,i,_⟩:=fQ (Own.ext K.out j) (iJ E x) (by omega) (by have h':=N.out.b.size;simp;omega);have bI:=ah f;have bH:Hid (Ext L w5):=ah (dV (N.out.trans' j) i (λk F=>(Own.lt K.out k F).1));clear f i j;go_wp2_with(at_builtin;refine dA rfl _ _ _ rfl _ _ rfl rfl _ _ C ?_);go_roundg X;exact⟨k+1,A5,n2+1,c5,pre++tail,[],some x,by omega,by go_num,rfl,(by show Value.int .i64 (((n2:Nat)):Int)=Value.int .i64 (((pre++tail).length:Nat):Int);rw[HN.out];simp),ah (by simpa using bI.out),bH,Z,ah (by intro h;cases h),ah (by omega)⟩;omega
   ·
    have Z:Hid (V=dH T (pre) (none) (tail++[x]) (l.drop (k+1))):=ah (iw.out.trans ((Jd pre (tail) x (l.drop (k+1))).trans (nN' F)));have a4:(aG T x==0)=false:=(by rw[aH];exact F);clear F iw;generalize aG T x=kx at*;go_wp2_with fail;refine fZ.out.mono ?_;rintro e E⟨rfl,a⟩;have q:=ah (HB.out.trans' a);have M:Hid (aK E _ _ _ _ _):=ah (Own.ext HO.out a);have a0:wr.heap.size<=E.heap.size:=a.b.size;have bf:Hid (∀(w':World),Ext L w'->∀k:Nat,w'.cell? ⟨w.heap.size,k,none⟩=t.v.cells[k]?):=ah λw' H=>aP (I.out.trans' H)
    clear a U Y;have K:=M;have N:=q;have j:Ext E (E.alloc (.cells #[.int .i64 x] 3)):=eR'.ay _;obtain⟨A5,c5,w5,C,f,i,_⟩:=fQ (Own.ext K.out j) (iJ E x) (by omega) (by have h':=N.out.b.size;simp;omega);have bI:=ah f;have bH:Hid (Ext L w5):=ah (dV (N.out.trans' j) i (λk F=>(Own.lt K.out k F).1));clear f i j;go_wp2_with(at_builtin;refine dA rfl _ _ _ rfl _ _ rfl rfl _ _ C ?_);go_roundg X;exact⟨k+1,A5,n2+1,c5,pre,tail++[x],none,by omega,by go_num,rfl,rfl,ah (by simpa using bI.out),bH,Z,ah (λ_=>bd.out),ah (by omega)⟩;omega
  |some s=>
   obtain⟨m,rfl⟩:∃m,n2=m+1:=⟨n2-1,by have:=HN.out;simp at this;omega⟩;obtain⟨g,rfl⟩:=HO.out.some_ (by omega);have bs:((m+1:Nat):Int)-1=(m:Int):=(by omega);have bS:(0:Int)<=(pre.length:Int):=aZ _;have hd:decide ((pre.length:Int)<0)=false:=dF';have bT:decide ((0:Int)<=(pre.length:Int))=true:=dT';have b2:stV pre (some s)=(pre.length:Int):=rfl;rw[b2];clear b2;have bU:(pre.length:Int)<((m+1:Nat):Int):=(by have:=HN.out;simp at this;omega);have bX:(m:Int)<((m+1:Nat):Int):=(by omega);have c0:=z0' m;rcases List.eq_nil_or_concat tail with aq|⟨O,y,aq⟩
   ·
    subst aq;have ab:m=pre.length:=(by have:=HN.out;simp at this;omega);have be:decide ((pre.length:Int)<(m:Int))=false:=dF';have bh:decide (pre.length<m)=false:=dF';have bi:=ah ab;clear ab;cases Q:pairT T s x with
    |some y2=>
     have Z:Hid (V=dH T pre (some y2) ([]) (l.drop (k+1))):=ah (by rw[iw.out,dH,show tC T [] x=false from rfl,nN' (by simp),Q]);have HP:Hid (kC T s x=(y2,true)):=ah (by rw[kC,Q]);clear Q iw;go_wp2_with fail;refine fZ.out.mono ?_;rintro e E⟨rfl,a⟩;have q:=ah (HB.out.trans' a);have M:Hid (aK E _ _ _ _ _):=ah (Own.ext HO.out a);have a0:wr.heap.size<=E.heap.size:=a.b.size;have bf:Hid (∀(w':World),Ext L w'->∀k:Nat,w'.cell? ⟨w.heap.size,k,none⟩=t.v.cells[k]?):=ah λw' H=>aP (I.out.trans' H)
     clear a U Y;have W:=M;have P:=q;have r3:E.cell? ⟨g,pre.length,none⟩=some (.int .i64 s):=aK.cell M.out pre.length s (by simp);go_wp2_with fail;refine(Bq T r s x _ (ae.out.ext P.out)).mono ?_;rintro e R⟨rfl,D⟩;have K:Hid (aK R _ _ _ _ _):=ah (Own.ext W.out D);have N:=ah (P.out.trans' D);have qx:=D.b.size;clear D;rw[HP.out];have r0:R.cell? ⟨g,pre.length,none⟩=some (.int .i64 s):=K.out.cell pre.length s (by simp);have f0:R.frozen? ⟨g,pre.length,none⟩=false:=K.out.frozen pre.length;have bI:=ah (K.out.set pre.length y2);have aM:L.heap.size<=g:=(Own.lt K.out g rfl).1;have bH:=ah (N.out.jP (p:=⟨g,pre.length,none⟩) aM (.int .i64 y2));generalize al:pre.length=p at*;go_wp2;go_roundg X;exact⟨k+1,some ⟨g,0,none⟩,m+1,c2,pre,[],some y2,by omega,by go_num,rfl,(by rw[<- al];rfl),ah (by have h5:=bI.out;rw[<- al]at h5 |-;simpa[List.set_append]using h5),bH,Z,ah (by intro h;cases h),ah (by omega)⟩;omega
    |none=>
     have gZ:Hid (V=if aG T x=0 then dH T (pre++s::([])) (some x) [] (l.drop (k+1))else dH T pre (some s) ([]++[x]) (l.drop (k+1))):=ah (by rw[iw.out,dH,show tC T [] x=false from rfl,nN' (by simp),Q]);have HP:Hid (kC T s x=(0,false)):=ah (by rw[kC,Q]);clear Q;by_cases F:aG T x=0
     ·
      have Z:Hid (V=dH T (pre++s::[]) (some x) ([]) (l.drop (k+1))):=ah (gZ.out.trans (pP' F));have a4:(aG T x==0)=true:=(by rw[bq'];exact F);clear F iw gZ;generalize aG T x=kx at*;go_wp2_with fail;refine fZ.out.mono ?_;rintro e E⟨rfl,a⟩;have q:=ah (HB.out.trans' a);have M:Hid (aK E _ _ _ _ _):=ah (Own.ext HO.out a);have a0:wr.heap.size<=E.heap.size:=a.b.size;have bf:Hid (∀(w':World),Ext L w'->∀k:Nat,w'.cell? ⟨w.heap.size,k,none⟩=t.v.cells[k]?):=ah λw' H=>aP (I.out.trans' H)
      clear a U Y;have W:=M;have P:=q;have r3:E.cell? ⟨g,pre.length,none⟩=some (.int .i64 s):=aK.cell M.out pre.length s (by simp);go_wp2_with fail;refine(Bq T r s x _ (ae.out.ext P.out)).mono ?_;rintro e R⟨rfl,D⟩;have K:Hid (aK R _ _ _ _ _):=ah (Own.ext W.out D);have N:=ah (P.out.trans' D);have qx:=D.b.size;clear D;rw[HP.out];have j:Ext R (R.alloc (.cells #[.int .i64 x] 3)):=eR'.ay _;obtain⟨A5,c5,w5,C,f,i,_⟩:=fQ (Own.ext K.out j) (iJ R x) (by omega) (by have h':=N.out.b.size;simp;omega);have bI:=ah f;have bH:Hid (Ext L w5):=ah (dV (N.out.trans' j) i (λk F=>(Own.lt K.out k F).1));clear f i j;go_wp2_with(at_builtin;refine dA rfl _ _ _ rfl _ _ rfl rfl _ _ C ?_);go_roundg X;exact⟨k+1,A5,(m+1)+1,c5,pre++s::[],[],some x,by omega,by go_num,rfl,(by show Value.int .i64 ((((m+1):Nat)):Int)=Value.int .i64 (((pre++s::[]).length:Nat):Int);rw[HN.out];simp),ah (by simpa using bI.out),bH,Z,ah (by intro h;cases h),ah (by omega)⟩;omega
     ·
      have Z:Hid (V=dH T (pre) (some s) ([]++[x]) (l.drop (k+1))):=ah (gZ.out.trans (nN' F));have a4:(aG T x==0)=false:=(by rw[aH];exact F);clear F iw gZ;generalize aG T x=kx at*;go_wp2_with fail;refine fZ.out.mono ?_;rintro e E⟨rfl,a⟩;have q:=ah (HB.out.trans' a);have M:Hid (aK E _ _ _ _ _):=ah (Own.ext HO.out a);have a0:wr.heap.size<=E.heap.size:=a.b.size;have bf:Hid (∀(w':World),Ext L w'->∀k:Nat,w'.cell? ⟨w.heap.size,k,none⟩=t.v.cells[k]?):=ah λw' H=>aP (I.out.trans' H)
      clear a U Y;have W:=M;have P:=q;have r3:E.cell? ⟨g,pre.length,none⟩=some (.int .i64 s):=aK.cell M.out pre.length s (by simp);go_wp2_with fail;refine(Bq T r s x _ (ae.out.ext P.out)).mono ?_;rintro e R⟨rfl,D⟩;have K:Hid (aK R _ _ _ _ _):=ah (Own.ext W.out D);have N:=ah (P.out.trans' D);have qx:=D.b.size;clear D;rw[HP.out];have j:Ext R (R.alloc (.cells #[.int .i64 x] 3)):=eR'.ay _;obtain⟨A5,c5,w5,C,f,i,_⟩:=fQ (Own.ext K.out j) (iJ R x) (by omega) (by have h':=N.out.b.size;simp;omega);have bI:=ah f;have bH:Hid (Ext L w5):=ah (dV (N.out.trans' j) i (λk F=>(Own.lt K.out k F).1));clear f i j;go_wp2_with(at_builtin;refine dA rfl _ _ _ rfl _ _ rfl rfl _ _ C ?_);go_roundg X;exact⟨k+1,A5,(m+1)+1,c5,pre,[]++[x],some s,by omega,by go_num,rfl,rfl,ah (by simpa using bI.out),bH,Z,ah (by intro h;cases h),ah (by omega)⟩;omega
   ·
    rw[List.concat_eq_append]at aq;subst aq;have ab:m=(pre++s::O).length:=(by have:=HN.out;simp at this |-;omega);have bj:pre.length<m:=(by rw[ab];simp);have be:decide ((pre.length:Int)<(m:Int))=true:=dT';have bh:decide (pre.length<m)=true:=dT'
    have ac:Hid ((pre++(some s).toList++(O++[y]))[m]? =some y):=ah (by
     have e:pre++(some s).toList++(O++[y])=(pre++s::O)++[y]:=by simp
     rw[e,ab,List.getElem?_concat_length])
    have bi:=ah ab;clear ab bj;have oD:Hid (tC T (O++[y]) x=(decide (aG T y=0)||decide (aG T x<=aG T y))):=ah P6;by_cases h1:aG T y=0
    ·
     have am:tC T (O++[y]) x=true:=(by rw[oD.out,dt' h1];rfl);have e1:(aG T y==0)=true:=(by rw[bq'];exact h1);clear h1 oD;have gZ:Hid (V=if aG T x=0 then dH T (pre++s::(O++[y])) (some x) [] (l.drop (k+1))else dH T pre (some s) (O++[y]++[x]) (l.drop (k+1))):=ah (by rw[iw.out,dH,am,pP' rfl]);clear am;by_cases F:aG T x=0
     ·
      have Z:Hid (V=dH T (pre++s::(O++[y])) (some x) ([]) (l.drop (k+1))):=ah (gZ.out.trans (pP' F));have a4:(aG T x==0)=true:=(by rw[bq'];exact F);clear F iw gZ;generalize aG T x=kx at*;go_wp2_with fail;refine fZ.out.mono ?_;rintro e E⟨rfl,a⟩;have q:=ah (HB.out.trans' a);have M:Hid (aK E _ _ _ _ _):=ah (Own.ext HO.out a);have a0:wr.heap.size<=E.heap.size:=a.b.size;have bf:Hid (∀(w':World),Ext L w'->∀k:Nat,w'.cell? ⟨w.heap.size,k,none⟩=t.v.cells[k]?):=ah λw' H=>aP (I.out.trans' H)
      clear a U Y;have U:∀J:aj E,∀k:Nat,J.w.cell? ⟨w.heap.size,k,none⟩=t.v.cells[k]? :=λJ=>bf.out _ (q.out.trans' J.h)
      have rX:∀J:aj E,J.w.cell? ⟨g,m,none⟩=some (.int .i64 y):=bY (aK.cell M.out m y ac.out);go_wp2_with fail;refine rX' ?_
      repeat(go_big_quiet_step((go_at_call 175;exact aQ (iI t T y _ (HT.out.aB (I.out.trans' (q.out.trans' (aj.h _)))) HS.out))))
      refine wpQuiet_nil ?_;rintro _⟨S,rfl⟩;obtain⟨G,z⟩:=eX' S.w;have W:Hid (aK G _ _ _ _ _):=ah (by rw[z];exact Own.ext M.out S.h);have P:Hid (Ext L G):=ah (by rw[z];exact q.out.trans' S.h);rw[<- z];clear z U rX;have r3:G.cell? ⟨g,pre.length,none⟩=some (.int .i64 s):=aK.cell W.out pre.length s (by simp);have K:=W;have N:=P;have qx:=P.out.b.size;have j:Ext G (G.alloc (.cells #[.int .i64 x] 3)):=eR'.ay _;obtain⟨A5,c5,w5,C,f,i,_⟩:=fQ (Own.ext K.out j) (iJ G x) (by omega) (by have h':=N.out.b.size;simp;omega);have bI:=ah f;have bH:Hid (Ext L w5):=ah (dV (N.out.trans' j) i (λk F=>(Own.lt K.out k F).1));clear f i j;go_wp2_with(at_builtin;refine dA rfl _ _ _ rfl _ _ rfl rfl _ _ C ?_);go_roundg X;exact⟨k+1,A5,(m+1)+1,c5,pre++s::(O++[y]),[],some x,by omega,by go_num,rfl,(by show Value.int .i64 ((((m+1):Nat)):Int)=Value.int .i64 (((pre++s::(O++[y])).length:Nat):Int);rw[HN.out];simp),ah (by simpa using bI.out),bH,Z,ah (by intro h;cases h),ah (by omega)⟩;omega
     ·
      have Z:Hid (V=dH T (pre) (some s) ((O++[y])++[x]) (l.drop (k+1))):=ah (gZ.out.trans (nN' F));have a4:(aG T x==0)=false:=(by rw[aH];exact F);clear F iw gZ;generalize aG T x=kx at*;go_wp2_with fail;refine fZ.out.mono ?_;rintro e E⟨rfl,a⟩;have q:=ah (HB.out.trans' a);have M:Hid (aK E _ _ _ _ _):=ah (Own.ext HO.out a);have a0:wr.heap.size<=E.heap.size:=a.b.size;have bf:Hid (∀(w':World),Ext L w'->∀k:Nat,w'.cell? ⟨w.heap.size,k,none⟩=t.v.cells[k]?):=ah λw' H=>aP (I.out.trans' H)
      clear a U Y;have U:∀J:aj E,∀k:Nat,J.w.cell? ⟨w.heap.size,k,none⟩=t.v.cells[k]? :=λJ=>bf.out _ (q.out.trans' J.h)
      have rX:∀J:aj E,J.w.cell? ⟨g,m,none⟩=some (.int .i64 y):=bY (aK.cell M.out m y ac.out);go_wp2_with fail;refine rX' ?_
      repeat(go_big_quiet_step((go_at_call 175;exact aQ (iI t T y _ (HT.out.aB (I.out.trans' (q.out.trans' (aj.h _)))) HS.out))))
      refine wpQuiet_nil ?_;rintro _⟨S,rfl⟩;obtain⟨G,z⟩:=eX' S.w;have W:Hid (aK G _ _ _ _ _):=ah (by rw[z];exact Own.ext M.out S.h);have P:Hid (Ext L G):=ah (by rw[z];exact q.out.trans' S.h);rw[<- z];clear z U rX;have r3:G.cell? ⟨g,pre.length,none⟩=some (.int .i64 s):=aK.cell W.out pre.length s (by simp);have K:=W;have N:=P;have qx:=P.out.b.size;have j:Ext G (G.alloc (.cells #[.int .i64 x] 3)):=eR'.ay _;obtain⟨A5,c5,w5,C,f,i,_⟩:=fQ (Own.ext K.out j) (iJ G x) (by omega) (by have h':=N.out.b.size;simp;omega);have bI:=ah f;have bH:Hid (Ext L w5):=ah (dV (N.out.trans' j) i (λk F=>(Own.lt K.out k F).1));clear f i j;go_wp2_with(at_builtin;refine dA rfl _ _ _ rfl _ _ rfl rfl _ _ C ?_);go_roundg X;exact⟨k+1,A5,(m+1)+1,c5,pre,(O++[y])++[x],some s,by omega,by go_num,rfl,rfl,ah (by simpa using bI.out),bH,Z,ah (by intro h;cases h),ah (by omega)⟩;omega
    ·
     have e1:(aG T y==0)=false:=(by rw[aH];exact h1);by_cases h2:aG T x<=aG T y
     ·
      have am:tC T (O++[y]) x=true:=(by rw[oD.out,dt' h2,Bool.or_true]);have e2:decide (aG T x<=aG T y)=true:=dt' h2;clear h1 h2 oD;have gZ:Hid (V=if aG T x=0 then dH T (pre++s::(O++[y])) (some x) [] (l.drop (k+1))else dH T pre (some s) (O++[y]++[x]) (l.drop (k+1))):=ah (by rw[iw.out,dH,am,pP' rfl]);clear am;by_cases F:aG T x=0
      ·
       have Z:Hid (V=dH T (pre++s::(O++[y])) (some x) ([]) (l.drop (k+1))):=ah (gZ.out.trans (pP' F));have a4:(aG T x==0)=true:=(by rw[bq'];exact F);clear F iw gZ;generalize aG T x=kx at*;go_wp2_with fail;refine fZ.out.mono ?_;rintro e E⟨rfl,a⟩;have q:=ah (HB.out.trans' a);have M:Hid (aK E _ _ _ _ _):=ah (Own.ext HO.out a);have a0:wr.heap.size<=E.heap.size:=a.b.size;have bf:Hid (∀(w':World),Ext L w'->∀k:Nat,w'.cell? ⟨w.heap.size,k,none⟩=t.v.cells[k]?):=ah λw' H=>aP (I.out.trans' H)
       clear a U Y;have U:∀J:aj E,∀k:Nat,J.w.cell? ⟨w.heap.size,k,none⟩=t.v.cells[k]? :=λJ=>bf.out _ (q.out.trans' J.h)
       have rX:∀J:aj E,J.w.cell? ⟨g,m,none⟩=some (.int .i64 y):=bY (aK.cell M.out m y ac.out);go_wp2_with fail;refine rX' ?_
       repeat(go_big_quiet_step((go_at_call 175;exact aQ (iI t T y _ (HT.out.aB (I.out.trans' (q.out.trans' (aj.h _)))) HS.out))))
       refine wpQuiet_nil ?_;rintro _⟨S,rfl⟩;obtain⟨G,z⟩:=eX' S.w;have W:Hid (aK G _ _ _ _ _):=ah (by rw[z];exact Own.ext M.out S.h);have P:Hid (Ext L G):=ah (by rw[z];exact q.out.trans' S.h);rw[<- z];clear z U rX;have r3:G.cell? ⟨g,pre.length,none⟩=some (.int .i64 s):=aK.cell W.out pre.length s (by simp);have K:=W;have N:=P;have qx:=P.out.b.size;have j:Ext G (G.alloc (.cells #[.int .i64 x] 3)):=eR'.ay _;obtain⟨A5,c5,w5,C,f,i,_⟩:=fQ (Own.ext K.out j) (iJ G x) (by omega) (by have h':=N.out.b.size;simp;omega);have bI:=ah f;have bH:Hid (Ext L w5):=ah (dV (N.out.trans' j) i (λk F=>(Own.lt K.out k F).1));clear f i j;go_wp2_with(at_builtin;refine dA rfl _ _ _ rfl _ _ rfl rfl _ _ C ?_);go_roundg X;exact⟨k+1,A5,(m+1)+1,c5,pre++s::(O++[y]),[],some x,by omega,by go_num,rfl,(by show Value.int .i64 ((((m+1):Nat)):Int)=Value.int .i64 (((pre++s::(O++[y])).length:Nat):Int);rw[HN.out];simp),ah (by simpa using bI.out),bH,Z,ah (by intro h;cases h),ah (by omega)⟩;omega
      ·
       have Z:Hid (V=dH T (pre) (some s) ((O++[y])++[x]) (l.drop (k+1))):=ah (gZ.out.trans (nN' F));have a4:(aG T x==0)=false:=(by rw[aH];exact F);clear F iw gZ;generalize aG T x=kx at*;go_wp2_with fail;refine fZ.out.mono ?_;rintro e E⟨rfl,a⟩;have q:=ah (HB.out.trans' a);have M:Hid (aK E _ _ _ _ _):=ah (Own.ext HO.out a);have a0:wr.heap.size<=E.heap.size:=a.b.size;have bf:Hid (∀(w':World),Ext L w'->∀k:Nat,w'.cell? ⟨w.heap.size,k,none⟩=t.v.cells[k]?):=ah λw' H=>aP (I.out.trans' H)
       clear a U Y;have U:∀J:aj E,∀k:Nat,J.w.cell? ⟨w.heap.size,k,none⟩=t.v.cells[k]? :=λJ=>bf.out _ (q.out.trans' J.h)
       have rX:∀J:aj E,J.w.cell? ⟨g,m,none⟩=some (.int .i64 y):=bY (aK.cell M.out m y ac.out);go_wp2_with fail;refine rX' ?_
       repeat(go_big_quiet_step((go_at_call 175;exact aQ (iI t T y _ (HT.out.aB (I.out.trans' (q.out.trans' (aj.h _)))) HS.out))))
       refine wpQuiet_nil ?_;rintro _⟨S,rfl⟩;obtain⟨G,z⟩:=eX' S.w;have W:Hid (aK G _ _ _ _ _):=ah (by rw[z];exact Own.ext M.out S.h);have P:Hid (Ext L G):=ah (by rw[z];exact q.out.trans' S.h);rw[<- z];clear z U rX;have r3:G.cell? ⟨g,pre.length,none⟩=some (.int .i64 s):=aK.cell W.out pre.length s (by simp);have K:=W;have N:=P;have qx:=P.out.b.size;have j:Ext G (G.alloc (.cells #[.int .i64 x] 3)):=eR'.ay _;obtain⟨A5,c5,w5,C,f,i,_⟩:=fQ (Own.ext K.out j) (iJ G x) (by omega) (by have h':=N.out.b.size;simp;omega);have bI:=ah f;have bH:Hid (Ext L w5):=ah (dV (N.out.trans' j) i (λk F=>(Own.lt K.out k F).1));clear f i j;go_wp2_with(at_builtin;refine dA rfl _ _ _ rfl _ _ rfl rfl _ _ C ?_);go_roundg X;exact⟨k+1,A5,(m+1)+1,c5,pre,(O++[y])++[x],some s,by omega,by go_num,rfl,rfl,ah (by simpa using bI.out),bH,Z,ah (by intro h;cases h),ah (by omega)⟩;omega
     ·
      have b4:Hid (tC T (O++[y]) x=false):=ah (by rw[oD.out,df' h1,df' h2];rfl);have e2:decide (aG T x<=aG T y)=false:=df' h2;clear h1 h2 oD;cases Q:pairT T s x with
      |some y2=>
       have Z:Hid (V=dH T pre (some y2) ((O++[y])) (l.drop (k+1))):=ah (by rw[iw.out,dH,b4.out,nN' (by simp),Q]);have HP:Hid (kC T s x=(y2,true)):=ah (by rw[kC,Q]);clear Q iw;go_wp2_with fail;refine fZ.out.mono ?_;rintro e E⟨rfl,a⟩;have q:=ah (HB.out.trans' a);have M:Hid (aK E _ _ _ _ _):=ah (Own.ext HO.out a);have a0:wr.heap.size<=E.heap.size:=a.b.size;have bf:Hid (∀(w':World),Ext L w'->∀k:Nat,w'.cell? ⟨w.heap.size,k,none⟩=t.v.cells[k]?):=ah λw' H=>aP (I.out.trans' H)
       clear a U Y;have U:∀J:aj E,∀k:Nat,J.w.cell? ⟨w.heap.size,k,none⟩=t.v.cells[k]? :=λJ=>bf.out _ (q.out.trans' J.h)
       have rX:∀J:aj E,J.w.cell? ⟨g,m,none⟩=some (.int .i64 y):=bY (aK.cell M.out m y ac.out);go_wp2_with fail;refine rX' ?_
       repeat(go_big_quiet_step((go_at_call 175;exact aQ (iI t T y _ (HT.out.aB (I.out.trans' (q.out.trans' (aj.h _)))) HS.out))))
       refine wpQuiet_nil ?_;rintro _⟨S,rfl⟩;obtain⟨G,z⟩:=eX' S.w;have W:Hid (aK G _ _ _ _ _):=ah (by rw[z];exact Own.ext M.out S.h);have P:Hid (Ext L G):=ah (by rw[z];exact q.out.trans' S.h);rw[<- z];clear z U rX;have r3:G.cell? ⟨g,pre.length,none⟩=some (.int .i64 s):=aK.cell W.out pre.length s (by simp);go_wp2_with fail;refine(Bq T r s x _ (ae.out.ext P.out)).mono ?_;rintro e R⟨rfl,D⟩;have K:Hid (aK R _ _ _ _ _):=ah (Own.ext W.out D);have N:=ah (P.out.trans' D);have qx:=D.b.size;clear D;rw[HP.out];have r0:R.cell? ⟨g,pre.length,none⟩=some (.int .i64 s):=K.out.cell pre.length s (by simp);have f0:R.frozen? ⟨g,pre.length,none⟩=false:=K.out.frozen pre.length;have bI:=ah (K.out.set pre.length y2);have aM:L.heap.size<=g:=(Own.lt K.out g rfl).1;have bH:=ah (N.out.jP (p:=⟨g,pre.length,none⟩) aM (.int .i64 y2));generalize al:pre.length=p at*;go_wp2;go_roundg X;exact⟨k+1,some ⟨g,0,none⟩,m+1,c2,pre,(O++[y]),some y2,by omega,by go_num,rfl,(by rw[<- al];rfl),ah (by have h5:=bI.out;rw[<- al]at h5 |-;simpa[List.set_append]using h5),bH,Z,ah (by intro h;cases h),ah (by omega)⟩;omega
      |none=>
       have gZ:Hid (V=if aG T x=0 then dH T (pre++s::((O++[y]))) (some x) [] (l.drop (k+1))else dH T pre (some s) ((O++[y])++[x]) (l.drop (k+1))):=ah (by rw[iw.out,dH,b4.out,nN' (by simp),Q]);have HP:Hid (kC T s x=(0,false)):=ah (by rw[kC,Q]);clear Q;by_cases F:aG T x=0
       ·
        have Z:Hid (V=dH T (pre++s::(O++[y])) (some x) ([]) (l.drop (k+1))):=ah (gZ.out.trans (pP' F));have a4:(aG T x==0)=true:=(by rw[bq'];exact F);clear F iw gZ;generalize aG T x=kx at*;go_wp2_with fail;refine fZ.out.mono ?_;rintro e E⟨rfl,a⟩;have q:=ah (HB.out.trans' a);have M:Hid (aK E _ _ _ _ _):=ah (Own.ext HO.out a);have a0:wr.heap.size<=E.heap.size:=a.b.size;have bf:Hid (∀(w':World),Ext L w'->∀k:Nat,w'.cell? ⟨w.heap.size,k,none⟩=t.v.cells[k]?):=ah λw' H=>aP (I.out.trans' H)
        clear a U Y;have U:∀J:aj E,∀k:Nat,J.w.cell? ⟨w.heap.size,k,none⟩=t.v.cells[k]? :=λJ=>bf.out _ (q.out.trans' J.h)
        have rX:∀J:aj E,J.w.cell? ⟨g,m,none⟩=some (.int .i64 y):=bY (aK.cell M.out m y ac.out);go_wp2_with fail;refine rX' ?_
        repeat(go_big_quiet_step((go_at_call 175;exact aQ (iI t T y _ (HT.out.aB (I.out.trans' (q.out.trans' (aj.h _)))) HS.out))))
        refine wpQuiet_nil ?_;rintro _⟨S,rfl⟩;obtain⟨G,z⟩:=eX' S.w;have W:Hid (aK G _ _ _ _ _):=ah (by rw[z];exact Own.ext M.out S.h);have P:Hid (Ext L G):=ah (by rw[z];exact q.out.trans' S.h);rw[<- z];clear z U rX;have r3:G.cell? ⟨g,pre.length,none⟩=some (.int .i64 s):=aK.cell W.out pre.length s (by simp);go_wp2_with fail;refine(Bq T r s x _ (ae.out.ext P.out)).mono ?_;rintro e R⟨rfl,D⟩;have K:Hid (aK R _ _ _ _ _):=ah (Own.ext W.out D);have N:=ah (P.out.trans' D);have qx:=D.b.size;clear D;rw[HP.out];have j:Ext R (R.alloc (.cells #[.int .i64 x] 3)):=eR'.ay _;obtain⟨A5,c5,w5,C,f,i,_⟩:=fQ (Own.ext K.out j) (iJ R x) (by omega) (by have h':=N.out.b.size;simp;omega);have bI:=ah f;have bH:Hid (Ext L w5):=ah (dV (N.out.trans' j) i (λk F=>(Own.lt K.out k F).1));clear f i j;go_wp2_with(at_builtin;refine dA rfl _ _ _ rfl _ _ rfl rfl _ _ C ?_);go_roundg X;exact⟨k+1,A5,(m+1)+1,c5,pre++s::(O++[y]),[],some x,by omega,by go_num,rfl,(by show Value.int .i64 ((((m+1):Nat)):Int)=Value.int .i64 (((pre++s::(O++[y])).length:Nat):Int);rw[HN.out];simp),ah (by simpa using bI.out),bH,Z,ah (by intro h;cases h),ah (by omega)⟩;omega
       ·
        have Z:Hid (V=dH T (pre) (some s) ((O++[y])++[x]) (l.drop (k+1))):=ah (gZ.out.trans (nN' F));have a4:(aG T x==0)=false:=(by rw[aH];exact F);clear F iw gZ;generalize aG T x=kx at*;go_wp2_with fail;refine fZ.out.mono ?_;rintro e E⟨rfl,a⟩;have q:=ah (HB.out.trans' a);have M:Hid (aK E _ _ _ _ _):=ah (Own.ext HO.out a);have a0:wr.heap.size<=E.heap.size:=a.b.size;have bf:Hid (∀(w':World),Ext L w'->∀k:Nat,w'.cell? ⟨w.heap.size,k,none⟩=t.v.cells[k]?):=ah λw' H=>aP (I.out.trans' H)
        clear a U Y;have U:∀J:aj E,∀k:Nat,J.w.cell? ⟨w.heap.size,k,none⟩=t.v.cells[k]? :=λJ=>bf.out _ (q.out.trans' J.h)
        have rX:∀J:aj E,J.w.cell? ⟨g,m,none⟩=some (.int .i64 y):=bY (aK.cell M.out m y ac.out);go_wp2_with fail;refine rX' ?_
        repeat(go_big_quiet_step((go_at_call 175;exact aQ (iI t T y _ (HT.out.aB (I.out.trans' (q.out.trans' (aj.h _)))) HS.out))))
        refine wpQuiet_nil ?_;rintro _⟨S,rfl⟩;obtain⟨G,z⟩:=eX' S.w;have W:Hid (aK G _ _ _ _ _):=ah (by rw[z];exact Own.ext M.out S.h);have P:Hid (Ext L G):=ah (by rw[z];exact q.out.trans' S.h);rw[<- z];clear z U rX;have r3:G.cell? ⟨g,pre.length,none⟩=some (.int .i64 s):=aK.cell W.out pre.length s (by simp);go_wp2_with fail;refine(Bq T r s x _ (ae.out.ext P.out)).mono ?_;rintro e R⟨rfl,D⟩;have K:Hid (aK R _ _ _ _ _):=ah (Own.ext W.out D);have N:=ah (P.out.trans' D);have qx:=D.b.size;clear D;rw[HP.out];have j:Ext R (R.alloc (.cells #[.int .i64 x] 3)):=eR'.ay _;obtain⟨A5,c5,w5,C,f,i,_⟩:=fQ (Own.ext K.out j) (iJ R x) (by omega) (by have h':=N.out.b.size;simp;omega);have bI:=ah f;have bH:Hid (Ext L w5):=ah (dV (N.out.trans' j) i (λk F=>(Own.lt K.out k F).1));clear f i j;go_wp2_with(at_builtin;refine dA rfl _ _ _ rfl _ _ rfl rfl _ _ C ?_);go_roundg X;exact⟨k+1,A5,(m+1)+1,c5,pre,(O++[y])++[x],some s,by omega,by go_num,rfl,rfl,ah (by simpa using bI.out),bH,Z,ah (by intro h;cases h),ah (by omega)⟩;omega
 .have Z:Hid (V=pre++st.toList++tail):=ah (by rw[HR.out,bM l k (by omega),NS]);have bk:Hid (aC wr ⟨A2,n2,c2⟩ V):=ah (by rw[Z.out];exact aK.ints HO.out);have hx:=ao.trans' xU.out;have bl:Hid (∀b,aF A2=some b->w.heap.size<=b):=ah (λb hb=>by have h1:=(HO.out.lt b hb).1;have h2:=(ao.trans' I.out).b.size;omega);go_wp2;go_ret;exact⟨_,_,_,rfl,bk.out,hx,bl.out⟩
theorem Xw(l m:List Int)(A:Option Addr)(n c:Nat)(I:Option Addr)(J K:Nat)(w:World)(h:aC w ⟨A,n,c⟩ l)(L:aC w ⟨I,J,K⟩ m):
 cE' 290 #[.slice A n c,.slice I J K] w (.bool (jA l m)):=by
 obtain⟨M,_,_⟩:=h.len;obtain⟨t,_,_⟩:=L.len;subst M t;have N:=ah h;have O:=ah L;by_cases a:l.length=m.length
 .have P:((l.length:Int) != (m.length:Int))=false:=by rw[a];simp
  have D:=ah a;have Q:Hid ((m.length:Int)=(l.length:Int)):=ah (by rw[a]);clear a;go_enter func290,ntmps290;go_wp2;go_loopw[13] (λi wr=>∃(k:Nat),k<=l.length/\i=.int .i64 k/\Hid (jA l m=jA (l.drop k) (m.drop k))/\Ext w wr) (λi _=>l.length-(intOf i).toNat);exact⟨0,zl' _,rfl,rfl,eR'⟩;obtain⟨k,hk,rfl,r,f⟩:=hrel;by_cases j:k<l.length
  .have g:k<m.length:=by rw[<- D.out];exact j
   obtain⟨b,o,R,E⟩:=(N.out.ext f).at_ j;obtain⟨S,T,z,F⟩:=(O.out.ext f).at_ g;subst R z;have G:=ah (drop_at l k j);have H:=ah (drop_at m k g);generalize l[k]=x at*;generalize m[k]=y at*;have s:=aI r (show _=(x==y&&jA (l.drop (k+1)) (m.drop (k+1)))from by rw[G.out,H.out];rfl);clear r G H;have U:∀B:aj wr,B.w.cell? ⟨b,o+k,none⟩=some (.int .i64 x):=bY E;have V:∀B:aj wr,B.w.cell? ⟨S,T+k,none⟩=some (.int .i64 y):=bY F;have W:=z0' k;have X:(k:Int)<(l.length:Int):=(by omega);have Y:(k:Int)<(m.length:Int):=(by omega);go_wp2_with fail;refine rX' ?_
   repeat(go_big_quiet_step(fail))
   refine wpQuiet_nil ?_;rintro _⟨Z,rfl⟩;have q:=f.trans' Z.h;clear U V E F;by_cases d:x=y
   .have C:(x != y)=false:=(by rw[d];simp);have p:=aI s (show _=jA (l.drop (k+1)) (m.drop (k+1))from by rw[d];simp);clear s d;go_wp2;go_roundw;exact⟨k+1,by omega,by go_num,p,q⟩;simp[intOf];omega
   .have C:(x != y)=true:=bN' d;have p:=aI s (show _=false from by rw[beq_eq_false_iff_ne.2 d];rfl);clear s d;go_wp2;go_ret;exact⟨aO p.out.symm,q⟩
  .have p:=aI r (show _=true from by rw[bM l k (by omega),bM m k (by rw[<- D.out];omega)];rfl);clear r;go_wp2;go_ret;exact⟨aO p.out.symm,f⟩
 .have P:((l.length:Int) != (m.length:Int))=true:=by rw[bne_iff_ne];omega
  have p:=ah (Fe l m a);clear a;go_enter func290,ntmps290;go_wp2;go_ret;exact⟨aO p.out.symm,eR'⟩
def kU(T:ak)(l:List Int):List Int:=if eU T l=0 then Na T l else[]
theorem zY{T:ak}{l:List Int}(a:eU T l=0):bV T=true/\(mX T l).length<=4096:=by
 unfold eU at a;by_cases b:aV T l=0
 .rw[nN' (by rw[b];simp)]at a;refine⟨(qm b).1,?_⟩;by_cases c:4096<((mX T l).length:Int)
  .rw[pP' c]at a;omega
  .omega
 .rw[pP' b]at a;exact absurd a b
theorem ZE(ht:aS w t T)(G:aC w ⟨A,n,c⟩ l):
 Calls prog 118 #[t.v,.slice A n c] w λe w'=>∃B m d,e=.returned (.tuple #[.slice B m d,.int .i64 (eU T l)])/\Ext w w'/\aC w' ⟨B,m,d⟩ (kU T l)/\∀b,aF B=some b->w.heap.size<=b:=by
 have a:=cO w t;have E:=ah (ht.aB a);have H:=ah (G.ext a);clear ht G;go_enter func118,ntmps118;go_wp2_with fail;refine(JX T t l A n c _ E.out H.out).mono ?_;rintro e I⟨B,m,d,rfl,i,j⟩;have f:=ah i;have k:=ah j;have L:=bT' t i;clear i j;by_cases g:eU T l=0
 .have x:(eU T l==0)=true:=by rw[bq'];exact g
  have y:Hid (aC I ⟨B,m,d⟩ (mX T l)):=ah (by have:=k.out;rw[kD,pP' g]at this;exact this);have s:=ah g;have o:=ah (zY g);clear g k;go_wp2_with fail;refine(Y1 T o.out.1 t (mX T l) B m d _ (E.out.aB f.out) y.out (by have:=o.out.2;omega)).mono ?_;rintro e M⟨F,J,K,rfl,p,q,r⟩;have z:=ah p;have C:=(a.trans' f.out).trans' q;have D:Hid (∀b,aF F=some b->w.heap.size<=b):=ah (λb h=>Nat.le_trans (a.trans' f.out).b.size (r b h));clear p q r;go_wp2;go_ret2;exact⟨F,J,K,by rw[s.out];rfl,C,by rw[kU,s.out,pP' rfl];exact z.out,D.out⟩
 .have x:(eU T l==0)=false:=by rw[aH];exact g
  have s:=ah g;have C:=a.trans' f.out;clear g;go_wp2;go_ret2;exact⟨none,0,0,rfl,C,by rw[kU,nN' s.out];exact aC.nil_ _,λb h=>by cases h⟩
theorem Wi(ht:aS w t T)(a:aC w ⟨A,n,c⟩ l):
 Calls prog 118 #[t.v,.slice A n c] w λe w'=>∃B m d,e=.returned (.tuple #[.slice B m d,.int .i64 (eU T l)])/\Ext w w'/\aC w' ⟨B,m,d⟩ (kU T l):=
 (ZE T t l A n c w ht a).mono λ_ _⟨B,m,d,h1,h2,h3,_⟩=>⟨B,m,d,h1,h2,h3⟩
def pR(T:ak)(l:List Int):Bool:=(eU T l==0)&&jA (kU T l) l
theorem zA'(ht:aS w t T)(q:aC w ⟨A,n,c⟩ l):
 cE' 242 #[t.v,.slice A n c] w (.bool (pR T l)):=by
 have a:=cO w t;have r:=ah (ht.aB a);have o:=ah (q.ext a);clear ht q;go_enter func242,ntmps242;go_wp2_with fail;refine(Wi T t l A n c _ r.out o.out).mono ?_;rintro e s⟨B,m,d,rfl,f,g⟩;have b:=ah f;have h:=ah g;clear f g;cases p:(eU T l==0)
 .have i:Hid (pR T l=false):=ah (by rw[pR,p];rfl);have j:=a.trans' b.out;go_wp2;go_ret;exact⟨aO i.out.symm,j⟩
 .have i:Hid (pR T l=jA (kU T l) l):=ah (by rw[pR,p];rfl);go_wp2_with(go_at_call 290;refine(Xw (kU T l) l B m d A n c _ h.out (o.out.ext b.out)).mono ?_;rintro e x⟨rfl,k⟩);have j:=(a.trans' b.out).trans' k;go_ret;exact⟨aO i.out.symm,j⟩
def aHG(w0 w:World)(g tb:Nat)(A6:Option Addr)(c6:Nat)(aW r:List Int)(w':World):Prop:=
 ∃M A8 n8 c8 st,MSt w w0 w' g tb w.heap.size w.heap.size M A8 n8 c8 A6 28 c6 st (runM gu aW ⟨[],[]⟩ r).1 (runM gu aW ⟨[],[]⟩ r).2
def aO1(w0 w:World)(g tb p6 c6:Nat)(aW r:List Int)(gh:Nat)(s13:Value)(wx:World):Prop:=
 ∃(k:Nat)(M:List Nat)(A8:Option Addr)(n8 c8:Nat)(st:List Int)(P:Mps)(r':List Int),k+gh=28/\s13=.int .i64 k/\MSt w w0 wx g tb w.heap.size w.heap.size M A8 n8 c8 (some ⟨p6,0,none⟩) 28 c6 st P r'/\
  Hid (runM gu aW ⟨[],[]⟩ r=runM (gu.drop k) (st.drop k) P r')/\P.aW.length<=k/\P.mps.length<=k/\w.heap.size<=wx.heap.size
def xW(c:Int)(P:Mps)(r:List Int):Bool×Mps×List Int:=
 if(qW c r).1=true then
  if 0<dL 3 (oP (qW c r).2).2 then(true,⟨P.mps++[⟨c,(oP (qW c r).2).1⟩],P.aW⟩,(oP (qW c r).2).2.tail)else(false,P,(oP (qW c r).2).2.tail)
 else(false,P,(qW c r).2)
theorem aGH(c a:Int)(P:Mps)(r:List Int):stepM c a P r=(⟨(xW c P r).2.1.mps,iZ (xW c P r).2.1.aW c c (if(xW c P r).1=true then 3 else a)⟩,(xW c P r).2.2):=by
 unfold stepM xW;split
 .split<;>rfl
 .rfl
theorem aD6(B w:World)(g m:Nat)(A6:Option Addr)(c6:Nat)(aW r:List Int)(hs:Src B w g r)(t:Ext B w)(c1:g<m)(l:m<w.heap.size)(ar:B.heap.size<=m)(h5:w.cell? ⟨m,5,none⟩=some (.slice none 0 0))(h8:w.cell? ⟨m,8,none⟩=some (.slice none 0 0))(hf:∀k,w.frozen? ⟨m,k,none⟩=false)(h6:aK w (m+1) A6 28 c6 aW):
 Calls prog 40 #[.pointer (some ⟨g,0,none⟩),.pointer (some ⟨m,0,none⟩),.slice A6 28 c6] w λe w'=>e=.returned (.tuple #[])/\aHG B w g m A6 c6 aW r w':=by
 obtain⟨W,rfl⟩:=Own.some_ h6 (by omega);have a4:=(aK.ints h6).len.1;have c2:=(Own.lt h6 W rfl);have X:Hid (g<m):=ah c1;have c3:=ah a4
 have H0:Hid (∀Y,Ext w Y->w.heap.size<Y.heap.size->aC Y ⟨some ⟨w.heap.size,0,none⟩,28,28⟩ gu->MSt w B Y g m w.heap.size w.heap.size [g,m,W] none 0 0 (some ⟨W,0,none⟩) 28 c6 aW ⟨[],[]⟩ r):=ah (λY S hz hp=>by
  exact⟨hs.kp (M:=[]) (Kp.dX S) (by simp),t.trans' S,Kp.dX S,λk _ _=>S.b.cell (p:=⟨m,k,none⟩) l,λk=>(S.b.frozen (p:=⟨m,k,none⟩) l).trans (hf k),aY (bg S) h8,jO.nil_ _ _ _,iL.nil_ (aY (bg S) h5) ((S.b.frozen (p:=⟨m,5,none⟩) l).trans (hf 5)),Own.ext h6 S,
   λb t=>by simp only[aF,Option.map_some,Option.some.injEq]at t;omega,by simp,by simp,λb t=>(by cases t),λb t=>by simp only[aF,Option.map_some,Option.some.injEq]at t;simp[t],λb t=>by simp at t;omega,hp.qP (by simp;omega)⟩)
 clear hs t h5 h8 hf h6 a4;go_enter func40,ntmps40;go_wp2_with fail;refine(O7 w).mono ?_;rintro e Y⟨rfl,a5,aD⟩;have aE:w.heap.size<Y.heap.size:=by
  obtain⟨b,o,Z,hc⟩:=a5.at_ (i:=0) (by decide);injection Z with Z;injection Z with h _;subst h;exact World.block_lt_of_cell? _ _ hc
 have zF:=ah (H0.out Y aD aE a5);clear H0 a5 aD;go_wp2;go_loopg[13] 28 (λgh E F=>aO1 B w g m W c6 aW r gh E F);exact⟨0,[g,m,W],none,0,0,aW,⟨[],[]⟩,r,rfl,rfl,zF.out,ah rfl,lr' _,lr' _,by omega⟩;obtain⟨k,M,A8,n8,c8,Q,P,T,c4,rfl,aM,HR,a6,c9,ca⟩:=hrel;have j:=ah aM;clear aM zF aE;by_cases bk:k<28
 .obtain⟨bl,rfl⟩:=gS' gk;have cb:(k:Int)<28:=by omega
  have cd:=z0' k;have aR:k<gu.length:=by simpa[gu]using bk
  have G:k<Q.length:=by have:=(aK.ints j.out.o6).len.1;omega
  obtain⟨b',o',dW,a7⟩:=j.out.pool.at_ aR;injection dW with dW;injection dW with h f;subst h f;rw[Nat.zero_add]at a7;have a7:=vN a7;have HD:=ah (drop_at gu k aR);have a8:=ah (drop_at Q k G);obtain⟨bm,ce⟩:=Fv j.out.o6 k G;generalize gu[k]=cc at*;obtain⟨sk,a9⟩:=eY' (Q[k]);rw[a9]at bm a8;obtain⟨⟨mp,R,r'⟩,hq⟩:∃q,xW cc P T=q:=⟨_,rfl⟩;have HQ:=ah hq
  have b0:Hid (runM gu aW ⟨[],[]⟩ r=runM (gu.drop (k+1)) (Q.drop (k+1)) ⟨R.mps,iZ R.aW cc cc (if mp=true then 3 else sk)⟩ r'):=ah (by
   rw[HR.out,HD.out,a8.out,runM,aGH,hq])
  obtain⟨H,d,TU⟩:∃b d,qW cc T=(b,d):=⟨_,_,rfl⟩;have DT:=ah TU;have b2:=ah a9;clear HR HD a8 hq TU a9;obtain⟨wo,rfl⟩:=eX' wr;go_upto_region 4 with fail;go_cut [32]from 14 to 74 (λbo F=>bo=.bool H/\MSt w B F g m w.heap.size w.heap.size M A8 n8 c8 (some ⟨W,0,none⟩) 28 c6 Q P d/\Kp [g] wo F)
  case first=>
   by_cases I:(cc==128512||cc==7684)=true
   .have J:Hid (true=H/\T=d):=ah (by have s:=DT.out;rw[qW,pP' I]at s;exact Prod.mk.inj s);by_cases h2:cc=128512
    .subst h2;go_wp2_with fail;go_meet
     case rel=>obtain⟨h,f⟩:=J.out;subst h f;exact⟨rfl,j.out,Kp.refl _ _⟩
    .have h3:cc=7684:=(by simp only[oT',bq']at I;omega);subst h3;go_wp2_with fail;go_meet
     case rel=>obtain⟨h,f⟩:=J.out;subst h f;exact⟨rfl,j.out,Kp.refl _ _⟩
   .have bp:(cc==128512)=false:=(by simp only[oT',not_or,Bool.not_eq_true]at I;exact I.1);have bq:(cc==7684)=false:=(by simp only[oT',not_or,Bool.not_eq_true]at I;exact I.2);by_cases h3:cc=947
    .have J:Hid ((dL 2 T==0)=H/\T.tail=d):=ah (by have s:=DT.out;rw[qW,nN' I,pP' h3]at s;exact Prod.mk.inj s);clear I bp bq;subst h3;go_wp2_with fail;refine(pI B wo g T 2 (by decide) (by decide) j.out.src j.out.ext).mono ?_;rintro e w2⟨rfl,b3,ab,b4⟩;have K:=ah (j.out.next ab b3 b4 X.out l);have br:=ah ab;clear b3 ab b4;go_wp2_with fail;go_meet
     case rel=>obtain⟨h,f⟩:=J.out;subst h f;exact⟨rfl,K.out,br.out⟩
    .have J:Hid (false=H/\T=d):=ah (by have s:=DT.out;rw[qW,nN' I,nN' h3]at s;exact Prod.mk.inj s);have cf:(cc==947)=false:=(by rw[aH];exact h3);clear I h3;go_wp2_with fail;go_meet
     case rel=>obtain⟨h,f⟩:=J.out;subst h f;exact⟨rfl,j.out,Kp.refl _ _⟩
  case rest=>
   obtain⟨rfl,a1,Ub⟩:=hcut;obtain⟨w2,rfl⟩:=eX' wc;have K:=ah a1;have cg:=Ub.size;clear a1 Ub j;go_upto_if 32 with fail;go_cut [13]from 14 to 74 (λE F=>E=.int .i64 k/\∃M' bs bt bu b5,MSt w B F g m w.heap.size w.heap.size M' bs bt bu (some ⟨W,0,none⟩) 28 c6 b5 R r'/\b5.drop (k+1)=Q.drop (k+1)/\F.cell? ⟨W,k,none⟩=some (.int .i64 (if mp=true then 3 else sk))/\R.aW.length<=k/\R.mps.length<=k+1/\w.heap.size<=F.heap.size)
   case first=>
    cases H
    .have J:Hid (false=mp/\P=R/\d=r'):=ah (by
      have s:=HQ.out;rw[xW,DT.out,nN' (by simp)]at s;obtain⟨h,f⟩:=Prod.mk.inj s;obtain⟨f,L⟩:=Prod.mk.inj f
      exact⟨h,f,L⟩)
     have ac:=ah (Fv K.out.o6 k G).1;have KJ:=ah b2.out;go_wp2_with fail;go_meet
     case rel=>
      obtain⟨h,f,L⟩:=J.out;subst h f L;exact⟨rfl,M,A8,n8,c8,Q,K.out,rfl,by rw[ac.out,KJ.out];rfl,a6,by omega,by omega⟩
    .have J:Hid (xW cc P T=if 0<dL 3 d.tail.tail then(true,⟨P.mps++[⟨cc,(oP d).1⟩],P.aW⟩,d.tail.tail.tail)else(false,P,d.tail.tail.tail)):=ah (by
      rw[xW,DT.out,pP' rfl];rfl)
     have bv:=vF d (n:=3) (by decide);go_wp2_with fail;refine(pI B w2 g d 3 (by decide) (by decide) K.out.src K.out.ext).mono ?_;rintro e w3⟨rfl,b6,ad,b7⟩;have dU:=ah (XSt.new ad b6 b7 (97+dL 3 d) cc 80);have ch:=ad.size;clear b6 ad b7;obtain⟨w4,ae⟩:=eX' ((w3.alloc (.cells #[.int .i64 (97+dL 3 d)] 3)).alloc (.cells #[.int .i64 cc,.slice (some ⟨w3.heap.size,0,none⟩) 1 1] 80));have qx:w4.heap.size=w3.heap.size+2:=(by rw[ae];simp);go_upto_region 6 with fail;rw[<- ae]at dU |-;clear ae;generalize w3.heap.size=p at*;obtain⟨b8,KY⟩:=eY' (dL 2 d.tail==0);have bw:=ah KY;obtain⟨a,Z⟩:=eY' (97+dL 3 d);rw[Z]at dU
     have af:Hid ((oP d).1=if b8=true then[a,46]else[a]):=ah (by
      rw[oP,<- Z,<- KY];by_cases h0:dL 2 d.tail=0
      .rw[pP' h0,pP' (by rw[h0];rfl)]
      .rw[nN' h0,nN' (by rw[bq'];exact h0)])
     have HA:=ah Z;clear Z bv;go_upto_if 41 with((go_at_call 34;refine(pI B w4 g d.tail 2 (by decide) (by decide) dU.out.src dU.out.ext).mono ?_;rintro e U⟨rfl,b9,ag,ba⟩));have N:g<w2.heap.size:=K.out.hM g K.out.hg;have dS:=ah (dU.out.next ag b9 ba N);have oG:=ag.size;clear b9 ag ba KY dU;go_cut [13]from 14 to 74 (λE F=>E=.int .i64 k/\∃A n c,XSt w2 B F g d.tail.tail (p+1) cc A n c (oP d).1/\U.heap.size<=F.heap.size)
     case first=>
      cases b8
      .go_wp2_with fail;go_meet
       case rel=>exact⟨rfl,_,1,1,by rw[af.out];exact dS.out,lr' _⟩
      .have bb:=dS.out.m1;have ai:Ext U (U.alloc (.cells #[.int .i64 46] 3)):=eR'.ay _;have eY:=ah (dS.out.aB ai N);obtain⟨A7,c7,w7,bc,rG,uf,Q5⟩:=fQ eY.out.own (iJ U 46) (by omega) (by simp;omega);have pY:=ah (eY.out.app rG uf Q5 N (by omega));obtain⟨ci,cj⟩:=eY.out.DJ uf;have bx:U.heap.size<=w7.heap.size:=Nat.le_trans ai.b.size uf.size;clear rG uf Q5 ai;go_wp2_with(at_builtin;refine dA rfl _ _ _ rfl _ _ rfl rfl _ _ bc ?_);go_meet
       case rel=>exact⟨rfl,A7,_,c7,by rw[af.out];exact pY.out,by simpa using bx⟩
     case rest=>
      obtain⟨rfl,C,x,D,bd,ck⟩:=hcut;obtain⟨w8,rfl⟩:=eX' wc;have rV:=ah bd;obtain⟨bz,U0⟩:=eY' (decide (0<dL 3 d.tail.tail));have Tn:=ah U0;clear bd dS bw;go_upto_if 49 with((go_at_call 34;refine(pI B w8 g d.tail.tail 3 (by decide) (by decide) rV.out.src rV.out.ext).mono ?_;rintro e V⟨rfl,be,al,Bf⟩));have oC:=ah (rV.out.next al be Bf N);have cl:=al.size;have DY:=ah (K.out.next oC.out.kp oC.out.src oC.out.ext X.out l);clear be al Bf rV U0;cases bz
      .have an:Hid (false=mp/\P=R/\d.tail.tail.tail=r'):=ah (by
        have s:=HQ.out;rw[J.out,nN' (by have h2:=Tn.out;rw[aA]at h2;exact h2)]at s;obtain⟨h,f⟩:=Prod.mk.inj s;obtain⟨f,L⟩:=Prod.mk.inj f
        exact⟨h,f,L⟩)
       have ac:=ah (Fv DY.out.o6 k G).1;have KJ:=ah b2.out;go_wp2_with fail;go_meet
       case rel=>
        obtain⟨h,f,L⟩:=an.out;subst h f L;exact⟨rfl,M,A8,n8,c8,Q,DY.out,rfl,by rw[ac.out,KJ.out];rfl,a6,by omega,by omega⟩
      .have an:Hid (true=mp/\(⟨P.mps++[⟨cc,(oP d).1⟩],P.aW⟩:Mps)=R/\d.tail.tail.tail=r'):=ah (by
        have s:=HQ.out;rw[J.out,pP' (by have h2:=Tn.out;rw[au]at h2;exact h2)]at s;obtain⟨h,f⟩:=Prod.mk.inj s;obtain⟨f,L⟩:=Prod.mk.inj f
        exact⟨h,f,L⟩)
       have bA:=oC.out.m0;have bb:=oC.out.m1;have bB:=DY.out.v8;have z:Ext V (V.alloc (.cells #[.int .i64 cc,.slice C x D] 80)).drew:=(eR'.ay _).dQ;have bC:=ah z;have cm:=aY (bg z) bA;have Uc:=aY (bg z) bb;have cn:=aY (bg z) bB;have O:=ah (DY.out.aB z X.out l);have bE:0<x:=by
        have I:=(aK.ints oC.out.own).len.1;have h2:0<(oP d).1.length:=(by rw[af.out];split<;>simp);omega
       have bG:Hid (aC (hide M (V.alloc (.cells #[.int .i64 cc,.slice C x D] 80)).drew) ⟨C,x,D⟩ (oP d).1):=ah ((oC.out.aB z N).seq (λb t=>K.out.hM b t) bE);have bf:(V.alloc (.cells #[.int .i64 cc,.slice C x D] 80)).drew.cell? ⟨V.heap.size,0,none⟩=some (.int .i64 cc):=World.cell?_alloc_new V _ _ 0;have bh:(V.alloc (.cells #[.int .i64 cc,.slice C x D] 80)).drew.cell? ⟨V.heap.size,1,none⟩=some (.slice C x D):=World.cell?_alloc_new V _ _ 1;have bH:=ah bf;have bI:=ah bh;have bL:=DY.out.o8.len.1;have co:n8<=28:=(by omega);clear z bf bh bL;go_wp2_with fail
       go_region_law((refine Ia (by rfl) _ _ (by rfl) M w.heap.size (by rfl) O.out.o8 (by rfl) bH.out bI.out bG.out O.out.h8 (by omega) (by simp;omega) ?_
                      intro bN bO cp zq sD zA;obtain⟨bQ,xq⟩:=MSt.aPa O.out zq sD zA X.out l (lr' _) ar;obtain⟨a2,U5⟩:=MSt.wW O.out sD l 8;have Si:=a2.trans O.out.v8;have Ut:=Nat.le_trans (Ext.b bC.out).size sD.size;have Gs:=ah xq;have bR:=ah (xq.aUn k 3 X.out ar);obtain⟨Gv,cq⟩:=Fv xq.o6 k G
                      clear zq sD zA xq a2))
       all_goals
        have bS:=ah (World.cell?_setCell_same _ _ (.int .i64 3) Gv);go_wp2_with fail;go_meet
        case rel=>
         obtain⟨h,f,L⟩:=an.out;subst h f L;exact⟨rfl,bQ,bN,_,bO,_,bR.out,by rw[List.drop_set_of_lt (by omega)],bS.out,a6,by simp;omega,by simp;omega⟩
   case rest=>
    obtain⟨rfl,M5,A5,n5,c5,bT,a3,bi,bU,cr,a4,oG⟩:=hcut;obtain⟨U,rfl⟩:=eX' wc;have DX:=ah a3;have bX:=ah bi;obtain⟨y,hy⟩:=eY' (if mp=true then 3 else sk);rw[hy]at bU b0;clear a3 bi K hy;go_wp2_with fail;go_still_tail 10,(by kernel_rfl);go_wp2_with fail;refine(Ac M5 B _ m 5 R.aW cc cc 0 y DX.out.ht (λb t=>by simpa using DX.out.hM b t) (DX.out.ext.trans' eR'.dQ) ar (DX.out.aB eR'.dQ X.out l).col (by omega)).mono ?_;rintro e w6⟨rfl,ao⟩;have KL:=ah ((DX.out.aB eR'.dQ X.out l).add5 ao X.out l);have cs:U.heap.size<=w6.heap.size:=ao.kp.size;have bj:=BD R.aW cc cc y;have c0:=ah bj;clear ao bj;go_wp2;go_roundg bl;exact⟨k+1,M5,A5,n5,c5,bT,_,r',by omega,by go_num,KL.out,ah (by rw[b0.out,bX.out]),by have s:=c0.out;simp only;omega,by simp only;omega,by omega⟩;omega
 .obtain rfl:gk=0:=by omega
  obtain rfl:k=28:=by omega
  have iw:Hid (runM gu aW ⟨[],[]⟩ r=(P,T)):=ah (by
   rw[HR.out,bM gu 28 (by decide)]
   cases List.drop 28 Q<;>rfl)
  go_wp2;go_end0;exact⟨rfl,M,A8,n8,c8,Q,by rw[iw.out];exact j.out⟩
def oM(l:List Int):Bool:=iO l 0 != 45&&iO l ((l.length:Int)-1) != 45&& !(iO l 2==45&&iO l 3==45)
theorem EW{l:List Int}{i:Nat}(h:i<l.length):iO l (i:Int)=l[i]:=by rw[iO,nN' (by omega),nN' (by omega),Int.toNat_natCast,getD_lt l i 0 h]
theorem D8{l:List Int}{i:Int}(h:i<0\/(l.length:Int)<=i):iO l i= -1:=by
 unfold iO;by_cases a:i<0
 .rw[pP' a]
 .rw[nN' a,pP' (by omega)]
theorem WI(h:aC w ⟨A,n,c⟩ l):
 cE' 206 #[.slice A n c] w (.bool (oM l)):=by
 have r:=ah h;obtain⟨s,a,f⟩:=h.len;have t:(l.length:Int)<=9223372036854775807:=by omega
 have y:(0:Int)<=(l.length:Int):=aZ _;subst s;clear h a f;have b:Hid (∀(i:Int)(w':World),Ext w w'->cW' 264 #[.slice A l.length c,.int .i64 i] w' (.int .i64 (iO l i))):=ah (λi w' h=>Jq l A _ c i w' (r.out.ext h));have j:=ah (b.out 0);have k:=ah (b.out ((l.length:Int)-1));have m:=ah (b.out 2);have o:=ah (b.out 3);have d:Hid (oM l=(iO l 0 != 45&&iO l ((l.length:Int)-1) != 45&& !(iO l 2==45&&iO l 3==45))):=rfl;generalize iO l 0=y0 at j d;generalize iO l ((l.length:Int)-1)=y1 at k d;generalize iO l 2=y2 at m d;generalize iO l 3=y3 at o d;clear b;cases z:(y0 != 45)<;>cases B:(y1 != 45)<;>cases C:(y2==45)<;>cases D:(y3==45)
 all_goals
  have p:=ah d.out;rw[z,B,C,D]at p;go_enter func206,ntmps206;go_wp2_with fail
  first
   |(refine rX' ?_
     repeat(go_big_quiet_step(first
      |(go_at_call 264;with_reducible exact iK (j.out _ (aj.h _)))
      |(go_at_call 264;with_reducible exact iK (k.out _ (aj.h _)))
      |(go_at_call 264;with_reducible exact iK (m.out _ (aj.h _)))
      |(go_at_call 264;with_reducible exact iK (o.out _ (aj.h _)))))
     refine wpQuiet_nil ?_;rintro _⟨x,rfl⟩;have q:=x.h;go_wp2;go_ret
     exact⟨aO p.out.symm,q⟩)
   |(have q:=Ext.refl w
     repeat(first
      |(with_reducible refine(j.out _ eR').mono ?_;rintro e w'⟨rfl,rfl⟩;go_wp2_with fail)
      |(with_reducible refine(k.out _ eR').mono ?_;rintro e w'⟨rfl,rfl⟩;go_wp2_with fail)
      |(with_reducible refine(m.out _ eR').mono ?_;rintro e w'⟨rfl,rfl⟩;go_wp2_with fail)
      |(with_reducible refine(o.out _ eR').mono ?_;rintro e w'⟨rfl,rfl⟩;go_wp2_with fail))
     go_ret
     exact⟨aO p.out.symm,q⟩)
theorem WC(h:aC w ⟨A,n,c⟩ l):
 cE' 243 #[.slice A n c] w (.bool (oM l)):=by
 have C:=ah h;obtain⟨P,s,G⟩:=h.len;have Q:(l.length:Int)<=9223372036854775807:=by omega
 subst P;clear h s G;by_cases D:l.length=0
 .have d:Hid (oM l=true):=ah (by rw[oM,D8 (.inr (by omega)),D8 (.inl (by omega)),D8 (.inr (by omega)),D8 (.inr (by omega))];rfl);have R:(l.length==0)=true:=by rw[bq'];exact D
  have S:((l.length:Int)==0)=true:=by rw[bq'];omega
  clear D;go_enter func243,ntmps243;go_wp2_with fail
  first
   |(refine rX' ?_
     repeat(go_big_quiet_step(fail))
     refine wpQuiet_nil ?_;rintro _⟨x,rfl⟩;have t:=x.h;go_wp2;go_ret
     exact⟨aO d.out.symm,t⟩)
   |(go_ret
     exact⟨aO d.out.symm,eR'⟩)
 obtain⟨m,J⟩:∃m,l.length=m+1:=⟨l.length-1,by omega⟩;have R:(l.length==0)=false:=by rw[aH];exact D
 have S:((l.length:Int)==0)=false:=bF';have y:(l.length:Int)-1=(m:Int):=by omega
 have f:m<l.length:=by omega
 obtain⟨b,o,T,K⟩:=C.out.at_ (i:=0) (by omega);subst T;obtain⟨L,M,a,U⟩:=C.out.at_ (i:=m) f;injection a with a;injection a with z B;subst z B;rw[Nat.add_zero]at K;have N:iO l 0=l[0]:=EW (i:=0) (by omega);have O:iO l ((l.length:Int)-1)=l[m]:=by rw[y];exact EW f
 have E:Hid (oM l=(l[0] != 45&&l[m] != 45&& !(iO l 2==45&&iO l 3==45))):=ah (by rw[oM,N,O]);have V:=z0' m;have W:(m:Int)<(l.length:Int):=by omega
 have X:(0:Int)<(l.length:Int):=by omega
 clear N O D;generalize l[0]=y0 at*;generalize l[m]=y1 at*;have Y:∀g:aj w,g.w.cell? ⟨b,o,none⟩=some (.int .i64 y0):=bY K;have Z:∀g:aj w,g.w.cell? ⟨b,o+m,none⟩=some (.int .i64 y1):=bY U;by_cases F:l.length<4
 .have j:Hid (oM l=(y0 != 45&&y1 != 45)):=ah (by rw[E.out,D8 (i:=3) (.inr (by omega)),show((-1:Int)==45)=false from rfl,Bool.and_false,Bool.not_false,Bool.and_true]);have d1:decide (l.length<4)=true:=dt' F;have d2:decide ((l.length:Int)<4)=true:=dT';clear E J F f;cases H:(y0 != 45)<;>cases I:(y1 != 45)
  all_goals
   have d:=ah j.out;rw[H,I]at d;go_enter func243,ntmps243;go_wp2_with fail
   first
    |(refine rX' ?_
      repeat(go_big_quiet_step(fail))
      refine wpQuiet_nil ?_;rintro _⟨x,rfl⟩;have t:=x.h;go_wp2;go_ret
      exact⟨aO d.out.symm,t⟩)
    |(go_ret
      exact⟨aO d.out.symm,eR'⟩)
 .have d1:decide (l.length<4)=false:=df' F;have d2:decide ((l.length:Int)<4)=false:=dF';have k:2<l.length:=by omega
  have p:3<l.length:=by omega
  obtain⟨L,M,a,c2⟩:=C.out.at_ (i:=2) k;injection a with a;injection a with z B;subst z B;obtain⟨L,M,a,c3⟩:=C.out.at_ (i:=3) p;injection a with a;injection a with z B;subst z B;have j:Hid (oM l=(y0 != 45&&y1 != 45&& !(l[2]==45&&l[3]==45))):=ah (by rw[E.out,show iO l 2=l[2]from EW (i:=2) k,show iO l 3=l[3]from EW (i:=3) p]);generalize l[2]=y2 at*;generalize l[3]=y3 at*;have a4:∀g:aj w,g.w.cell? ⟨b,o+2,none⟩=some (.int .i64 y2):=bY c2;have a5:∀g:aj w,g.w.cell? ⟨b,o+3,none⟩=some (.int .i64 y3):=bY c3;have a6:(2:Int)<(l.length:Int):=by omega
  have a7:(3:Int)<(l.length:Int):=by omega
  clear E J F f k p;cases H:(y0 != 45)<;>cases I:(y1 != 45)<;>cases e5:(y2 != 45)<;>cases e6:(y3 != 45)
  all_goals
   have d:=ah j.out;have q:=e5;have r:=e6;simp only[bne,Bool.not_eq_false',Bool.not_eq_true']at q r;rw[H,I,q,r]at d;clear q r;go_enter func243,ntmps243;go_wp2_with fail
   first
    |(refine rX' ?_
      repeat(go_big_quiet_step(fail))
      refine wpQuiet_nil ?_;rintro _⟨x,rfl⟩;have t:=x.h;go_wp2;go_ret
      exact⟨aO d.out.symm,t⟩)
    |(go_ret
      exact⟨aO d.out.symm,eR'⟩)
section
variable {T:ak}
structure Scl(T:ak):Prop where
 key:∀m∈T.dec,bn m.lo=true
 tgt:∀m∈T.dec,∀c∈m.to,bn c=true
end
section
variable {T:ak}
def Mks(T:ak)(l:List Int):Prop:=CS T l/\∀z∈l,aG T z≠0
theorem Mks.tail{x:Int}{r:List Int}(h:Mks T (x::r)):Mks T r:=⟨h.1.tail,λz a=>h.2 z (by simp[a])⟩
end
theorem oW'{T:ak}{l:List Int}(h:bV T=true)(d:∀c∈l,bn c=true)(f:l.length<=4096):aV T l=0:=by
 unfold aV;rw[nN' (by rw[h];simp),nN' (by omega),nN'];rw[List.any_eq_true];rintro⟨c,b,a⟩;rw[d c b]at a;simp at a
end Go.Proofs.YtljilcbobhmkgaaGreatDoor
