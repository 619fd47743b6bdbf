/- Part By14. -/
import Derived.Test.YtlmkgaoakcjlnaaGreatDoorBy13
import Derived.Test.YtlmkgaoakcjlnaaGreatDoorRows
import Derived.ProofKit
import Derived.OpenShut
import Derived.Deep.Slices
import Derived.Deep.MidRow
import Derived.Deep.DeepHandedRow
import Derived.Lib.LaidTab
import Derived.Below
import Derived.Carry
import Derived.ChangeSame
open Go.Proofs.Tryz
namespace Go.Proofs.YtlmkgaoakcjlnaaGreatDoor
set_option maxHeartbeats 25600000
set_option maxRecDepth 100000
open Go.RowKit
variable (t:TV)(T:aj)(l:List Int)(A:Option Addr)(n c:Nat)(w:World)
def aKo(T:aj)(w1:World)(D V:List Int)(gh:Nat)(s8 s26:Value)(wx:World):Prop:=
 ∃(k:Nat)(A:Option Addr)(n c:Nat)(pre tail:List Int)(st:Option Int),k+gh=D.length/\s26=.int .i64 k/\s8=.slice A n c/\Hid (aK wx w1.heap.size A n c (pre++st.toList++tail))/\Hid (Ext w1 wx)/\Hid (V=bT T pre st tail (D.drop k))/\Hid (st=none->pre=[])/\Hid (n<=k)/\Hid (∀z∈tail,aG T z≠0)/\Hid (∀z,st=some z->aG T z=0)
def WY(w1:World)(A:Option Addr)(n c:Nat)(L:List Int)(b0:Int)(q gh:Nat)(s11:Value)(wx:World):Prop:=
 gh<=q/\((gh=0/\s11=.int .i64 b0)\/(∃r j:Nat,gh=r+1/\s11=.int .i64 j/\Hid ((j:Int)=b0+1+r)))/\Hid (aK wx w1.heap.size A n c L)/\Hid (Ext w1 wx)
theorem Qk(t:TV)(l:List Int)(A:Option Addr)(n c:Nat)(w:World)(ht:aW w t T)(hi:aF w ⟨A,n,c⟩ l):
 Calls prog 58 #[t.v,.slice A n c] w λe w'=>∃B m d,e=.returned (.tuple #[.slice B m d,.int .i64 (fC T l)])/\Ext w w'/\aF w' ⟨B,m,d⟩ (l9 T l):=by
 have ar:=dG w t;have b4:=ah ar;have HT:=ah (ht.aC ar);have HI:=ah (hi.ext ar);clear ht hi ar;go_enter func58,ntmps58;go_wp2_with fail;refine(Kt T t l A n c _ HT.out HI.out).mono ?_;rintro e J⟨B,m,d,rfl,aw,an⟩;have aa:=ah aw;have bW:w.heap.size<J.heap.size:=by have h':=aw.b.size;simp at h';omega
 have hm:=an.len.1;subst hm;clear aw;by_cases f:fC T l=0
 case neg=>
  have bX:(fC T l != 0)=true:=bN' f;have HZ:=ah f;have hb:=b4.out.trans' aa.out;clear f an;go_wp2;go_ret2;exact⟨none,0,0,rfl,hb,by rw[l9,nN' HZ.out];exact aF.nil_ _⟩
 rw[lK,pP' f]at an;have HW:=ah (Bz f).1;have HC:=ah (yR (Bz f).1);have bp:=ah (ZJ HC.out l);have b6:=ah (Bz f).2;have HE:Hid (fC T l=0):=ah f;have ax:Hid (l9 T l=bT T [] none [] ((jC T l).drop 0)):=ah (by rw[l9,pP' f];rfl);have HS:=ah (ou HW.out);rw[lK,pP' f,f];obtain⟨V,hV⟩:=eY' (l9 T l);rw[hV]at ax;have br:=ah hV;clear hV;generalize jC T l=D at*;have bs:=ah an;clear an f;go_wp2;go_loopg[8,26] D.length (λgh s8 bt wx=>aKo T J D V gh s8 bt wx);exact⟨0,none,0,0,[],[],none,by omega,rfl,rfl,ah (Own.nil_ _ _ _ _),ah eR',ax,ah (λ_=>rfl),ah (lr' _),ah (λz f=>by cases f),ah (λz f=>by cases f)⟩;obtain⟨k,A2,n2,c2,pre,tail,st,bZ,rfl,rfl,HO,HB,HR,bv,M,a5,nY⟩:=hrel;clear ax;by_cases ay:k<D.length
 case neg=>
  have HF:Hid (V=pre++st.toList++tail):=ah (by rw[HR.out,bV D k (by omega),Du]);have bw:Hid (aF wr ⟨A2,n2,c2⟩ V):=ah (by rw[HF.out];exact aK.ints HO.out);have hx:=(b4.out.trans' aa.out).trans' HB.out;clear HR;go_wp2;go_ret2;exact⟨_,_,_,by rw[HE.out];rfl,hx,by rw[br.out];exact bw.out⟩
 obtain⟨a2,rfl⟩:=gS' gk;have bb:=ah (bs.out.ext HB.out);obtain⟨b,o,hA,c0⟩:=bb.out.at_ ay;subst hA;have HD:=ah (drop_at D k ay);have bc:=ah (bp.out _ (gM' ay));generalize D[k]=x at*;have c1:=z0' k;have c3:(k:Int)<(D.length:Int):=by omega
 have c4:D.length<=4096:=b6.out;have iK:Hid (V=bT T pre st tail (x::D.drop (k+1))):=ah (by rw[HR.out,HD.out]);have bn:Hid (∀(w':World),Ext J w'->∀k:Nat,w'.cell? ⟨w.heap.size,k,none⟩=t.v.cells[k]?):=ah λw' bx=>aQ (aa.out.trans' bx)
 have gB:Hid (∀(c:Int)(w':World),Ext J w'->cE' 118 #[t.v,.int .i64 c] w' (.int .i64 (aG T c))):=ah (λc w' h=>zW t T c w' (HT.out.aC (aa.out.trans' h)));clear HR HD bb;cases st with
 |none=>
  have bz:pre=[]:=bv.out rfl;subst bz;have ao:Hid (aK wr J.heap.size A2 n2 c2 tail):=ah (by simpa using HO.out);have HN:Hid (n2=tail.length):=ah (by have:=ao.out.len;simp at this;omega);have iI:Hid (V=if aG T x=0 then bT T ([]++tail) (some x) [] (D.drop (k+1))else bT T [] none (tail++[x]) (D.drop (k+1))):=ah (iK.out.trans (EO [] tail x _));clear HO iK;have U:=z0' n2;have c6:(n2:Int)<=4096:=by have:=M.out;have:=b6.out;omega
  go_wp2;go_loopg[11] tail.length (λgh aD wx=>WY J A2 n2 c2 tail (-1) tail.length gh aD wx)
  case atStart=>
   refine⟨lr' _,?_,ao,HB⟩;rcases Nat.eq_zero_or_pos tail.length with h0|h0
   .exact .inl ⟨h0,by have:=HN.out;rw[h0]at this;subst this;first|rfl|go_num⟩
   .exact .inr ⟨tail.length-1,n2-1,by omega,by have:=HN.out;first|(congr 1;omega)|go_num,ah (by have:=HN.out;omega)⟩
  case round=>
   obtain⟨bA,hs,K,E⟩:=hrel;rcases hs with⟨rfl,rfl⟩|⟨r,j,rfl,rfl,HJ⟩
   ·
    have hd:decide ((0:Int)<= -1)=false:=rfl;have c7:decide ((-1:Int)<0)=true:=rfl;have Z:∀q:ak wr,∀k:Nat,q.w.cell? ⟨w.heap.size,k,none⟩=t.v.cells[k]? :=λq=>bn.out _ (E.out.trans' q.h)
    go_wp2_with fail;refine rX' ?_
    repeat(go_big_quiet_step(first|(fail)))
    refine wpQuiet_nil ?_;rintro _⟨G,rfl⟩;clear Z;obtain⟨Y,N⟩:=eX' G.w;have F:Hid (aK Y J.heap.size _ _ c2 _):=ah (by rw[N];exact Own.ext K.out G.h);have H:Hid (Ext J Y):=ah (by rw[N];exact E.out.trans' G.h);rw[<- N];clear N K E;have K:=F;have E:=H;clear F H;have Z:∀q:ak Y,∀k:Nat,q.w.cell? ⟨w.heap.size,k,none⟩=t.v.cells[k]? :=λq=>bn.out _ (E.out.trans' q.h)
    go_wp2_with fail;refine rX' ?_
    repeat(go_big_quiet_step(first|(fail)))
    refine wpQuiet_nil ?_;rintro _⟨G,rfl⟩;clear Z;obtain⟨O,P⟩:=eX' G.w;have F:Hid (aK O J.heap.size _ _ c2 _):=ah (by rw[P];exact Own.ext K.out G.h);have H:Hid (Ext J O):=ah (by rw[P];exact E.out.trans' G.h);rw[<- P];clear P K E;by_cases L:aG T x=0
    ·
     have HF:Hid (V=bT T ([]++tail) (some x) ([]) (D.drop (k+1))):=ah (iI.out.trans (pP' L));have W:Hid (aG T x=0):=ah L;clear L iI;have C:Ext O (O.alloc (.cells #[.int .i64 x] 3)):=eR'.aB _;have U:=M.out;obtain⟨A5,c5,w5,I,a,i,_⟩:=gJ (Own.ext F.out C) (iQ O x) (by omega) (by have h':=H.out.b.size;simp;omega);have bP:=ah a;have bD:Hid (Ext J w5):=ah (dZ (H.out.trans' C) i (λk L=>(Own.lt F.out k L).1));clear a i C U;go_wp2_with(at_builtin;refine dI rfl _ _ _ rfl _ _ rfl rfl _ _ I ?_);go_roundg a2;exact⟨k+1,A5,n2+1,c5,[]++tail,[],some x,by omega,by go_num,rfl,ah (by simpa using bP.out),bD,HF,ah (by intro h;cases h),ah (by have:=M.out;omega),ah (λz f=>by cases f),ah (λz f=>by injection f with f;subst f;exact W.out)⟩;omega
    ·
     have HF:Hid (V=bT T ([]) (none) (tail++[x]) (D.drop (k+1))):=ah (iI.out.trans (nN' L));have W:Hid (aG T x≠0):=ah L;clear L iI;have C:Ext O (O.alloc (.cells #[.int .i64 x] 3)):=eR'.aB _;have U:=M.out;obtain⟨A5,c5,w5,I,a,i,_⟩:=gJ (Own.ext F.out C) (iQ O x) (by omega) (by have h':=H.out.b.size;simp;omega);have bP:=ah a;have bD:Hid (Ext J w5):=ah (dZ (H.out.trans' C) i (λk L=>(Own.lt F.out k L).1));clear a i C U;go_wp2_with(at_builtin;refine dI rfl _ _ _ rfl _ _ rfl rfl _ _ I ?_);go_roundg a2;exact⟨k+1,A5,n2+1,c5,[],tail++[x],none,by omega,by go_num,rfl,ah (by simpa using bP.out),bD,HF,ah (λ_=>rfl),ah (by have:=M.out;omega),ah (λz f=>by rcases List.mem_append.1 f with f|f;exact a5.out z f;rw[List.mem_singleton]at f;subst f;exact W.out),nY⟩;omega
   ·
    have hr:r<tail.length:=by omega
    have HY:Hid ((tail)[j]? =some tail[r]):=ah (by
     have hj:=HJ.out
     rw[show j=r from by omega,List.getElem?_eq_getElem hr])
    have aE:=ah (a5.out _ (gM' hr));generalize tail[r]=y at*;have aL:=z0' j;have bB:(j:Int)<(n2:Int):=(by have:=HJ.out;have:=HN.out;omega);have hd:decide ((0:Int)<=(j:Int))=true:=dt' aL;have e1:(aG T y != 0)=true:=(by rw[bne_iff_ne];exact aE.out);obtain⟨g,rfl⟩:=Own.some_ K.out (by omega);have Z:∀q:ak wr,∀k:Nat,q.w.cell? ⟨w.heap.size,k,none⟩=t.v.cells[k]? :=λq=>bn.out _ (E.out.trans' q.h)
    have R:∀q:ak wr,q.w.cell? ⟨g,j,none⟩=some (.int .i64 y):=dA (aK.cell K.out (j) y HY.out);go_wp2_with fail;refine rX' ?_
    repeat(go_big_quiet_step(first|(go_at_call 118;with_reducible exact aS (gB.out y _ (E.out.trans' (ak.h _))))))
    refine wpQuiet_nil ?_;rintro _⟨G,rfl⟩;clear Z R;obtain⟨Y,N⟩:=eX' G.w;have F:Hid (aK Y J.heap.size _ _ c2 _):=ah (by rw[N];exact Own.ext K.out G.h);have H:Hid (Ext J Y):=ah (by rw[N];exact E.out.trans' G.h);rw[<- N];clear N K E;go_wp2;go_roundg r
    case measure=>omega
    case rel=>
     refine⟨by omega,?_,F,H⟩;rcases Nat.eq_zero_or_pos r with h0|h0
     .exact .inl ⟨h0,by have:=HJ.out;first|(congr 1;omega)|go_num⟩
     .exact .inr ⟨r-1,j-1,by omega,by have:=HJ.out;first|(congr 1;omega)|go_num,ah (by have:=HJ.out;omega)⟩
 |some s=>
  obtain⟨m,rfl⟩:∃m,n2=m+1:=⟨n2-1,by have:=HO.out.len;simp at this;omega⟩;have ao:Hid (aK wr J.heap.size A2 (m+1) c2 (pre++s::tail)):=ah (by simpa using HO.out);have HN:Hid (m+1=pre.length+1+tail.length):=ah (by have:=ao.out.len;simp at this;omega);have be:=nY.out s rfl;have bE:=ah be;clear HO be;have bS:((m+1:Nat):Int)-1=(m:Int):=by omega
  have bL:(0:Int)<=(pre.length:Int):=bJ _;have c8:=z0' m;have c9:(m:Int)<((m+1:Nat):Int):=by omega
  have ca:m+1<=4096:=by have:=M.out;omega
  have cb:(pre.length:Int)<((m+1:Nat):Int):=by have:=HN.out;omega
  go_wp2;go_loopg[11] tail.length (λgh aD wx=>WY J A2 (m+1) c2 (pre++s::tail) (pre.length:Int) tail.length gh aD wx)
  case atStart=>
   refine⟨lr' _,?_,ao,HB⟩;rcases Nat.eq_zero_or_pos tail.length with h0|h0
   .exact .inl ⟨h0,by have:=HN.out;first|(congr 1;omega)|go_num⟩
   .exact .inr ⟨tail.length-1,m,by omega,by first|rfl|go_num,ah (by have:=HN.out;omega)⟩
  case round=>
   obtain⟨bA,hs,K,E⟩:=hrel;obtain⟨g,rfl⟩:=Own.some_ K.out (by omega);rcases hs with⟨rfl,rfl⟩|⟨r,j,rfl,rfl,HJ⟩
   ·
    have hd:decide ((0:Int)<=(pre.length:Int))=true:=dt' bL;have cc:decide ((pre.length:Int)<0)=false:=dF';have e0:(aG T s != 0)=false:=(by rw[bE.out];rfl);have Z:∀q:ak wr,∀k:Nat,q.w.cell? ⟨w.heap.size,k,none⟩=t.v.cells[k]? :=λq=>bn.out _ (E.out.trans' q.h)
    have R:∀q:ak wr,q.w.cell? ⟨g,pre.length,none⟩=some (.int .i64 s):=dA (aK.cell K.out (pre.length) s (by simp));go_wp2_with fail;refine rX' ?_
    repeat(go_big_quiet_step(first|(go_at_call 118;with_reducible exact aS (gB.out s _ (E.out.trans' (ak.h _))))))
    refine wpQuiet_nil ?_;rintro _⟨G,rfl⟩;clear Z R;obtain⟨Y,N⟩:=eX' G.w;have F:Hid (aK Y J.heap.size _ _ c2 _):=ah (by rw[N];exact Own.ext K.out G.h);have H:Hid (Ext J Y):=ah (by rw[N];exact E.out.trans' G.h);rw[<- N];clear N K E;rcases List.eq_nil_or_concat tail with av|⟨tl,y,av⟩
    ·
     subst av;have ae:m=pre.length:=(by have:=HN.out;simp at this;omega);have bM:decide ((pre.length:Int)<(m:Int))=false:=dF';have bN:decide (pre.length<m)=false:=dF';have bO:=ah ae;clear ae;have K:=F;have E:=H;clear F H;have Z:∀q:ak Y,∀k:Nat,q.w.cell? ⟨w.heap.size,k,none⟩=t.v.cells[k]? :=λq=>bn.out _ (E.out.trans' q.h)
     go_wp2_with fail;refine rX' ?_
     repeat(go_big_quiet_step(first|(fail)))
     refine wpQuiet_nil ?_;rintro _⟨G,rfl⟩;clear Z;obtain⟨O,P⟩:=eX' G.w;have F:Hid (aK O J.heap.size _ _ c2 _):=ah (by rw[P];exact Own.ext K.out G.h);have H:Hid (Ext J O):=ah (by rw[P];exact E.out.trans' G.h);rw[<- P];clear P K E;cases X:pairT T s x with
     |some y2=>
      have HF:Hid (V=bT T pre (some y2) ([]) (D.drop (k+1))):=ah (by rw[iK.out,bT,show pV T [] x=false from rfl,nN' (by simp),X]);have HP:Hid (lJ T s x=(y2,true)):=ah (by rw[lJ,X]);have aR:=ah (QM HC.out bc.out X).2.1;clear X iK;have K:=F;have E:=H;clear F H
      have af:Hid (∀(w':World),Ext J w'->cE' 119 #[t.v,.int .i64 s,.int .i64 x] w' (.tuple #[.int .i64 y2,.bool true])):=ah (λw' h=>by
       have h':=GI T HW.out t s x w' (HT.out.aC (aa.out.trans' h));rw[HP.out]at h'
       exact h')
      have Z:∀q:ak O,∀k:Nat,q.w.cell? ⟨w.heap.size,k,none⟩=t.v.cells[k]? :=λq=>bn.out _ (E.out.trans' q.h)
      have R:∀q:ak O,q.w.cell? ⟨g,pre.length,none⟩=some (.int .i64 s):=dA (aK.cell K.out (pre.length) s (by simp));go_wp2_with fail;refine rX' ?_
      repeat(go_big_quiet_step(first|(go_at_call 119;with_reducible exact aS (af.out _ (E.out.trans' (ak.h _))))))
      refine wpQuiet_nil ?_;rintro _⟨G,rfl⟩;clear Z R;obtain⟨S,Q⟩:=eX' G.w;have F:Hid (aK S J.heap.size _ _ c2 _):=ah (by rw[Q];exact Own.ext K.out G.h);have H:Hid (Ext J S):=ah (by rw[Q];exact E.out.trans' G.h);rw[<- Q];clear Q K E;have r0:S.cell? ⟨g,pre.length,none⟩=some (.int .i64 s):=F.out.cell pre.length s (by simp);have f0:S.frozen? ⟨g,pre.length,none⟩=false:=F.out.frozen pre.length;have bP:=ah (F.out.set pre.length y2);have b0:J.heap.size<=g:=(Own.lt F.out g rfl).1;have bD:=ah (H.out.lI (p:=⟨g,pre.length,none⟩) b0 (.int .i64 y2));generalize b1:pre.length=p at*;go_wp2;go_roundg a2;exact⟨k+1,some ⟨g,0,none⟩,m+1,c2,pre,[],some y2,by omega,by go_num,rfl,ah (by have h5:=bP.out;rw[<- b1]at h5 |-;simpa[List.set_append]using h5),bD,HF,ah (by intro h;cases h),ah (by have:=M.out;omega),a5,ah (λz f=>by injection f with f;subst f;exact aR.out)⟩;omega
     |none=>
      have iI:Hid (V=if aG T x=0 then bT T (pre++s::([])) (some x) [] (D.drop (k+1))else bT T pre (some s) ([]++[x]) (D.drop (k+1))):=ah (by rw[iK.out,bT,show pV T [] x=false from rfl,nN' (by simp),X]);have HP:Hid (lJ T s x=(0,false)):=ah (by rw[lJ,X]);clear X iK;have K:=F;have E:=H;clear F H
      have af:Hid (∀(w':World),Ext J w'->cE' 119 #[t.v,.int .i64 s,.int .i64 x] w' (.tuple #[.int .i64 0,.bool false])):=ah (λw' h=>by
       have h':=GI T HW.out t s x w' (HT.out.aC (aa.out.trans' h));rw[HP.out]at h'
       exact h')
      have Z:∀q:ak O,∀k:Nat,q.w.cell? ⟨w.heap.size,k,none⟩=t.v.cells[k]? :=λq=>bn.out _ (E.out.trans' q.h)
      have R:∀q:ak O,q.w.cell? ⟨g,pre.length,none⟩=some (.int .i64 s):=dA (aK.cell K.out (pre.length) s (by simp));go_wp2_with fail;refine rX' ?_
      repeat(go_big_quiet_step(first|(go_at_call 119;with_reducible exact aS (af.out _ (E.out.trans' (ak.h _))))))
      refine wpQuiet_nil ?_;rintro _⟨G,rfl⟩;clear Z R;obtain⟨S,Q⟩:=eX' G.w;have F:Hid (aK S J.heap.size _ _ c2 _):=ah (by rw[Q];exact Own.ext K.out G.h);have H:Hid (Ext J S):=ah (by rw[Q];exact E.out.trans' G.h);rw[<- Q];clear Q K E;by_cases L:aG T x=0
      ·
       have HF:Hid (V=bT T (pre++s::[]) (some x) ([]) (D.drop (k+1))):=ah (iI.out.trans (pP' L));have W:Hid (aG T x=0):=ah L;clear L iI;have C:Ext S (S.alloc (.cells #[.int .i64 x] 3)):=eR'.aB _;have U:=M.out;obtain⟨A5,c5,w5,I,a,i,_⟩:=gJ (Own.ext F.out C) (iQ S x) (by omega) (by have h':=H.out.b.size;simp;omega);have bP:=ah a;have bD:Hid (Ext J w5):=ah (dZ (H.out.trans' C) i (λk L=>(Own.lt F.out k L).1));clear a i C U;go_wp2_with(at_builtin;refine dI rfl _ _ _ rfl _ _ rfl rfl _ _ I ?_);go_roundg a2;exact⟨k+1,A5,(m+1)+1,c5,pre++s::[],[],some x,by omega,by go_num,rfl,ah (by simpa using bP.out),bD,HF,ah (by intro h;cases h),ah (by have:=M.out;omega),ah (λz f=>by cases f),ah (λz f=>by injection f with f;subst f;exact W.out)⟩;omega
      ·
       have HF:Hid (V=bT T (pre) (some s) ([]++[x]) (D.drop (k+1))):=ah (iI.out.trans (nN' L));have W:Hid (aG T x≠0):=ah L;clear L iI;have C:Ext S (S.alloc (.cells #[.int .i64 x] 3)):=eR'.aB _;have U:=M.out;obtain⟨A5,c5,w5,I,a,i,_⟩:=gJ (Own.ext F.out C) (iQ S x) (by omega) (by have h':=H.out.b.size;simp;omega);have bP:=ah a;have bD:Hid (Ext J w5):=ah (dZ (H.out.trans' C) i (λk L=>(Own.lt F.out k L).1));clear a i C U;go_wp2_with(at_builtin;refine dI rfl _ _ _ rfl _ _ rfl rfl _ _ I ?_);go_roundg a2;exact⟨k+1,A5,(m+1)+1,c5,pre,[]++[x],some s,by omega,by go_num,rfl,ah (by simpa using bP.out),bD,HF,ah (by intro h;cases h),ah (by have:=M.out;omega),ah (λz f=>by rcases List.mem_append.1 f with f|f;exact a5.out z f;rw[List.mem_singleton]at f;subst f;exact W.out),nY⟩;omega
    ·
     rw[List.concat_eq_append]at av;subst av;have ae:m=(pre++s::tl).length:=(by have:=HN.out;simp at this |-;omega);have bR:pre.length<m:=(by rw[ae];simp);have bM:decide ((pre.length:Int)<(m:Int))=true:=dT';have bN:decide (pre.length<m)=true:=dT'
     have bh:Hid ((pre++s::(tl++[y]))[m]? =some y):=ah (by
      have e:pre++s::(tl++[y])=(pre++s::tl)++[y]:=by simp
      rw[e,ae,List.getElem?_concat_length])
     have bO:=ah ae;have bi:=a5.out y (by simp);have qE:Hid (pV T (tl++[y]) x=decide (aG T x<=aG T y)):=ah (by rw[SB,df' bi,Bool.false_or]);clear ae bR bi;by_cases h2:aG T x<=aG T y
     ·
      have e2:decide (aG T x<=aG T y)=true:=dt' h2;have iI:Hid (V=if aG T x=0 then bT T (pre++s::(tl++[y])) (some x) [] (D.drop (k+1))else bT T pre (some s) (tl++[y]++[x]) (D.drop (k+1))):=ah (by rw[iK.out,bT,qE.out,e2,pP' rfl]);clear iK h2;have K:=F;have E:=H;clear F H;have Z:∀q:ak Y,∀k:Nat,q.w.cell? ⟨w.heap.size,k,none⟩=t.v.cells[k]? :=λq=>bn.out _ (E.out.trans' q.h)
      have R:∀q:ak Y,q.w.cell? ⟨g,m,none⟩=some (.int .i64 y):=dA (aK.cell K.out (m) y bh.out);go_wp2_with fail;refine rX' ?_
      repeat(go_big_quiet_step(first|(go_at_call 118;with_reducible exact aS (gB.out y _ (E.out.trans' (ak.h _))))|(go_at_call 118;with_reducible exact aS (gB.out x _ (E.out.trans' (ak.h _))))))
      refine wpQuiet_nil ?_;rintro _⟨G,rfl⟩;clear Z R;obtain⟨O,P⟩:=eX' G.w;have F:Hid (aK O J.heap.size _ _ c2 _):=ah (by rw[P];exact Own.ext K.out G.h);have H:Hid (Ext J O):=ah (by rw[P];exact E.out.trans' G.h);rw[<- P];clear P K E;by_cases L:aG T x=0
      ·
       have HF:Hid (V=bT T (pre++s::(tl++[y])) (some x) ([]) (D.drop (k+1))):=ah (iI.out.trans (pP' L));have W:Hid (aG T x=0):=ah L;clear L iI;have C:Ext O (O.alloc (.cells #[.int .i64 x] 3)):=eR'.aB _;have U:=M.out;obtain⟨A5,c5,w5,I,a,i,_⟩:=gJ (Own.ext F.out C) (iQ O x) (by omega) (by have h':=H.out.b.size;simp;omega);have bP:=ah a;have bD:Hid (Ext J w5):=ah (dZ (H.out.trans' C) i (λk L=>(Own.lt F.out k L).1));clear a i C U;go_wp2_with(at_builtin;refine dI rfl _ _ _ rfl _ _ rfl rfl _ _ I ?_);go_roundg a2;exact⟨k+1,A5,(m+1)+1,c5,pre++s::(tl++[y]),[],some x,by omega,by go_num,rfl,ah (by simpa using bP.out),bD,HF,ah (by intro h;cases h),ah (by have:=M.out;omega),ah (λz f=>by cases f),ah (λz f=>by injection f with f;subst f;exact W.out)⟩;omega
      ·
       have HF:Hid (V=bT T (pre) (some s) ((tl++[y])++[x]) (D.drop (k+1))):=ah (iI.out.trans (nN' L));have W:Hid (aG T x≠0):=ah L;clear L iI;have C:Ext O (O.alloc (.cells #[.int .i64 x] 3)):=eR'.aB _;have U:=M.out;obtain⟨A5,c5,w5,I,a,i,_⟩:=gJ (Own.ext F.out C) (iQ O x) (by omega) (by have h':=H.out.b.size;simp;omega);have bP:=ah a;have bD:Hid (Ext J w5):=ah (dZ (H.out.trans' C) i (λk L=>(Own.lt F.out k L).1));clear a i C U;go_wp2_with(at_builtin;refine dI rfl _ _ _ rfl _ _ rfl rfl _ _ I ?_);go_roundg a2;exact⟨k+1,A5,(m+1)+1,c5,pre,(tl++[y])++[x],some s,by omega,by go_num,rfl,ah (by simpa using bP.out),bD,HF,ah (by intro h;cases h),ah (by have:=M.out;omega),ah (λz f=>by rcases List.mem_append.1 f with f|f;exact a5.out z f;rw[List.mem_singleton]at f;subst f;exact W.out),nY⟩;omega
     ·
      have e2:decide (aG T x<=aG T y)=false:=df' h2;have bj:Hid (pV T (tl++[y]) x=false):=ah (by rw[qE.out,e2]);clear h2;have K:=F;have E:=H;clear F H;have Z:∀q:ak Y,∀k:Nat,q.w.cell? ⟨w.heap.size,k,none⟩=t.v.cells[k]? :=λq=>bn.out _ (E.out.trans' q.h)
      have R:∀q:ak Y,q.w.cell? ⟨g,m,none⟩=some (.int .i64 y):=dA (aK.cell K.out (m) y bh.out);go_wp2_with fail;refine rX' ?_
      repeat(go_big_quiet_step(first|(go_at_call 118;with_reducible exact aS (gB.out y _ (E.out.trans' (ak.h _))))|(go_at_call 118;with_reducible exact aS (gB.out x _ (E.out.trans' (ak.h _))))))
      refine wpQuiet_nil ?_;rintro _⟨G,rfl⟩;clear Z R;obtain⟨O,P⟩:=eX' G.w;have F:Hid (aK O J.heap.size _ _ c2 _):=ah (by rw[P];exact Own.ext K.out G.h);have H:Hid (Ext J O):=ah (by rw[P];exact E.out.trans' G.h);rw[<- P];clear P K E;cases X:pairT T s x with
      |some y2=>
       have HF:Hid (V=bT T pre (some y2) ((tl++[y])) (D.drop (k+1))):=ah (by rw[iK.out,bT,bj.out,nN' (by simp),X]);have HP:Hid (lJ T s x=(y2,true)):=ah (by rw[lJ,X]);have aR:=ah (QM HC.out bc.out X).2.1;clear X iK;have K:=F;have E:=H;clear F H
       have af:Hid (∀(w':World),Ext J w'->cE' 119 #[t.v,.int .i64 s,.int .i64 x] w' (.tuple #[.int .i64 y2,.bool true])):=ah (λw' h=>by
        have h':=GI T HW.out t s x w' (HT.out.aC (aa.out.trans' h));rw[HP.out]at h'
        exact h')
       have Z:∀q:ak O,∀k:Nat,q.w.cell? ⟨w.heap.size,k,none⟩=t.v.cells[k]? :=λq=>bn.out _ (E.out.trans' q.h)
       have R:∀q:ak O,q.w.cell? ⟨g,pre.length,none⟩=some (.int .i64 s):=dA (aK.cell K.out (pre.length) s (by simp));go_wp2_with fail;refine rX' ?_
       repeat(go_big_quiet_step(first|(go_at_call 119;with_reducible exact aS (af.out _ (E.out.trans' (ak.h _))))))
       refine wpQuiet_nil ?_;rintro _⟨G,rfl⟩;clear Z R;obtain⟨S,Q⟩:=eX' G.w;have F:Hid (aK S J.heap.size _ _ c2 _):=ah (by rw[Q];exact Own.ext K.out G.h);have H:Hid (Ext J S):=ah (by rw[Q];exact E.out.trans' G.h);rw[<- Q];clear Q K E;have r0:S.cell? ⟨g,pre.length,none⟩=some (.int .i64 s):=F.out.cell pre.length s (by simp);have f0:S.frozen? ⟨g,pre.length,none⟩=false:=F.out.frozen pre.length;have bP:=ah (F.out.set pre.length y2);have b0:J.heap.size<=g:=(Own.lt F.out g rfl).1;have bD:=ah (H.out.lI (p:=⟨g,pre.length,none⟩) b0 (.int .i64 y2));generalize b1:pre.length=p at*;go_wp2;go_roundg a2;exact⟨k+1,some ⟨g,0,none⟩,m+1,c2,pre,(tl++[y]),some y2,by omega,by go_num,rfl,ah (by have h5:=bP.out;rw[<- b1]at h5 |-;simpa[List.set_append]using h5),bD,HF,ah (by intro h;cases h),ah (by have:=M.out;omega),a5,ah (λz f=>by injection f with f;subst f;exact aR.out)⟩;omega
      |none=>
       have iI:Hid (V=if aG T x=0 then bT T (pre++s::((tl++[y]))) (some x) [] (D.drop (k+1))else bT T pre (some s) ((tl++[y])++[x]) (D.drop (k+1))):=ah (by rw[iK.out,bT,bj.out,nN' (by simp),X]);have HP:Hid (lJ T s x=(0,false)):=ah (by rw[lJ,X]);clear X iK;have K:=F;have E:=H;clear F H
       have af:Hid (∀(w':World),Ext J w'->cE' 119 #[t.v,.int .i64 s,.int .i64 x] w' (.tuple #[.int .i64 0,.bool false])):=ah (λw' h=>by
        have h':=GI T HW.out t s x w' (HT.out.aC (aa.out.trans' h));rw[HP.out]at h'
        exact h')
       have Z:∀q:ak O,∀k:Nat,q.w.cell? ⟨w.heap.size,k,none⟩=t.v.cells[k]? :=λq=>bn.out _ (E.out.trans' q.h)
       have R:∀q:ak O,q.w.cell? ⟨g,pre.length,none⟩=some (.int .i64 s):=dA (aK.cell K.out (pre.length) s (by simp));go_wp2_with fail;refine rX' ?_
       repeat(go_big_quiet_step(first|(go_at_call 119;with_reducible exact aS (af.out _ (E.out.trans' (ak.h _))))))
       refine wpQuiet_nil ?_;rintro _⟨G,rfl⟩;clear Z R;obtain⟨S,Q⟩:=eX' G.w;have F:Hid (aK S J.heap.size _ _ c2 _):=ah (by rw[Q];exact Own.ext K.out G.h);have H:Hid (Ext J S):=ah (by rw[Q];exact E.out.trans' G.h);rw[<- Q];clear Q K E;by_cases L:aG T x=0
       ·
        have HF:Hid (V=bT T (pre++s::(tl++[y])) (some x) ([]) (D.drop (k+1))):=ah (iI.out.trans (pP' L));have W:Hid (aG T x=0):=ah L;clear L iI;have C:Ext S (S.alloc (.cells #[.int .i64 x] 3)):=eR'.aB _;have U:=M.out;obtain⟨A5,c5,w5,I,a,i,_⟩:=gJ (Own.ext F.out C) (iQ S x) (by omega) (by have h':=H.out.b.size;simp;omega);have bP:=ah a;have bD:Hid (Ext J w5):=ah (dZ (H.out.trans' C) i (λk L=>(Own.lt F.out k L).1));clear a i C U;go_wp2_with(at_builtin;refine dI rfl _ _ _ rfl _ _ rfl rfl _ _ I ?_);go_roundg a2;exact⟨k+1,A5,(m+1)+1,c5,pre++s::(tl++[y]),[],some x,by omega,by go_num,rfl,ah (by simpa using bP.out),bD,HF,ah (by intro h;cases h),ah (by have:=M.out;omega),ah (λz f=>by cases f),ah (λz f=>by injection f with f;subst f;exact W.out)⟩;omega
       ·
        have HF:Hid (V=bT T (pre) (some s) ((tl++[y])++[x]) (D.drop (k+1))):=ah (iI.out.trans (nN' L));have W:Hid (aG T x≠0):=ah L;clear L iI;have C:Ext S (S.alloc (.cells #[.int .i64 x] 3)):=eR'.aB _;have U:=M.out;obtain⟨A5,c5,w5,I,a,i,_⟩:=gJ (Own.ext F.out C) (iQ S x) (by omega) (by have h':=H.out.b.size;simp;omega);have bP:=ah a;have bD:Hid (Ext J w5):=ah (dZ (H.out.trans' C) i (λk L=>(Own.lt F.out k L).1));clear a i C U;go_wp2_with(at_builtin;refine dI rfl _ _ _ rfl _ _ rfl rfl _ _ I ?_);go_roundg a2;exact⟨k+1,A5,(m+1)+1,c5,pre,(tl++[y])++[x],some s,by omega,by go_num,rfl,ah (by simpa using bP.out),bD,HF,ah (by intro h;cases h),ah (by have:=M.out;omega),ah (λz f=>by rcases List.mem_append.1 f with f|f;exact a5.out z f;rw[List.mem_singleton]at f;subst f;exact W.out),nY⟩;omega
   ·
    have hr:r<tail.length:=by omega
    have HY:Hid ((pre++s::tail)[j]? =some tail[r]):=ah (by
     have hj:=HJ.out
     rw[show j=pre.length+(r+1)from by omega,List.getElem?_append_right (by omega),Nat.add_sub_cancel_left,List.getElem?_cons_succ,List.getElem?_eq_getElem hr])
    have aE:=ah (a5.out _ (gM' hr));generalize tail[r]=y at*;have aL:=z0' j;have bB:(j:Int)<((m+1:Nat):Int):=(by have:=HJ.out;have:=HN.out;omega);have hd:decide ((0:Int)<=(j:Int))=true:=dt' aL;have e1:(aG T y != 0)=true:=(by rw[bne_iff_ne];exact aE.out);have Z:∀q:ak wr,∀k:Nat,q.w.cell? ⟨w.heap.size,k,none⟩=t.v.cells[k]? :=λq=>bn.out _ (E.out.trans' q.h)
    have R:∀q:ak wr,q.w.cell? ⟨g,j,none⟩=some (.int .i64 y):=dA (aK.cell K.out (j) y HY.out);go_wp2_with fail;refine rX' ?_
    repeat(go_big_quiet_step(first|(go_at_call 118;with_reducible exact aS (gB.out y _ (E.out.trans' (ak.h _))))))
    refine wpQuiet_nil ?_;rintro _⟨G,rfl⟩;clear Z R;obtain⟨Y,N⟩:=eX' G.w;have F:Hid (aK Y J.heap.size _ _ c2 _):=ah (by rw[N];exact Own.ext K.out G.h);have H:Hid (Ext J Y):=ah (by rw[N];exact E.out.trans' G.h);rw[<- N];clear N K E;go_wp2;go_roundg r
    case measure=>omega
    case rel=>
     refine⟨by omega,?_,F,H⟩;rcases Nat.eq_zero_or_pos r with h0|h0
     .exact .inl ⟨h0,by have:=HJ.out;first|(congr 1;omega)|go_num⟩
     .exact .inr ⟨r-1,j-1,by omega,by have:=HJ.out;first|(congr 1;omega)|go_num,ah (by have:=HJ.out;omega)⟩
theorem ZX(t:TV)(l:List Int)(A:Option Addr)(n c:Nat)(w:World)(ht:aW w t T)(r:aF w ⟨A,n,c⟩ l):
 cE' 122 #[t.v,.slice A n c] w (.bool (qw T l)):=by
 have b:=dG w t;have p:=ah (ht.aC b);have i:=ah (r.ext b);clear ht r;cases q:(fC T l==0)
 .have j:Hid (qw T l=false):=ah (by rw[qw,q];rfl);go_enter func122,ntmps122;go_wp2_with fail;refine(Qk T t l A n c _ p.out i.out).mono ?_;rintro e s⟨B,m,d,rfl,a,f⟩;have k:=b.trans' a;clear a f;go_wp2;go_ret;exact⟨aP j.out.symm,k⟩
 .have j:Hid (qw T l=jW (l9 T l) l):=ah (by rw[qw,q];rfl);go_enter func122,ntmps122;go_wp2_with fail;refine(Qk T t l A n c _ p.out i.out).mono ?_;rintro e s⟨B,m,d,rfl,a,f⟩;have g:=ah a;have o:=ah f;clear a f;go_wp2_with fail;refine(ZR (l9 T l) l B m d A n c _ o.out (i.out.ext g.out)).mono ?_;rintro e x⟨rfl,h⟩;have k:=(b.trans' g.out).trans' h;clear h;go_wp2;go_ret;exact⟨aP j.out.symm,k⟩
theorem uJ(ht:aW w t T)(h:aF w ⟨A,n,c⟩ l):
 cE' 96 #[t.v,.slice A n c] w (.int .i64 (aX T l)):=by
 have a:=dG w t;go_enter func96,ntmps96;go_wp2_with fail;refine(Zz t T l A n c _ (ht.aC a) (h.ext a)).mono ?_;rintro e d⟨rfl,b⟩;go_wp2;go_ret;exact⟨rfl,a.trans' b⟩
theorem LX{T:aj}{l:List Int}{i:Int}(h:uI T l i=false):leftV T l i= -1:=by rw[leftV,nN' (by rw[h];simp)]
theorem LC{T:aj}{l:List Int}{i:Int}(h:uI T l i=false):xX T l i= -1:=by rw[xX,nN' (by rw[h];simp)]
theorem GZ{T:aj}{l:List Int}{i:Int}(h:i<0):uI T l i=false:=by rw[uI,jD (p:=0<=i) (by omega)];simp
theorem GY{T:aj}{l:List Int}{i:Int}(h:(l.length:Int)<=i):uI T l i=false:=by rw[uI,jD (p:=i<(l.length:Int)) (by omega)];simp
theorem GL{T:aj}{l:List Int}{i:Int}(h:aX T l≠0):uI T l i=false:=by
 have e:(aX T l==0)=false:=by rw[aO];exact h
 rw[uI,e];rfl
theorem Ep{T:aj}{l:List Int}{i:Nat}(h:aX T l=0)(a:i<l.length):uI T l i=true:=by
 rw[uI,h,iG (p:=(0:Int)<=(i:Int)) (by omega),iG (p:=(i:Int)<(l.length:Int)) (by omega)];rfl
theorem a2B(i:Int)(w:World)(ht:aW w t T)(h:aF w ⟨A,n,c⟩ l):
 cE' 252 #[t.v,.slice A n c,.int .i64 i] w (.int .i64 (leftV T l i)):=by
 obtain⟨O,I,P⟩:=h.len;subst O;have a:=dG w t;have Q:=ah h;have R:=ah ht;by_cases B:i<0
 .have q:Hid (leftV T l i= -1):=ah (LX (GZ B));have S:decide (i<0)=true:=iG B;clear ht h;go_enter func252,ntmps252;go_wp2;go_ret;exact⟨aV q.out.symm,a⟩
 have S:decide (i<0)=false:=jD B;obtain⟨i,rfl⟩:=iN' i;by_cases J:l.length<=i
 .have q:Hid (leftV T l i= -1):=ah (LX (GY (by omega)));have U:decide (l.length<=i)=true:=iG J;have W:decide ((l.length:Int)<=(i:Int))=true:=iG (by omega);clear ht h;go_enter func252,ntmps252;go_wp2;go_ret;exact⟨aV q.out.symm,a⟩
 have U:decide (l.length<=i)=false:=jD J;have W:decide ((l.length:Int)<=(i:Int))=false:=jD (by omega);have y:=ah (uJ t T l A l.length c _ (ht.aC a) (h.ext a));clear ht h;by_cases f:aX T l=0
 case neg=>
  have q:Hid (leftV T l i= -1):=ah (LX (GL f));have e1:(aX T l != 0)=true:=bN' f;generalize aX T l=oe at*;clear f;go_enter func252,ntmps252;go_wp2_with fail;refine(y.out).mono ?_;rintro e K⟨rfl,d⟩;go_wp2;go_ret;exact⟨aV q.out.symm,a.trans' d⟩
 have X:Hid (leftV T l i=sZ T (l.take i).reverse):=ah (by rw[leftV,pP' (Ep f (by omega))];rfl);rw[f]at y;generalize leftV T l i=V at*;clear f;go_enter func252,ntmps252;go_wp2_with fail;refine(y.out).mono ?_;rintro e K⟨rfl,d⟩;have Y:=ah d;have C:=ah (a.trans' d);clear d y;go_wp2;go_loopw[7,8] (λZ D wr=>∃(k:Nat),k<=i/\D=.int .i64 k/\Z=.int .i64 (sZ T (l.take k).reverse)/\Ext K wr) (λ_ D _=>i-(intOf D).toNat);exact⟨0,zl' _,rfl,rfl,eR'⟩;obtain⟨k,hk,rfl,rfl,r⟩:=hrel;have g:=ah r;clear r;by_cases a0:k<i
 .obtain⟨b,o,ha,h0⟩:=(Q.out.ext (C.out.trans' g.out)).at_ (i:=k) (by omega);subst ha;have a3:(k:Int)<(l.length:Int):=by omega
  have a4:=z0' k
  have s:Hid (sZ T (l.take (k+1)).reverse=if kU T (l[k]'(by omega))=5 then sZ T (l.take k).reverse else(k:Int)):=ah (by
   rw[Sl l k (by omega),sZ,List.length_reverse,List.length_take,Nat.min_eq_left (by omega)])
  generalize l[k]=x at*;have E:Hid (∀z:ak wr,cE' 254 #[t.v,.int .i64 x] z.w (.int .i64 (kU T x))):=ah (λz=>Ei t T x z.w (R.out.aC ((C.out.trans' g.out).trans' z.h)));have L:∀z:ak wr,∀p:Nat,z.w.cell? ⟨w.heap.size,p,none⟩=t.v.cells[p]? :=λz=>aQ ((Y.out.trans' g.out).trans' z.h)
  have M:∀z:ak wr,z.w.cell? ⟨b,o+k,none⟩=some (.int .i64 x):=dA h0;generalize sZ T (l.take k).reverse=V0 at*;obtain⟨j,G⟩:=eY' (kU T x);rw[G]at E s;obtain⟨N,rfl⟩:=eX' wr;by_cases m:j=5
  .have e5:(j != 5)=false:=by rw[bne_eq_false_iff_eq];exact m
   have H:Hid (sZ T (l.take (k+1)).reverse=V0):=ah (by rw[s.out,pP' m]);clear s m G;go_wp2_with fail;refine rX' ?_
   repeat(go_big_quiet_step(first|(go_at_call 254;with_reducible exact aS (E.out _))))
   refine wpQuiet_nil ?_;rintro _⟨z,rfl⟩;clear L M;go_wp2;go_roundw;exact⟨k+1,by omega,by go_num,by rw[H.out],g.out.trans' z.h⟩;simp[intOf];omega
  .have e5:(j != 5)=true:=bN' m;have H:Hid (sZ T (l.take (k+1)).reverse=(k:Int)):=ah (by rw[s.out,nN' m]);clear s m G;go_wp2_with fail;refine rX' ?_
   repeat(go_big_quiet_step(first|(go_at_call 254;with_reducible exact aS (E.out _))))
   refine wpQuiet_nil ?_;rintro _⟨z,rfl⟩;clear L M;go_wp2;go_roundw;exact⟨k+1,by omega,by go_num,by rw[H.out],g.out.trans' z.h⟩;simp[intOf];omega
 .obtain rfl:k=i:=by omega
  go_wp2;go_ret;exact⟨aV X.out.symm,C.out.trans' g.out⟩
theorem ZY'(i:Int)(w:World)(ht:aW w t T)(h:aF w ⟨A,n,c⟩ l):
 cE' 253 #[t.v,.slice A n c,.int .i64 i] w (.int .i64 (xX T l i)):=by
 obtain⟨Q,K,R⟩:=h.len;subst Q;have a:=dG w t;have S:=ah h;have U:=ah ht;by_cases D:i<0
 .have r:Hid (xX T l i= -1):=ah (LC (GZ D));have W:decide (i<0)=true:=iG D;clear ht h;go_enter func253,ntmps253;go_wp2;go_ret;exact⟨aV r.out.symm,a⟩
 have W:decide (i<0)=false:=jD D;obtain⟨i,rfl⟩:=iN' i;by_cases L:l.length<=i
 .have r:Hid (xX T l i= -1):=ah (LC (GY (by omega)));have X:decide (l.length<=i)=true:=iG L;have Y:decide ((l.length:Int)<=(i:Int))=true:=iG (by omega);clear ht h;go_enter func253,ntmps253;go_wp2;go_ret;exact⟨aV r.out.symm,a⟩
 have X:decide (l.length<=i)=false:=jD L;have Y:decide ((l.length:Int)<=(i:Int))=false:=jD (by omega);have C:=ah (uJ t T l A l.length c _ (ht.aC a) (h.ext a));clear ht h;by_cases g:aX T l=0
 case neg=>
  have r:Hid (xX T l i= -1):=ah (LC (GL g));have e1:(aX T l != 0)=true:=bN' g;generalize aX T l=oe at*;clear g;go_enter func253,ntmps253;go_wp2_with fail;refine(C.out).mono ?_;rintro e M⟨rfl,d⟩;go_wp2;go_ret;exact⟨aV r.out.symm,a.trans' d⟩
 have Z:Hid (xX T l i=qN T (i+1) (l.drop (i+1))):=ah (by rw[xX,pP' (Ep g (by omega))];rfl);rw[g]at C;generalize xX T l i=V at*;clear g;go_enter func253,ntmps253;go_wp2_with fail;refine(C.out).mono ?_;rintro e M⟨rfl,d⟩;have bn:=ah d;have E:=ah (a.trans' d);clear d C;go_wp2;go_loopw[7,8] (λs7 F wr=>∃(k:Nat),i+1<=k/\k<=l.length/\F=.int .i64 ((k:Int)-1)/\s7=.int .i64 (qN T k (l.drop k))/\Ext M wr) (λ_ F _=>(intOf F).toNat);exact⟨l.length,by omega,lr' _,by go_num,by rw[bV l l.length (lr' _)];rfl,eR'⟩;obtain⟨k,a2,hk,rfl,rfl,s⟩:=hrel;have m:=ah s;clear s;by_cases a3:i+1<k
 .obtain⟨j,rfl⟩:=gS' k;have f:((j+1:Nat):Int)-1=(j:Int):=by omega
  rw[f];obtain⟨b,o,ha,h0⟩:=(S.out.ext (E.out.trans' m.out)).at_ (i:=j) (by omega);subst ha;have a6:(j:Int)<(l.length:Int):=by omega
  have a7:=z0' j;have a8:decide (i<j)=true:=iG (by omega);have a9:decide ((i:Int)<(j:Int))=true:=iG (by omega)
  have B:Hid (qN T j (l.drop j)=if kU T (l[j]'(by omega))=5 then qN T (j+1) (l.drop (j+1))else(j:Int)):=ah (by
   rw[drop_at l j (by omega),qN])
  generalize l[j]=x at*;have G:Hid (∀z:ak wr,cE' 254 #[t.v,.int .i64 x] z.w (.int .i64 (kU T x))):=ah (λz=>Ei t T x z.w (U.out.aC ((E.out.trans' m.out).trans' z.h)));have N:∀z:ak wr,∀p:Nat,z.w.cell? ⟨w.heap.size,p,none⟩=t.v.cells[p]? :=λz=>aQ ((bn.out.trans' m.out).trans' z.h)
  have O:∀z:ak wr,z.w.cell? ⟨b,o+j,none⟩=some (.int .i64 x):=dA h0;generalize qN T (j+1) (l.drop (j+1))=V0 at*;obtain⟨y,I⟩:=eY' (kU T x);rw[I]at G B;obtain⟨P,rfl⟩:=eX' wr;by_cases q:y=5
  .have e5:(y != 5)=false:=by rw[bne_eq_false_iff_eq];exact q
   have J:Hid (qN T j (l.drop j)=V0):=ah (by rw[B.out,pP' q]);clear B q I;go_wp2_with fail;refine rX' ?_
   repeat(go_big_quiet_step(first|(go_at_call 254;with_reducible exact aS (G.out _))))
   refine wpQuiet_nil ?_;rintro _⟨z,rfl⟩;clear N O;go_wp2;go_roundw;exact⟨j,by omega,by omega,by go_num,by rw[J.out],m.out.trans' z.h⟩;simp[intOf];omega
  .have e5:(y != 5)=true:=bN' q;have J:Hid (qN T j (l.drop j)=(j:Int)):=ah (by rw[B.out,nN' q]);clear B q I;go_wp2_with fail;refine rX' ?_
   repeat(go_big_quiet_step(first|(go_at_call 254;with_reducible exact aS (G.out _))))
   refine wpQuiet_nil ?_;rintro _⟨z,rfl⟩;clear N O;go_wp2;go_roundw;exact⟨j,by omega,by omega,by go_num,by rw[J.out],m.out.trans' z.h⟩;simp[intOf];omega
 .obtain rfl:k=i+1:=by omega
  have f:((i+1:Nat):Int)-1=(i:Int):=by omega
  rw[f];go_wp2;go_ret;exact⟨aV Z.out.symm,E.out.trans' m.out⟩
theorem a19(a b c d:Int)(w:World):cE' 277 #[.agg #[.int .i64 a,.int .i64 b,.int .i64 c,.int .i64 d]] w (.int .i64 a):=by
 go_enter func277,ntmps277;go_wp2;go_ret;exact⟨rfl,(Ext.refl w).aB _⟩
theorem a2u(c:Int)(w:World)(ht:aW w t T)(a:gU T):
 cE' 232 #[t.v,.int .i64 c] w (.int .i64 (jy T c)):=by
 have b:=ht.cat.ext ((Ext.refl w).aB (.cells t.v.cells 26));go_enter func232,ntmps232;go_wp2_with(go_at_call 221;refine(Ib 277 sV T.cat _ _ _ _ _ b a.cat.1 a.cat.2 Tryz.call277 (λ_=>a19 _ _ _ _ _)).mono ?_;rintro e f⟨rfl,d⟩);go_ret;exact⟨rfl,((Ext.refl w).aB _).trans' d⟩
theorem a8y{T:aj}(h:dU T=true):oZ T.cat:=by
 simp only[dU,cols,qL,aT]at h;exact⟨h.1.1.1.1,h.1.1.1.2⟩
theorem xq{T:aj}{c:Int}(d:0<=c)(f:c<=127):jy T c=sV c:=by
 have a:aY c=true:=by simp only[aY,aT,oT',au];omega
 have b:fF c=true:=by simp only[fF,oT',aT,au];exact .inl (.inl (.inl ⟨d,f⟩))
 rw[jy,nU,nN' (by rw[a];simp),pP' b]
theorem aEh{T:aj}{c:Int}(h:aZ c=true):jy T c=1:=by
 have a:=h;simp only[aZ,aT,au]at a;have b:aY c=true:=by simp only[aY,aT,oT',au];omega
 have d:fF c=true:=by rw[fF,h];simp
 rw[jy,nU,nN' (by rw[b];simp),pP' d,sV,nN' (by omega),nN' (by omega),nN' (by omega),nN' (by omega),nN' (by omega),nN' (by omega),nN' (by omega),nN' (by omega),pP' h]
theorem aEg{T:aj}{c:Int}(f:aZ c=false)(h:dP c=true):jy T c=1:=by
 have a:=h;simp only[dP,oT',aT,au]at a;have b:aY c=true:=by simp only[aY,aT,oT',au];omega
 have d:fF c=true:=by rw[fF,h];simp
 rw[jy,nU,nN' (by rw[b];simp),pP' d,sV,nN' (by omega),nN' (by omega),nN' (by omega),nN' (by omega),nN' (by omega),nN' (by omega),nN' (by omega),nN' (by omega),nN' (by rw[f];simp),pP' h]
theorem aEf{T:aj}(b:oZ T.cat){c:Int}(i:c<0\/127<c)(g:aZ c=false)(h:dP c=false):jy T c=dV T.cat c:=by
 rw[jy,nU];by_cases d:aY c=false
 .rw[pP' d,b.zero (.inr d)]
 .rw[nN' d];by_cases a:fF c=true
  .rw[pP' a,b.zero (.inl a)];exfalso;have f:rZ c=true:=by
    rw[fF,g,h]at a;simp only[Bool.or_false,oT',aT,au]at a;rcases a with a|a
    .omega
    .exact a
   simp only[rZ,aT,au]at f;simp only[aY,aF',oF',aA]at d;omega
  .rw[nN' a]
theorem ZW(c:Int)(w:World)(ht:aW w t T)(F:oZ T.cat):
 cE' 124 #[t.v,.int .i64 c] w (.int .i64 (jy T c)):=by
 have H:=ht.cat.ext ((Ext.refl w).aB (.cells t.v.cells 26));have i:=ah H;have G:=ah F;have d:=dG w t;clear ht H F;by_cases r:0<=c/\c<=31
 ·
  obtain⟨A,B⟩:=r;have j:decide (97<=c)=false:=dF';have k:decide (c<=122)=true:=dT';have l:decide (65<=c)=false:=dF';have m:decide (c<=90)=true:=dT';have n:decide (48<=c)=false:=dF';have o:decide (c<=57)=true:=dT';have p:decide (0<=c)=true:=dT';have q:decide (c<32)=true:=dT';have s:decide (32<c)=false:=dF';have x:decide (c<127)=true:=dT';have y:(c==127)=false:=bF';have z:(c==32)=false:=bF'
  have f:Hid (jy T c=8):=ah (by
   rw[xq (by omega) (by omega),sV]
   repeat' split
   all_goals first|rfl|(exfalso;omega))
  have g:Hid (aZ c=false):=ah (by simp only[aZ,aF',aA];omega);have h:Hid (dP c=false):=ah (by simp only[dP,oF',aF',aA];omega);go_enter func124,ntmps124
  go_wp2_with(first
   |(go_at_call 113;refine(lH c _).mono ?_;rintro e a⟨rfl,rfl⟩;rw[g.out])
   |(go_at_call 183;refine(rH c _).mono ?_;rintro e a⟨rfl,rfl⟩;rw[h.out])
   |(go_at_call 136;refine(jK _ _ _ T.cat _ _ i.out).mono ?_;rintro e a⟨rfl,b⟩))
  go_ret;exact⟨aV f.out.symm,d⟩
 by_cases r:32<=c/\c<=32
 ·
  obtain⟨A,B⟩:=r;have j:decide (97<=c)=false:=dF';have k:decide (c<=122)=true:=dT';have l:decide (65<=c)=false:=dF';have m:decide (c<=90)=true:=dT';have n:decide (48<=c)=false:=dF';have o:decide (c<=57)=true:=dT';have p:decide (0<=c)=true:=dT';have q:decide (c<32)=false:=dF';have s:decide (32<c)=false:=dF';have x:decide (c<127)=true:=dT';have y:(c==127)=false:=bF';have z:(c==32)=true:=by rw[bq'];omega
  have f:Hid (jy T c=7):=ah (by
   rw[xq (by omega) (by omega),sV]
   repeat' split
   all_goals first|rfl|(exfalso;omega))
  have g:Hid (aZ c=false):=ah (by simp only[aZ,aF',aA];omega);have h:Hid (dP c=false):=ah (by simp only[dP,oF',aF',aA];omega);go_enter func124,ntmps124
  go_wp2_with(first
   |(go_at_call 113;refine(lH c _).mono ?_;rintro e a⟨rfl,rfl⟩;rw[g.out])
   |(go_at_call 183;refine(rH c _).mono ?_;rintro e a⟨rfl,rfl⟩;rw[h.out])
   |(go_at_call 136;refine(jK _ _ _ T.cat _ _ i.out).mono ?_;rintro e a⟨rfl,b⟩))
  go_ret;exact⟨aV f.out.symm,d⟩
 by_cases r:33<=c/\c<=47
 ·
  obtain⟨A,B⟩:=r;have j:decide (97<=c)=false:=dF';have k:decide (c<=122)=true:=dT';have l:decide (65<=c)=false:=dF';have m:decide (c<=90)=true:=dT';have n:decide (48<=c)=false:=dF';have o:decide (c<=57)=true:=dT';have p:decide (0<=c)=true:=dT';have q:decide (c<32)=false:=dF';have s:decide (32<c)=true:=dT';have x:decide (c<127)=true:=dT';have y:(c==127)=false:=bF';have z:(c==32)=false:=bF'
  have f:Hid (jy T c=5):=ah (by
   rw[xq (by omega) (by omega),sV]
   repeat' split
   all_goals first|rfl|(exfalso;omega))
  have g:Hid (aZ c=false):=ah (by simp only[aZ,aF',aA];omega);have h:Hid (dP c=false):=ah (by simp only[dP,oF',aF',aA];omega);go_enter func124,ntmps124
  go_wp2_with(first
   |(go_at_call 113;refine(lH c _).mono ?_;rintro e a⟨rfl,rfl⟩;rw[g.out])
   |(go_at_call 183;refine(rH c _).mono ?_;rintro e a⟨rfl,rfl⟩;rw[h.out])
   |(go_at_call 136;refine(jK _ _ _ T.cat _ _ i.out).mono ?_;rintro e a⟨rfl,b⟩))
  go_ret;exact⟨aV f.out.symm,d⟩
 by_cases r:48<=c/\c<=57
 ·
  obtain⟨A,B⟩:=r;have j:decide (97<=c)=false:=dF';have k:decide (c<=122)=true:=dT';have l:decide (65<=c)=false:=dF';have m:decide (c<=90)=true:=dT';have n:decide (48<=c)=true:=dT';have o:decide (c<=57)=true:=dT';have p:decide (0<=c)=true:=dT';have q:decide (c<32)=false:=dF';have s:decide (32<c)=true:=dT';have x:decide (c<127)=true:=dT';have y:(c==127)=false:=bF';have z:(c==32)=false:=bF'
  have f:Hid (jy T c=3):=ah (by
   rw[xq (by omega) (by omega),sV]
   repeat' split
   all_goals first|rfl|(exfalso;omega))
  have g:Hid (aZ c=false):=ah (by simp only[aZ,aF',aA];omega);have h:Hid (dP c=false):=ah (by simp only[dP,oF',aF',aA];omega);go_enter func124,ntmps124
  go_wp2_with(first
   |(go_at_call 113;refine(lH c _).mono ?_;rintro e a⟨rfl,rfl⟩;rw[g.out])
   |(go_at_call 183;refine(rH c _).mono ?_;rintro e a⟨rfl,rfl⟩;rw[h.out])
   |(go_at_call 136;refine(jK _ _ _ T.cat _ _ i.out).mono ?_;rintro e a⟨rfl,b⟩))
  go_ret;exact⟨aV f.out.symm,d⟩
 by_cases r:58<=c/\c<=64
 ·
  obtain⟨A,B⟩:=r;have j:decide (97<=c)=false:=dF';have k:decide (c<=122)=true:=dT';have l:decide (65<=c)=false:=dF';have m:decide (c<=90)=true:=dT';have n:decide (48<=c)=true:=dT';have o:decide (c<=57)=false:=dF';have p:decide (0<=c)=true:=dT';have q:decide (c<32)=false:=dF';have s:decide (32<c)=true:=dT';have x:decide (c<127)=true:=dT';have y:(c==127)=false:=bF';have z:(c==32)=false:=bF'
  have f:Hid (jy T c=5):=ah (by
   rw[xq (by omega) (by omega),sV]
   repeat' split
   all_goals first|rfl|(exfalso;omega))
  have g:Hid (aZ c=false):=ah (by simp only[aZ,aF',aA];omega);have h:Hid (dP c=false):=ah (by simp only[dP,oF',aF',aA];omega);go_enter func124,ntmps124
  go_wp2_with(first
   |(go_at_call 113;refine(lH c _).mono ?_;rintro e a⟨rfl,rfl⟩;rw[g.out])
   |(go_at_call 183;refine(rH c _).mono ?_;rintro e a⟨rfl,rfl⟩;rw[h.out])
   |(go_at_call 136;refine(jK _ _ _ T.cat _ _ i.out).mono ?_;rintro e a⟨rfl,b⟩))
  go_ret;exact⟨aV f.out.symm,d⟩
 by_cases r:65<=c/\c<=90
 ·
  obtain⟨A,B⟩:=r;have j:decide (97<=c)=false:=dF';have k:decide (c<=122)=true:=dT';have l:decide (65<=c)=true:=dT';have m:decide (c<=90)=true:=dT';have n:decide (48<=c)=true:=dT';have o:decide (c<=57)=false:=dF';have p:decide (0<=c)=true:=dT';have q:decide (c<32)=false:=dF';have s:decide (32<c)=true:=dT';have x:decide (c<127)=true:=dT';have y:(c==127)=false:=bF';have z:(c==32)=false:=bF'
  have f:Hid (jy T c=1):=ah (by
   rw[xq (by omega) (by omega),sV]
   repeat' split
   all_goals first|rfl|(exfalso;omega))
  have g:Hid (aZ c=false):=ah (by simp only[aZ,aF',aA];omega);have h:Hid (dP c=false):=ah (by simp only[dP,oF',aF',aA];omega);go_enter func124,ntmps124
  go_wp2_with(first
   |(go_at_call 113;refine(lH c _).mono ?_;rintro e a⟨rfl,rfl⟩;rw[g.out])
   |(go_at_call 183;refine(rH c _).mono ?_;rintro e a⟨rfl,rfl⟩;rw[h.out])
   |(go_at_call 136;refine(jK _ _ _ T.cat _ _ i.out).mono ?_;rintro e a⟨rfl,b⟩))
  go_ret;exact⟨aV f.out.symm,d⟩
 by_cases r:91<=c/\c<=96
 ·
  obtain⟨A,B⟩:=r;have j:decide (97<=c)=false:=dF';have k:decide (c<=122)=true:=dT';have l:decide (65<=c)=true:=dT';have m:decide (c<=90)=false:=dF';have n:decide (48<=c)=true:=dT';have o:decide (c<=57)=false:=dF';have p:decide (0<=c)=true:=dT';have q:decide (c<32)=false:=dF';have s:decide (32<c)=true:=dT';have x:decide (c<127)=true:=dT';have y:(c==127)=false:=bF';have z:(c==32)=false:=bF'
  have f:Hid (jy T c=5):=ah (by
   rw[xq (by omega) (by omega),sV]
   repeat' split
   all_goals first|rfl|(exfalso;omega))
  have g:Hid (aZ c=false):=ah (by simp only[aZ,aF',aA];omega);have h:Hid (dP c=false):=ah (by simp only[dP,oF',aF',aA];omega);go_enter func124,ntmps124
  go_wp2_with(first
   |(go_at_call 113;refine(lH c _).mono ?_;rintro e a⟨rfl,rfl⟩;rw[g.out])
   |(go_at_call 183;refine(rH c _).mono ?_;rintro e a⟨rfl,rfl⟩;rw[h.out])
   |(go_at_call 136;refine(jK _ _ _ T.cat _ _ i.out).mono ?_;rintro e a⟨rfl,b⟩))
  go_ret;exact⟨aV f.out.symm,d⟩
 by_cases r:97<=c/\c<=122
 ·
  obtain⟨A,B⟩:=r;have j:decide (97<=c)=true:=dT';have k:decide (c<=122)=true:=dT';have l:decide (65<=c)=true:=dT';have m:decide (c<=90)=false:=dF';have n:decide (48<=c)=true:=dT';have o:decide (c<=57)=false:=dF';have p:decide (0<=c)=true:=dT';have q:decide (c<32)=false:=dF';have s:decide (32<c)=true:=dT';have x:decide (c<127)=true:=dT';have y:(c==127)=false:=bF';have z:(c==32)=false:=bF'
  have f:Hid (jy T c=1):=ah (by
   rw[xq (by omega) (by omega),sV]
   repeat' split
   all_goals first|rfl|(exfalso;omega))
  have g:Hid (aZ c=false):=ah (by simp only[aZ,aF',aA];omega);have h:Hid (dP c=false):=ah (by simp only[dP,oF',aF',aA];omega);go_enter func124,ntmps124
  go_wp2_with(first
   |(go_at_call 113;refine(lH c _).mono ?_;rintro e a⟨rfl,rfl⟩;rw[g.out])
   |(go_at_call 183;refine(rH c _).mono ?_;rintro e a⟨rfl,rfl⟩;rw[h.out])
   |(go_at_call 136;refine(jK _ _ _ T.cat _ _ i.out).mono ?_;rintro e a⟨rfl,b⟩))
  go_ret;exact⟨aV f.out.symm,d⟩
 by_cases r:123<=c/\c<=126
 ·
  obtain⟨A,B⟩:=r;have j:decide (97<=c)=true:=dT';have k:decide (c<=122)=false:=dF';have l:decide (65<=c)=true:=dT';have m:decide (c<=90)=false:=dF';have n:decide (48<=c)=true:=dT';have o:decide (c<=57)=false:=dF';have p:decide (0<=c)=true:=dT';have q:decide (c<32)=false:=dF';have s:decide (32<c)=true:=dT';have x:decide (c<127)=true:=dT';have y:(c==127)=false:=bF';have z:(c==32)=false:=bF'
  have f:Hid (jy T c=5):=ah (by
   rw[xq (by omega) (by omega),sV]
   repeat' split
   all_goals first|rfl|(exfalso;omega))
  have g:Hid (aZ c=false):=ah (by simp only[aZ,aF',aA];omega);have h:Hid (dP c=false):=ah (by simp only[dP,oF',aF',aA];omega);go_enter func124,ntmps124
  go_wp2_with(first
   |(go_at_call 113;refine(lH c _).mono ?_;rintro e a⟨rfl,rfl⟩;rw[g.out])
   |(go_at_call 183;refine(rH c _).mono ?_;rintro e a⟨rfl,rfl⟩;rw[h.out])
   |(go_at_call 136;refine(jK _ _ _ T.cat _ _ i.out).mono ?_;rintro e a⟨rfl,b⟩))
  go_ret;exact⟨aV f.out.symm,d⟩
 by_cases r:127<=c/\c<=127
 ·
  obtain⟨A,B⟩:=r;have j:decide (97<=c)=true:=dT';have k:decide (c<=122)=false:=dF';have l:decide (65<=c)=true:=dT';have m:decide (c<=90)=false:=dF';have n:decide (48<=c)=true:=dT';have o:decide (c<=57)=false:=dF';have p:decide (0<=c)=true:=dT';have q:decide (c<32)=false:=dF';have s:decide (32<c)=true:=dT';have x:decide (c<127)=false:=dF';have y:(c==127)=true:=by rw[bq'];omega
  have z:(c==32)=false:=bF'
  have f:Hid (jy T c=8):=ah (by
   rw[xq (by omega) (by omega),sV]
   repeat' split
   all_goals first|rfl|(exfalso;omega))
  have g:Hid (aZ c=false):=ah (by simp only[aZ,aF',aA];omega);have h:Hid (dP c=false):=ah (by simp only[dP,oF',aF',aA];omega);go_enter func124,ntmps124
  go_wp2_with(first
   |(go_at_call 113;refine(lH c _).mono ?_;rintro e a⟨rfl,rfl⟩;rw[g.out])
   |(go_at_call 183;refine(rH c _).mono ?_;rintro e a⟨rfl,rfl⟩;rw[h.out])
   |(go_at_call 136;refine(jK _ _ _ T.cat _ _ i.out).mono ?_;rintro e a⟨rfl,b⟩))
  go_ret;exact⟨aV f.out.symm,d⟩
 have D:c<0\/127<c:=by omega
 cases C:aZ c
 case true=>
  have f:Hid (jy T c=1):=ah (aEh C);have g:=ah C;have h:Hid (dP c=dP c):=rfl;simp only[aZ,aT,au]at C;clear D;have j:decide (97<=c)=true:=dT';have k:decide (c<=122)=false:=dF';have l:decide (65<=c)=true:=dT';have m:decide (c<=90)=false:=dF';have n:decide (48<=c)=true:=dT';have o:decide (c<=57)=false:=dF';have p:decide (0<=c)=true:=dT';have q:decide (c<32)=false:=dF';have s:decide (32<c)=true:=dT';have x:decide (c<127)=false:=dF';have y:(c==127)=false:=bF';have z:(c==32)=false:=bF';go_enter func124,ntmps124
  go_wp2_with(first
   |(go_at_call 113;refine(lH c _).mono ?_;rintro e a⟨rfl,rfl⟩;rw[g.out])
   |(go_at_call 183;refine(rH c _).mono ?_;rintro e a⟨rfl,rfl⟩;rw[h.out])
   |(go_at_call 136;refine(jK _ _ _ T.cat _ _ i.out).mono ?_;rintro e a⟨rfl,b⟩))
  go_ret;exact⟨aV f.out.symm,d⟩
 cases E:dP c
 case true=>
  have f:Hid (jy T c=1):=ah (aEg C E);have g:=ah C;have h:=ah E;simp only[dP,oT',aT,au]at E;clear D C;have j:decide (97<=c)=true:=dT';have k:decide (c<=122)=false:=dF';have l:decide (65<=c)=true:=dT';have m:decide (c<=90)=false:=dF';have n:decide (48<=c)=true:=dT';have o:decide (c<=57)=false:=dF';have p:decide (0<=c)=true:=dT';have q:decide (c<32)=false:=dF';have s:decide (32<c)=true:=dT';have x:decide (c<127)=false:=dF';have y:(c==127)=false:=bF';have z:(c==32)=false:=bF';clear E;go_enter func124,ntmps124
  go_wp2_with(first
   |(go_at_call 113;refine(lH c _).mono ?_;rintro e a⟨rfl,rfl⟩;rw[g.out])
   |(go_at_call 183;refine(rH c _).mono ?_;rintro e a⟨rfl,rfl⟩;rw[h.out])
   |(go_at_call 136;refine(jK _ _ _ T.cat _ _ i.out).mono ?_;rintro e a⟨rfl,b⟩))
  go_ret;exact⟨aV f.out.symm,d⟩
 have f:Hid (jy T c=dV T.cat c):=ah (aEf G.out D C E);have g:=ah C;have h:=ah E;clear C E;rcases D with D|D
 ·
  have j:decide (97<=c)=false:=dF';have k:decide (c<=122)=true:=dT';have l:decide (65<=c)=false:=dF';have m:decide (c<=90)=true:=dT';have n:decide (48<=c)=false:=dF';have o:decide (c<=57)=true:=dT';have p:decide (0<=c)=false:=dF';have q:decide (c<32)=true:=dT';have s:decide (32<c)=false:=dF';have x:decide (c<127)=true:=dT';have y:(c==127)=false:=bF';have z:(c==32)=false:=bF';clear D;go_enter func124,ntmps124
  go_wp2_with(first
   |(go_at_call 113;refine(lH c _).mono ?_;rintro e a⟨rfl,rfl⟩;rw[g.out])
   |(go_at_call 183;refine(rH c _).mono ?_;rintro e a⟨rfl,rfl⟩;rw[h.out])
   |(go_at_call 136;refine(jK _ _ _ T.cat _ _ i.out).mono ?_;rintro e a⟨rfl,b⟩))
  go_ret;exact⟨aV f.out.symm,d.trans' b⟩
 ·
  have j:decide (97<=c)=true:=dT';have k:decide (c<=122)=false:=dF';have l:decide (65<=c)=true:=dT';have m:decide (c<=90)=false:=dF';have n:decide (48<=c)=true:=dT';have o:decide (c<=57)=false:=dF';have p:decide (0<=c)=true:=dT';have q:decide (c<32)=false:=dF';have s:decide (32<c)=true:=dT';have x:decide (c<127)=false:=dF';have y:(c==127)=false:=bF';have z:(c==32)=false:=bF';clear D;go_enter func124,ntmps124
  go_wp2_with(first
   |(go_at_call 113;refine(lH c _).mono ?_;rintro e a⟨rfl,rfl⟩;rw[g.out])
   |(go_at_call 183;refine(rH c _).mono ?_;rintro e a⟨rfl,rfl⟩;rw[h.out])
   |(go_at_call 136;refine(jK _ _ _ T.cat _ _ i.out).mono ?_;rintro e a⟨rfl,b⟩))
  go_ret;exact⟨aV f.out.symm,d.trans' b⟩
open Go.ChangeShapes Go.WideShapes Go.ChangeAt Go.RowKit Go.Deep
theorem own:ownKnob prog.godebug=none:=by kernel_rfl
theorem Uu:prog.globalNamed "namedesk/table.blocks" =some 0:=by kernel_rfl
theorem a7f:(prog.globals[0]?).map (·.type)=some 23:=by kernel_rfl
theorem Kq:prog.cellsOf 70=3:=by kernel_rfl
theorem Gw:prog.cellsOf 3=1:=by kernel_rfl
theorem Tn{H:Type}{enc:TypeId×Value->H}{w:World}{j:Nat}{a:Nat->Bool}{k:Bool}{n:Nat}{B:List Value}{x y z:Int}{V:List MemPlace}
 (h:DataW.trod enc prog w j a k n 70 B=some (.agg [.lit (.int .i64 x),.lit (.int .i64 y),.lit (.int .i64 z)],V)):B=[.int .i64 x,.int .i64 y,.int .i64 z]:=by
 obtain⟨b,l,c,d,g,m⟩:∃b,prog.underlying 70=some (.struct b)/\b[0]?.map (λf=>(f.type,f.offset))=some (3,0)/\b[1]?.map (λf=>(f.type,f.offset))=some (3,1)/\b[2]?.map (λf=>(f.type,f.offset))=some (3,2)/\b.size=3:=⟨_,underlying70,rfl,rfl,rfl,rfl⟩;obtain⟨E,W,_,C,D,i,o⟩:=DataW.trod_struct l h;rw[Kq]at D;rw[m]at i;obtain⟨p,F,c⟩:=Option.map_eq_some_iff.1 c;obtain⟨q,G,d⟩:=Option.map_eq_some_iff.1 d;obtain⟨r,I,g⟩:=Option.map_eq_some_iff.1 g;obtain⟨J,K⟩:=Prod.mk.inj c;obtain⟨L,M⟩:=Prod.mk.inj d;obtain⟨N,O⟩:=Prod.mk.inj g
 match B,D with
 |[c0,c1,c2],_=>
  have s:=o 0 p F;have t:=o 1 q G;have A:=o 2 r I;rw[J,K,Gw]at s;rw[L,M,Gw]at t;rw[N,O,Gw]at A;simp only[List.drop_zero,List.drop_succ_cons,List.take_succ_cons,List.take_zero]at s t A
  match E,i with
  |[y0,y1,y2],_=>
   obtain⟨X,P,p,_⟩:=DataW.trod_int (x:=y0) underlying3 s;obtain⟨Y,Q,q,_⟩:=DataW.trod_int (x:=y1) underlying3 t;obtain⟨Z,R,r,_⟩:=DataW.trod_int (x:=y2) underlying3 A;subst p q r;simp only[List.map_cons,List.map_nil,Prod.mk.injEq,DataW.agg.injEq,List.cons.injEq,DataW.lit.injEq,Lit.int.injEq,true_and,and_true]at C;obtain⟨⟨S,T,U⟩,_⟩:=C;subst S T U;injection P with c;injection Q with d;injection R with g;rw[c,d,g]
theorem Zp{W:World}(h:laidMet prog [("namedesk/table.blocks",Rows.laid_namedesk_table_blocks)] W):Glob W:=by
 obtain⟨ps,⟨g',t',O,P,p,q,E,F,r,U,_,_⟩,_⟩:=h;obtain rfl:=Option.some.inj (Uu.symm.trans E);obtain rfl:=Option.some.inj (a7f.symm.trans F);have d:=World.var?_cell Uu r 0;rcases open_slice underlying23 U with⟨s,g⟩|⟨a,len,j,m,n,D,Pl,s,hb,V,X,G,g,Q⟩
 .injection g with g _;cases g
 .injection g with g _;unfold Rows.laid_namedesk_table_blocks at g;injection g with t Y;have w:len=6:=by have:=congrArg List.length t;simpa using this.symm
  subst w;have Z:6<=m:=by rw[G];split<;>omega
  have R:∀i x,xk[i]? =some x->D i=.agg [.lit (.int .i64 x.lo),.lit (.int .i64 x.hi),.lit (.int .i64 x.val)]:=by
   intro i x c;have:=congrArg (λl=>l[i]?) t
   match i,c with
   |0,c|1,c|2,c|3,c|4,c|5,c=>simp[xk]at c;subst c;simpa[List.range,List.range.loop]using this.symm
   |i+6,c=>simp[xk]at c
  have H:O[0]? =some (.slice (some a) 6 j):=by
   have:O.toList[0]? =some (.slice (some a) 6 j):=by rw[s];rfl
   simpa using this
  rw[H]at d;refine⟨some a,6,j,d,⟨rfl,V,X⟩,λi x c=>?_⟩;have vK:i<6:=(List.getElem?_eq_some_iff.1 c).1;obtain⟨a0,y,z⟩:=Q i (by omega);rw[R i x c]at z;have A:=Tn z;rw[Kq]at y;obtain⟨_,_,f⟩:=World.cells?_some y;rw[A]at f;have I:=f 0 (by omega);have J:=f 1 (by omega);have K:=f 2 (by omega);simp only[List.getElem?_cons_zero,List.getElem?_cons_succ]at I J K;obtain⟨b,o,S⟩:=a;have L:S=none:=by
   obtain⟨c3,T,B⟩:=Q 0 (by omega);rw[R 0 ⟨0,127,0⟩ rfl]at B;have M:=Tn B;rw[Kq]at T;obtain⟨_,_,N⟩:=World.cells?_some T;have C:=N 0 (by omega);rw[M]at C;simp only[Nat.zero_mul,Addr.add,if_true,List.getElem?_cons_zero]at C;unfold World.cell? at C;cases S with
   |none=>rfl
   |some k=>exfalso;split at C<;>simp at C
  subst L;simp only[Addr.add_mid,Nat.add_zero]at I J K;exact⟨b,o,rfl,I,J,K⟩
theorem JL{H:Type}{enc:TypeId×Value->H}{W:World}{q:Nat}{m:Nat->Bool}{s:Bool}{v:Value}{d:DataW H}{p:List MemPlace}{r:Reach}
 (M:Value.okWide prog W r q 22 v) (h:DataW.Trod enc prog W 0 m s 22 v d p):∃A n c l,v=.slice A n c/\aF W ⟨A,n,c⟩ l:=by
 obtain⟨N,len,D,rfl⟩:=okWide_slice underlying22 M;obtain⟨w,E⟩:=h;rcases open_ints underlying22 underlying3 Gw E with⟨f,F⟩|⟨a,y,z,B,f,_,O,G,I,F,g,J⟩
 .simp[Value.cells]at f;obtain⟨rfl,rfl,rfl⟩:=f;exact⟨none,0,0,[],rfl,aF.nil_ _⟩
 .simp[Value.cells]at f;obtain⟨rfl,rfl,rfl⟩:=f;have K:len<=B.length:=by rw[I];split<;>omega
  refine⟨_,_,_,B.take len,rfl,⟨by simp;omega,by simp;omega,G⟩,λi x j=>?_⟩;have L:i<len:=by have:=(List.getElem?_eq_some_iff.1 j).1;simp at this;omega
  have C:=g i (by omega);obtain⟨b,t,o⟩:=a;have k:o=none:=by simpa[Addr.add]using World.cell?_spot (g 0 (by omega))
  subst k;refine⟨b,t,rfl,?_⟩;rw[Addr.add_mid]at C;rw[C];rw[List.getElem?_take_of_lt L]at j;simp[List.getD,j]
section
variable {H:Type}{enc:TypeId × Value→H}
theorem RD{W g:World}(i:laidOutB prog=true)(j:Ext W g):∀{ts:List TypeId}{vs:List Value}{ds:List (DataW H)}{ps:List MemPlace},(∀t∈ts,prog.readableRec t=true/\t<prog.types.size)->
 DataW.TrodAll enc prog W 0 (λ_=>true) true ts vs ds ps->(∀x∈ps,x.block<W.heap.size)->∀sp:Nat->Bool,(∀x∈ps,sp x.block=true)->DataW.TrodAll enc prog g 0 sp true ts vs ds ps
 |[],[],[],_,_,h,_,_,_=>h
 |t::ts,v::vs,d::ds,ps,hT,⟨p,q,h1,h2,e⟩,hlt,sp,hs=>
  ⟨p,q,WideElems.Trod_stays i (hT t (by simp)).1 (hT t (by simp)).2 h1 (λx a=>j.b.same (hlt x (by rw[e];exact List.mem_append_left _ a))) (λx a=>hs x (by rw[e];exact List.mem_append_left _ a)),
   RD i j (λk f=>hT k (by simp[f])) h2 (λx c=>hlt x (by rw[e];exact List.mem_append_right _ c)) sp (λx c=>hs x (by rw[e];exact List.mem_append_right _ c)),e⟩
theorem law_post{f:Func}{s:ChangeSpec}{apart d m:Bool}{W o:World}{args:Array Value}{k:List (DataW H)}{a:List MemPlace}
 (g:s.vars=[]) (Q:laidOutB prog=true) (R:∀t∈f.params.toList,prog.readableRec t=true/\t<prog.types.size) (D:DataW.Whole enc prog f.params.toList s.vars apart W args.toList k [] a)
 (G:Ext W o) (I:f.resultTypes= #[4]) (n:s.fn H (k++[])= {results:=[.lit (.bool true)],args:=k,vars:=[]}):
 s.post enc prog f apart true d m W args (.bool true) o:=by
 have E:Below W.heap.size W o:=G;have l:∀p∈a,p.block<W.heap.size:=λp h=>D.lt p h
 have r:=D;rw[g]at r;obtain⟨p,q,J,K,L,M,N⟩:=r;obtain⟨_,O⟩:=trodVars_none K;have A:a=p:=by rw[L,O,List.append_nil]
 have j:∀(b:Nat)(i:Nat->Bool)(F:Bool),DataW.TrodAll enc prog o b i F f.resultTypes.toList ((Value.bool true).resultList f.resultTypes.size) (s.fn H (k++[])).results []:=by
  intro b i F;rw[I,n];exact trodAll_cons_mk (shut_bool underlying4 _) trodAll_mk0
 have c:∀i:Nat->Bool,(∀p∈a,i p.block=true)->DataW.TrodAll enc prog o 0 i true f.params.toList args.toList (s.fn H (k++[])).args a:=by
  intro i B;rw[n];have C:DataW.TrodAll enc prog W 0 (λ_=>true) true f.params.toList args.toList k a:=by rw[A];exact J
  exact RD Q G R C l i B
 have w:∀i:Nat->Bool,DataW.TrodVars enc prog o i s.vars (s.fn H (k++[])).vars []:=by
  intro i;rw[g,n];rfl
 have x:∀p∈a,(λb=>decide (b<W.heap.size)) p.block=true:=λp h=>by simpa using l p h
 refine⟨k,[],a,[],a,[],D,j _ _ _,c _ x,w _,World.keptBut_mono (λp h=>⟨h,by simpa using h⟩) (E.frame (· ∈a)),λ_=>?_⟩;refine⟨?_,_,_,([]++a)++[],⟨[]++a,[],trodAll_append (c _ (λ_ _=>rfl)) (j _ _ _),w _,rfl,?_,?_⟩,?_⟩
 .exact ok_one I rfl (okWide_bool_mk underlying4 _)
 .intro b y h;have z:MemPlace.cell b y∈a:=by simpa using h
  rw[E.frozen (l _ z)];exact M b y z
 .intro P;have:=N P;simpa using this
 .intro p h _;simpa using h
end
end Go.Proofs.YtlmkgaoakcjlnaaGreatDoor
