/- Part Bx12. -/
import Derived.Deep.LoopGhost
import Derived.Test.YtlmkgaoakcjlnaaGreatDoorBx11
open Go.Proofs.Tryz
namespace Go.Proofs.YtlmkgaoakcjlnaaGreatDoor
set_option maxHeartbeats 25600000
set_option maxRecDepth 100000
open Go.RowKit
variable (T:aj)(t:TV)(l:List Int)(A:Option Addr)(n c:Nat)(w:World)
def aKo(T:aj)(w1:World)(D V:List Int)(gh:Nat)(s8 s26:Value)(wx:World):Prop:=
 ∃(k:Nat)(A:Option Addr)(n c:Nat)(pre tail:List Int)(st:Option Int),k+gh=D.length/\s26=.int .i64 k/\s8=.slice A n c/\Hid (aK wx w1.heap.size A n c (pre++st.toList++tail))/\Hid (Ext w1 wx)/\Hid (V=dO T pre st tail (D.drop k))/\Hid (st=none->pre=[])/\Hid (n<=k)/\Hid (∀z∈tail,aH T z≠0)/\Hid (∀z,st=some z->aH T z=0)
def Ve(w1:World)(A:Option Addr)(n c:Nat)(L:List Int)(b0:Int)(q gh:Nat)(s11:Value)(wx:World):Prop:=
 gh<=q/\((gh=0/\s11=.int .i64 b0)\/(∃r j:Nat,gh=r+1/\s11=.int .i64 j/\Hid ((j:Int)=b0+1+r)))/\Hid (aK wx w1.heap.size A n c L)/\Hid (Ext w1 wx)
theorem OT(ht:aW w t T)(hi:aF w ⟨A,n,c⟩ l):
 Calls prog 58 #[t.v,.slice A n c] w λe w'=>∃B m d,e=.returned (.tuple #[.slice B m d,.int .i64 (fB T l)])/\Ext w w'/\aF w' ⟨B,m,d⟩ (lH T l):=by
 have ar:=dw w t;have b4:=ah ar;have HT:=ah (ht.aC ar);have HI:=ah (hi.ext ar);clear ht hi ar;go_enter func58,ntmps58;go_wp2_with fail;refine(Jo T t l A n c _ HT.out HI.out).mono ?_;rintro e J⟨B,m,d,rfl,aw,an⟩;have aa:=ah aw;have bU:w.heap.size<J.heap.size:=by have h':=aw.b.size;simp at h';omega
 have hm:=an.len.1;subst hm;clear aw;by_cases f:fB T l=0
 case neg=>
  have bX:(fB T l != 0)=true:=bN' f;have HZ:=ah f;have hb:=b4.out.trans' aa.out;clear f an;go_wp2;go_ret2;exact⟨none,0,0,rfl,hb,by rw[lH,nN' HZ.out];exact aF.nil_ _⟩
 rw[kT,pP' f]at an;have HW:=ah (AL f).1;have HC:=ah (Au (AL f).1);have bp:=ah (Y7 HC.out l);have b6:=ah (AL f).2;have HE:Hid (fB T l=0):=ah f;have ax:Hid (lH T l=dO T [] none [] ((nR T l).drop 0)):=ah (by rw[lH,pP' f];rfl);have HS:=ah (nD HW.out);rw[kT,pP' f,f];obtain⟨V,hV⟩:=eY' (lH T l);rw[hV]at ax;have br:=ah hV;clear hV;generalize nR T l=D at*;have bs:=ah an;clear an f;go_wp2;go_loopg[8,26] D.length (λgh s8 bt wx=>aKo T J D V gh s8 bt wx);exact⟨0,none,0,0,[],[],none,by omega,rfl,rfl,ah (Own.nil_ _ _ _ _),ah eR',ax,ah (λ_=>rfl),ah (lr' _),ah (λz f=>by cases f),ah (λz f=>by cases f)⟩;obtain⟨k,A2,n2,c2,pre,tail,st,bZ,rfl,rfl,HO,HB,HR,bv,M,a5,ng⟩:=hrel;clear ax;by_cases ay:k<D.length
 case neg=>
  have HF:Hid (V=pre++st.toList++tail):=ah (by rw[HR.out,bT D k (by omega),PI]);have bw:Hid (aF wr ⟨A2,n2,c2⟩ V):=ah (by rw[HF.out];exact aK.ints HO.out);have hx:=(b4.out.trans' aa.out).trans' HB.out;clear HR;go_wp2;go_ret2;exact⟨_,_,_,by rw[HE.out];rfl,hx,by rw[br.out];exact bw.out⟩
 obtain⟨a2,rfl⟩:=gS' gk;have bb:=ah (bs.out.ext HB.out);obtain⟨b,o,hA,c0⟩:=bb.out.at_ ay;subst hA;have HD:=ah (drop_at D k ay);have bc:=ah (bp.out _ (gM' ay));generalize D[k]=x at*;have c1:=z0' k;have c3:(k:Int)<(D.length:Int):=by omega
 have c4:D.length<=4096:=b6.out;have iF:Hid (V=dO T pre st tail (x::D.drop (k+1))):=ah (by rw[HR.out,HD.out]);have aY:Hid (∀(w':World),Ext J w'->∀k:Nat,w'.cell? ⟨w.heap.size,k,none⟩=t.v.cells[k]?):=ah λw' bx=>aQ (aa.out.trans' bx)
 have gG:Hid (∀(c:Int)(w':World),Ext J w'->cE' 118 #[t.v,.int .i64 c] w' (.int .i64 (aH T c))):=ah (λc w' h=>zA t T c w' (HT.out.aC (aa.out.trans' h)));clear HR HD bb;cases st with
 |none=>
  have bz:pre=[]:=bv.out rfl;subst bz;have ao:Hid (aK wr J.heap.size A2 n2 c2 tail):=ah (by simpa using HO.out);have HN:Hid (n2=tail.length):=ah (by have:=ao.out.len;simp at this;omega);have gY:Hid (V=if aH T x=0 then dO T ([]++tail) (some x) [] (D.drop (k+1))else dO T [] none (tail++[x]) (D.drop (k+1))):=ah (iF.out.trans (KC [] tail x _));clear HO iF;have U:=z0' n2;have c6:(n2:Int)<=4096:=by have:=M.out;have:=b6.out;omega
  go_wp2;go_loopg[11] tail.length (λgh aD wx=>Ve J A2 n2 c2 tail (-1) tail.length gh aD wx)
  case atStart=>
   refine⟨lr' _,?_,ao,HB⟩;rcases Nat.eq_zero_or_pos tail.length with h0|h0
   .exact .inl ⟨h0,by have:=HN.out;rw[h0]at this;subst this;first|rfl|go_num⟩
   .exact .inr ⟨tail.length-1,n2-1,by omega,by have:=HN.out;first|(congr 1;omega)|go_num,ah (by have:=HN.out;omega)⟩
  case round=>
   obtain⟨bA,hs,K,E⟩:=hrel;rcases hs with⟨rfl,rfl⟩|⟨r,j,rfl,rfl,HJ⟩
   ·
    have hd:decide ((0:Int)<= -1)=false:=rfl;have c7:decide ((-1:Int)<0)=true:=rfl;have Z:∀q:ak wr,∀k:Nat,q.w.cell? ⟨w.heap.size,k,none⟩=t.v.cells[k]? :=λq=>aY.out _ (E.out.trans' q.h)
    go_wp2_with fail;refine rX' ?_
    repeat(go_big_quiet_step(first|(fail)))
    refine wpQuiet_nil ?_;rintro _⟨G,rfl⟩;clear Z;obtain⟨Y,N⟩:=eX' G.w;have F:Hid (aK Y J.heap.size _ _ c2 _):=ah (by rw[N];exact Own.ext K.out G.h);have H:Hid (Ext J Y):=ah (by rw[N];exact E.out.trans' G.h);rw[<- N];clear N K E;have K:=F;have E:=H;clear F H;have Z:∀q:ak Y,∀k:Nat,q.w.cell? ⟨w.heap.size,k,none⟩=t.v.cells[k]? :=λq=>aY.out _ (E.out.trans' q.h)
    go_wp2_with fail;refine rX' ?_
    repeat(go_big_quiet_step(first|(fail)))
    refine wpQuiet_nil ?_;rintro _⟨G,rfl⟩;clear Z;obtain⟨O,P⟩:=eX' G.w;have F:Hid (aK O J.heap.size _ _ c2 _):=ah (by rw[P];exact Own.ext K.out G.h);have H:Hid (Ext J O):=ah (by rw[P];exact E.out.trans' G.h);rw[<- P];clear P K E;by_cases L:aH T x=0
    ·
     have HF:Hid (V=dO T ([]++tail) (some x) ([]) (D.drop (k+1))):=ah (gY.out.trans (pP' L));have W:Hid (aH T x=0):=ah L;clear L gY;have C:Ext O (O.alloc (.cells #[.int .i64 x] 3)):=eR'.aB _;have U:=M.out;obtain⟨A5,c5,w5,I,a,i,_⟩:=fZ (Own.ext F.out C) (iI O x) (by omega) (by have h':=H.out.b.size;simp;omega);have bK:=ah a;have aZ:Hid (Ext J w5):=ah (dW (H.out.trans' C) i (λk L=>(Own.lt F.out k L).1));clear a i C U;go_wp2_with(at_builtin;refine dG rfl _ _ _ rfl _ _ rfl rfl _ _ I ?_);go_roundg a2;exact⟨k+1,A5,n2+1,c5,[]++tail,[],some x,by omega,by go_num,rfl,ah (by simpa using bK.out),aZ,HF,ah (by intro h;cases h),ah (by have:=M.out;omega),ah (λz f=>by cases f),ah (λz f=>by injection f with f;subst f;exact W.out)⟩;omega
    ·
     have HF:Hid (V=dO T ([]) (none) (tail++[x]) (D.drop (k+1))):=ah (gY.out.trans (nN' L));have W:Hid (aH T x≠0):=ah L;clear L gY;have C:Ext O (O.alloc (.cells #[.int .i64 x] 3)):=eR'.aB _;have U:=M.out;obtain⟨A5,c5,w5,I,a,i,_⟩:=fZ (Own.ext F.out C) (iI O x) (by omega) (by have h':=H.out.b.size;simp;omega);have bK:=ah a;have aZ:Hid (Ext J w5):=ah (dW (H.out.trans' C) i (λk L=>(Own.lt F.out k L).1));clear a i C U;go_wp2_with(at_builtin;refine dG rfl _ _ _ rfl _ _ rfl rfl _ _ I ?_);go_roundg a2;exact⟨k+1,A5,n2+1,c5,[],tail++[x],none,by omega,by go_num,rfl,ah (by simpa using bK.out),aZ,HF,ah (λ_=>rfl),ah (by have:=M.out;omega),ah (λz f=>by rcases List.mem_append.1 f with f|f;exact a5.out z f;rw[List.mem_singleton]at f;subst f;exact W.out),ng⟩;omega
   ·
    have hr:r<tail.length:=by omega
    have HY:Hid ((tail)[j]? =some tail[r]):=ah (by
     have hj:=HJ.out
     rw[show j=r from by omega,List.getElem?_eq_getElem hr])
    have aE:=ah (a5.out _ (gM' hr));generalize tail[r]=y at*;have aL:=z0' j;have bB:(j:Int)<(n2:Int):=(by have:=HJ.out;have:=HN.out;omega);have hd:decide ((0:Int)<=(j:Int))=true:=dt' aL;have e1:(aH T y != 0)=true:=(by rw[bne_iff_ne];exact aE.out);obtain⟨g,rfl⟩:=Own.some_ K.out (by omega);have Z:∀q:ak wr,∀k:Nat,q.w.cell? ⟨w.heap.size,k,none⟩=t.v.cells[k]? :=λq=>aY.out _ (E.out.trans' q.h)
    have R:∀q:ak wr,q.w.cell? ⟨g,j,none⟩=some (.int .i64 y):=cZ (aK.cell K.out (j) y HY.out);go_wp2_with fail;refine rX' ?_
    repeat(go_big_quiet_step(first|(go_at_call 118;with_reducible exact aS (gG.out y _ (E.out.trans' (ak.h _))))))
    refine wpQuiet_nil ?_;rintro _⟨G,rfl⟩;clear Z R;obtain⟨Y,N⟩:=eX' G.w;have F:Hid (aK Y J.heap.size _ _ c2 _):=ah (by rw[N];exact Own.ext K.out G.h);have H:Hid (Ext J Y):=ah (by rw[N];exact E.out.trans' G.h);rw[<- N];clear N K E;go_wp2;go_roundg r
    case measure=>omega
    case rel=>
     refine⟨by omega,?_,F,H⟩;rcases Nat.eq_zero_or_pos r with h0|h0
     .exact .inl ⟨h0,by have:=HJ.out;first|(congr 1;omega)|go_num⟩
     .exact .inr ⟨r-1,j-1,by omega,by have:=HJ.out;first|(congr 1;omega)|go_num,ah (by have:=HJ.out;omega)⟩
 |some s=>
  obtain⟨m,rfl⟩:∃m,n2=m+1:=⟨n2-1,by have:=HO.out.len;simp at this;omega⟩;have ao:Hid (aK wr J.heap.size A2 (m+1) c2 (pre++s::tail)):=ah (by simpa using HO.out);have HN:Hid (m+1=pre.length+1+tail.length):=ah (by have:=ao.out.len;simp at this;omega);have be:=ng.out s rfl;have bE:=ah be;clear HO be;have bS:((m+1:Nat):Int)-1=(m:Int):=by omega
  have bJ:(0:Int)<=(pre.length:Int):=bI _;have c8:=z0' m;have c9:(m:Int)<((m+1:Nat):Int):=by omega
  have ca:m+1<=4096:=by have:=M.out;omega
  have cb:(pre.length:Int)<((m+1:Nat):Int):=by have:=HN.out;omega
  go_wp2;go_loopg[11] tail.length (λgh aD wx=>Ve J A2 (m+1) c2 (pre++s::tail) (pre.length:Int) tail.length gh aD wx)
  case atStart=>
   refine⟨lr' _,?_,ao,HB⟩;rcases Nat.eq_zero_or_pos tail.length with h0|h0
   .exact .inl ⟨h0,by have:=HN.out;first|(congr 1;omega)|go_num⟩
   .exact .inr ⟨tail.length-1,m,by omega,by first|rfl|go_num,ah (by have:=HN.out;omega)⟩
  case round=>
   obtain⟨bA,hs,K,E⟩:=hrel;obtain⟨g,rfl⟩:=Own.some_ K.out (by omega);rcases hs with⟨rfl,rfl⟩|⟨r,j,rfl,rfl,HJ⟩
   ·
    have hd:decide ((0:Int)<=(pre.length:Int))=true:=dt' bJ;have cc:decide ((pre.length:Int)<0)=false:=dF';have e0:(aH T s != 0)=false:=(by rw[bE.out];rfl);have Z:∀q:ak wr,∀k:Nat,q.w.cell? ⟨w.heap.size,k,none⟩=t.v.cells[k]? :=λq=>aY.out _ (E.out.trans' q.h)
    have R:∀q:ak wr,q.w.cell? ⟨g,pre.length,none⟩=some (.int .i64 s):=cZ (aK.cell K.out (pre.length) s (by simp));go_wp2_with fail;refine rX' ?_
    repeat(go_big_quiet_step(first|(go_at_call 118;with_reducible exact aS (gG.out s _ (E.out.trans' (ak.h _))))))
    refine wpQuiet_nil ?_;rintro _⟨G,rfl⟩;clear Z R;obtain⟨Y,N⟩:=eX' G.w;have F:Hid (aK Y J.heap.size _ _ c2 _):=ah (by rw[N];exact Own.ext K.out G.h);have H:Hid (Ext J Y):=ah (by rw[N];exact E.out.trans' G.h);rw[<- N];clear N K E;rcases List.eq_nil_or_concat tail with av|⟨tl,y,av⟩
    ·
     subst av;have ae:m=pre.length:=(by have:=HN.out;simp at this;omega);have bL:decide ((pre.length:Int)<(m:Int))=false:=dF';have bN:decide (pre.length<m)=false:=dF';have bO:=ah ae;clear ae;have K:=F;have E:=H;clear F H;have Z:∀q:ak Y,∀k:Nat,q.w.cell? ⟨w.heap.size,k,none⟩=t.v.cells[k]? :=λq=>aY.out _ (E.out.trans' q.h)
     go_wp2_with fail;refine rX' ?_
     repeat(go_big_quiet_step(first|(fail)))
     refine wpQuiet_nil ?_;rintro _⟨G,rfl⟩;clear Z;obtain⟨O,P⟩:=eX' G.w;have F:Hid (aK O J.heap.size _ _ c2 _):=ah (by rw[P];exact Own.ext K.out G.h);have H:Hid (Ext J O):=ah (by rw[P];exact E.out.trans' G.h);rw[<- P];clear P K E;cases X:pairT T s x with
     |some y2=>
      have HF:Hid (V=dO T pre (some y2) ([]) (D.drop (k+1))):=ah (by rw[iF.out,dO,show uG T [] x=false from rfl,nN' (by simp),X]);have HP:Hid (kR T s x=(y2,true)):=ah (by rw[kR,X]);have aR:=ah (PO HC.out bc.out X).2.1;clear X iF;have K:=F;have E:=H;clear F H
      have af:Hid (∀(w':World),Ext J w'->cE' 119 #[t.v,.int .i64 s,.int .i64 x] w' (.tuple #[.int .i64 y2,.bool true])):=ah (λw' h=>by
       have h':=FW T HW.out t s x w' (HT.out.aC (aa.out.trans' h));rw[HP.out]at h'
       exact h')
      have Z:∀q:ak O,∀k:Nat,q.w.cell? ⟨w.heap.size,k,none⟩=t.v.cells[k]? :=λq=>aY.out _ (E.out.trans' q.h)
      have R:∀q:ak O,q.w.cell? ⟨g,pre.length,none⟩=some (.int .i64 s):=cZ (aK.cell K.out (pre.length) s (by simp));go_wp2_with fail;refine rX' ?_
      repeat(go_big_quiet_step(first|(go_at_call 119;with_reducible exact aS (af.out _ (E.out.trans' (ak.h _))))))
      refine wpQuiet_nil ?_;rintro _⟨G,rfl⟩;clear Z R;obtain⟨S,Q⟩:=eX' G.w;have F:Hid (aK S J.heap.size _ _ c2 _):=ah (by rw[Q];exact Own.ext K.out G.h);have H:Hid (Ext J S):=ah (by rw[Q];exact E.out.trans' G.h);rw[<- Q];clear Q K E;have r0:S.cell? ⟨g,pre.length,none⟩=some (.int .i64 s):=F.out.cell pre.length s (by simp);have f0:S.frozen? ⟨g,pre.length,none⟩=false:=F.out.frozen pre.length;have bK:=ah (F.out.set pre.length y2);have b0:J.heap.size<=g:=(Own.lt F.out g rfl).1;have aZ:=ah (H.out.kQ (p:=⟨g,pre.length,none⟩) b0 (.int .i64 y2));generalize b1:pre.length=p at*;go_wp2;go_roundg a2;exact⟨k+1,some ⟨g,0,none⟩,m+1,c2,pre,[],some y2,by omega,by go_num,rfl,ah (by have h5:=bK.out;rw[<- b1]at h5 |-;simpa[List.set_append]using h5),aZ,HF,ah (by intro h;cases h),ah (by have:=M.out;omega),a5,ah (λz f=>by injection f with f;subst f;exact aR.out)⟩;omega
     |none=>
      have gY:Hid (V=if aH T x=0 then dO T (pre++s::([])) (some x) [] (D.drop (k+1))else dO T pre (some s) ([]++[x]) (D.drop (k+1))):=ah (by rw[iF.out,dO,show uG T [] x=false from rfl,nN' (by simp),X]);have HP:Hid (kR T s x=(0,false)):=ah (by rw[kR,X]);clear X iF;have K:=F;have E:=H;clear F H
      have af:Hid (∀(w':World),Ext J w'->cE' 119 #[t.v,.int .i64 s,.int .i64 x] w' (.tuple #[.int .i64 0,.bool false])):=ah (λw' h=>by
       have h':=FW T HW.out t s x w' (HT.out.aC (aa.out.trans' h));rw[HP.out]at h'
       exact h')
      have Z:∀q:ak O,∀k:Nat,q.w.cell? ⟨w.heap.size,k,none⟩=t.v.cells[k]? :=λq=>aY.out _ (E.out.trans' q.h)
      have R:∀q:ak O,q.w.cell? ⟨g,pre.length,none⟩=some (.int .i64 s):=cZ (aK.cell K.out (pre.length) s (by simp));go_wp2_with fail;refine rX' ?_
      repeat(go_big_quiet_step(first|(go_at_call 119;with_reducible exact aS (af.out _ (E.out.trans' (ak.h _))))))
      refine wpQuiet_nil ?_;rintro _⟨G,rfl⟩;clear Z R;obtain⟨S,Q⟩:=eX' G.w;have F:Hid (aK S J.heap.size _ _ c2 _):=ah (by rw[Q];exact Own.ext K.out G.h);have H:Hid (Ext J S):=ah (by rw[Q];exact E.out.trans' G.h);rw[<- Q];clear Q K E;by_cases L:aH T x=0
      ·
       have HF:Hid (V=dO T (pre++s::[]) (some x) ([]) (D.drop (k+1))):=ah (gY.out.trans (pP' L));have W:Hid (aH T x=0):=ah L;clear L gY;have C:Ext S (S.alloc (.cells #[.int .i64 x] 3)):=eR'.aB _;have U:=M.out;obtain⟨A5,c5,w5,I,a,i,_⟩:=fZ (Own.ext F.out C) (iI S x) (by omega) (by have h':=H.out.b.size;simp;omega);have bK:=ah a;have aZ:Hid (Ext J w5):=ah (dW (H.out.trans' C) i (λk L=>(Own.lt F.out k L).1));clear a i C U;go_wp2_with(at_builtin;refine dG rfl _ _ _ rfl _ _ rfl rfl _ _ I ?_);go_roundg a2;exact⟨k+1,A5,(m+1)+1,c5,pre++s::[],[],some x,by omega,by go_num,rfl,ah (by simpa using bK.out),aZ,HF,ah (by intro h;cases h),ah (by have:=M.out;omega),ah (λz f=>by cases f),ah (λz f=>by injection f with f;subst f;exact W.out)⟩;omega
      ·
       have HF:Hid (V=dO T (pre) (some s) ([]++[x]) (D.drop (k+1))):=ah (gY.out.trans (nN' L));have W:Hid (aH T x≠0):=ah L;clear L gY;have C:Ext S (S.alloc (.cells #[.int .i64 x] 3)):=eR'.aB _;have U:=M.out;obtain⟨A5,c5,w5,I,a,i,_⟩:=fZ (Own.ext F.out C) (iI S x) (by omega) (by have h':=H.out.b.size;simp;omega);have bK:=ah a;have aZ:Hid (Ext J w5):=ah (dW (H.out.trans' C) i (λk L=>(Own.lt F.out k L).1));clear a i C U;go_wp2_with(at_builtin;refine dG rfl _ _ _ rfl _ _ rfl rfl _ _ I ?_);go_roundg a2;exact⟨k+1,A5,(m+1)+1,c5,pre,[]++[x],some s,by omega,by go_num,rfl,ah (by simpa using bK.out),aZ,HF,ah (by intro h;cases h),ah (by have:=M.out;omega),ah (λz f=>by rcases List.mem_append.1 f with f|f;exact a5.out z f;rw[List.mem_singleton]at f;subst f;exact W.out),ng⟩;omega
    ·
     rw[List.concat_eq_append]at av;subst av;have ae:m=(pre++s::tl).length:=(by have:=HN.out;simp at this |-;omega);have bR:pre.length<m:=(by rw[ae];simp);have bL:decide ((pre.length:Int)<(m:Int))=true:=dT';have bN:decide (pre.length<m)=true:=dT'
     have bi:Hid ((pre++s::(tl++[y]))[m]? =some y):=ah (by
      have e:pre++s::(tl++[y])=(pre++s::tl)++[y]:=by simp
      rw[e,ae,List.getElem?_concat_length])
     have bO:=ah ae;have bj:=a5.out y (by simp);have pI:Hid (uG T (tl++[y]) x=decide (aH T x<=aH T y)):=ah (by rw[QJ,df' bj,Bool.false_or]);clear ae bR bj;by_cases h2:aH T x<=aH T y
     ·
      have e2:decide (aH T x<=aH T y)=true:=dt' h2;have gY:Hid (V=if aH T x=0 then dO T (pre++s::(tl++[y])) (some x) [] (D.drop (k+1))else dO T pre (some s) (tl++[y]++[x]) (D.drop (k+1))):=ah (by rw[iF.out,dO,pI.out,e2,pP' rfl]);clear iF h2;have K:=F;have E:=H;clear F H;have Z:∀q:ak Y,∀k:Nat,q.w.cell? ⟨w.heap.size,k,none⟩=t.v.cells[k]? :=λq=>aY.out _ (E.out.trans' q.h)
      have R:∀q:ak Y,q.w.cell? ⟨g,m,none⟩=some (.int .i64 y):=cZ (aK.cell K.out (m) y bi.out);go_wp2_with fail;refine rX' ?_
      repeat(go_big_quiet_step(first|(go_at_call 118;with_reducible exact aS (gG.out y _ (E.out.trans' (ak.h _))))|(go_at_call 118;with_reducible exact aS (gG.out x _ (E.out.trans' (ak.h _))))))
      refine wpQuiet_nil ?_;rintro _⟨G,rfl⟩;clear Z R;obtain⟨O,P⟩:=eX' G.w;have F:Hid (aK O J.heap.size _ _ c2 _):=ah (by rw[P];exact Own.ext K.out G.h);have H:Hid (Ext J O):=ah (by rw[P];exact E.out.trans' G.h);rw[<- P];clear P K E;by_cases L:aH T x=0
      ·
       have HF:Hid (V=dO T (pre++s::(tl++[y])) (some x) ([]) (D.drop (k+1))):=ah (gY.out.trans (pP' L));have W:Hid (aH T x=0):=ah L;clear L gY;have C:Ext O (O.alloc (.cells #[.int .i64 x] 3)):=eR'.aB _;have U:=M.out;obtain⟨A5,c5,w5,I,a,i,_⟩:=fZ (Own.ext F.out C) (iI O x) (by omega) (by have h':=H.out.b.size;simp;omega);have bK:=ah a;have aZ:Hid (Ext J w5):=ah (dW (H.out.trans' C) i (λk L=>(Own.lt F.out k L).1));clear a i C U;go_wp2_with(at_builtin;refine dG rfl _ _ _ rfl _ _ rfl rfl _ _ I ?_);go_roundg a2;exact⟨k+1,A5,(m+1)+1,c5,pre++s::(tl++[y]),[],some x,by omega,by go_num,rfl,ah (by simpa using bK.out),aZ,HF,ah (by intro h;cases h),ah (by have:=M.out;omega),ah (λz f=>by cases f),ah (λz f=>by injection f with f;subst f;exact W.out)⟩;omega
      ·
       have HF:Hid (V=dO T (pre) (some s) ((tl++[y])++[x]) (D.drop (k+1))):=ah (gY.out.trans (nN' L));have W:Hid (aH T x≠0):=ah L;clear L gY;have C:Ext O (O.alloc (.cells #[.int .i64 x] 3)):=eR'.aB _;have U:=M.out;obtain⟨A5,c5,w5,I,a,i,_⟩:=fZ (Own.ext F.out C) (iI O x) (by omega) (by have h':=H.out.b.size;simp;omega);have bK:=ah a;have aZ:Hid (Ext J w5):=ah (dW (H.out.trans' C) i (λk L=>(Own.lt F.out k L).1));clear a i C U;go_wp2_with(at_builtin;refine dG rfl _ _ _ rfl _ _ rfl rfl _ _ I ?_);go_roundg a2;exact⟨k+1,A5,(m+1)+1,c5,pre,(tl++[y])++[x],some s,by omega,by go_num,rfl,ah (by simpa using bK.out),aZ,HF,ah (by intro h;cases h),ah (by have:=M.out;omega),ah (λz f=>by rcases List.mem_append.1 f with f|f;exact a5.out z f;rw[List.mem_singleton]at f;subst f;exact W.out),ng⟩;omega
     ·
      have e2:decide (aH T x<=aH T y)=false:=df' h2;have bk:Hid (uG T (tl++[y]) x=false):=ah (by rw[pI.out,e2]);clear h2;have K:=F;have E:=H;clear F H;have Z:∀q:ak Y,∀k:Nat,q.w.cell? ⟨w.heap.size,k,none⟩=t.v.cells[k]? :=λq=>aY.out _ (E.out.trans' q.h)
      have R:∀q:ak Y,q.w.cell? ⟨g,m,none⟩=some (.int .i64 y):=cZ (aK.cell K.out (m) y bi.out);go_wp2_with fail;refine rX' ?_
      repeat(go_big_quiet_step(first|(go_at_call 118;with_reducible exact aS (gG.out y _ (E.out.trans' (ak.h _))))|(go_at_call 118;with_reducible exact aS (gG.out x _ (E.out.trans' (ak.h _))))))
      refine wpQuiet_nil ?_;rintro _⟨G,rfl⟩;clear Z R;obtain⟨O,P⟩:=eX' G.w;have F:Hid (aK O J.heap.size _ _ c2 _):=ah (by rw[P];exact Own.ext K.out G.h);have H:Hid (Ext J O):=ah (by rw[P];exact E.out.trans' G.h);rw[<- P];clear P K E;cases X:pairT T s x with
      |some y2=>
       have HF:Hid (V=dO T pre (some y2) ((tl++[y])) (D.drop (k+1))):=ah (by rw[iF.out,dO,bk.out,nN' (by simp),X]);have HP:Hid (kR T s x=(y2,true)):=ah (by rw[kR,X]);have aR:=ah (PO HC.out bc.out X).2.1;clear X iF;have K:=F;have E:=H;clear F H
       have af:Hid (∀(w':World),Ext J w'->cE' 119 #[t.v,.int .i64 s,.int .i64 x] w' (.tuple #[.int .i64 y2,.bool true])):=ah (λw' h=>by
        have h':=FW T HW.out t s x w' (HT.out.aC (aa.out.trans' h));rw[HP.out]at h'
        exact h')
       have Z:∀q:ak O,∀k:Nat,q.w.cell? ⟨w.heap.size,k,none⟩=t.v.cells[k]? :=λq=>aY.out _ (E.out.trans' q.h)
       have R:∀q:ak O,q.w.cell? ⟨g,pre.length,none⟩=some (.int .i64 s):=cZ (aK.cell K.out (pre.length) s (by simp));go_wp2_with fail;refine rX' ?_
       repeat(go_big_quiet_step(first|(go_at_call 119;with_reducible exact aS (af.out _ (E.out.trans' (ak.h _))))))
       refine wpQuiet_nil ?_;rintro _⟨G,rfl⟩;clear Z R;obtain⟨S,Q⟩:=eX' G.w;have F:Hid (aK S J.heap.size _ _ c2 _):=ah (by rw[Q];exact Own.ext K.out G.h);have H:Hid (Ext J S):=ah (by rw[Q];exact E.out.trans' G.h);rw[<- Q];clear Q K E;have r0:S.cell? ⟨g,pre.length,none⟩=some (.int .i64 s):=F.out.cell pre.length s (by simp);have f0:S.frozen? ⟨g,pre.length,none⟩=false:=F.out.frozen pre.length;have bK:=ah (F.out.set pre.length y2);have b0:J.heap.size<=g:=(Own.lt F.out g rfl).1;have aZ:=ah (H.out.kQ (p:=⟨g,pre.length,none⟩) b0 (.int .i64 y2));generalize b1:pre.length=p at*;go_wp2;go_roundg a2;exact⟨k+1,some ⟨g,0,none⟩,m+1,c2,pre,(tl++[y]),some y2,by omega,by go_num,rfl,ah (by have h5:=bK.out;rw[<- b1]at h5 |-;simpa[List.set_append]using h5),aZ,HF,ah (by intro h;cases h),ah (by have:=M.out;omega),a5,ah (λz f=>by injection f with f;subst f;exact aR.out)⟩;omega
      |none=>
       have gY:Hid (V=if aH T x=0 then dO T (pre++s::((tl++[y]))) (some x) [] (D.drop (k+1))else dO T pre (some s) ((tl++[y])++[x]) (D.drop (k+1))):=ah (by rw[iF.out,dO,bk.out,nN' (by simp),X]);have HP:Hid (kR T s x=(0,false)):=ah (by rw[kR,X]);clear X iF;have K:=F;have E:=H;clear F H
       have af:Hid (∀(w':World),Ext J w'->cE' 119 #[t.v,.int .i64 s,.int .i64 x] w' (.tuple #[.int .i64 0,.bool false])):=ah (λw' h=>by
        have h':=FW T HW.out t s x w' (HT.out.aC (aa.out.trans' h));rw[HP.out]at h'
        exact h')
       have Z:∀q:ak O,∀k:Nat,q.w.cell? ⟨w.heap.size,k,none⟩=t.v.cells[k]? :=λq=>aY.out _ (E.out.trans' q.h)
       have R:∀q:ak O,q.w.cell? ⟨g,pre.length,none⟩=some (.int .i64 s):=cZ (aK.cell K.out (pre.length) s (by simp));go_wp2_with fail;refine rX' ?_
       repeat(go_big_quiet_step(first|(go_at_call 119;with_reducible exact aS (af.out _ (E.out.trans' (ak.h _))))))
       refine wpQuiet_nil ?_;rintro _⟨G,rfl⟩;clear Z R;obtain⟨S,Q⟩:=eX' G.w;have F:Hid (aK S J.heap.size _ _ c2 _):=ah (by rw[Q];exact Own.ext K.out G.h);have H:Hid (Ext J S):=ah (by rw[Q];exact E.out.trans' G.h);rw[<- Q];clear Q K E;by_cases L:aH T x=0
       ·
        have HF:Hid (V=dO T (pre++s::(tl++[y])) (some x) ([]) (D.drop (k+1))):=ah (gY.out.trans (pP' L));have W:Hid (aH T x=0):=ah L;clear L gY;have C:Ext S (S.alloc (.cells #[.int .i64 x] 3)):=eR'.aB _;have U:=M.out;obtain⟨A5,c5,w5,I,a,i,_⟩:=fZ (Own.ext F.out C) (iI S x) (by omega) (by have h':=H.out.b.size;simp;omega);have bK:=ah a;have aZ:Hid (Ext J w5):=ah (dW (H.out.trans' C) i (λk L=>(Own.lt F.out k L).1));clear a i C U;go_wp2_with(at_builtin;refine dG rfl _ _ _ rfl _ _ rfl rfl _ _ I ?_);go_roundg a2;exact⟨k+1,A5,(m+1)+1,c5,pre++s::(tl++[y]),[],some x,by omega,by go_num,rfl,ah (by simpa using bK.out),aZ,HF,ah (by intro h;cases h),ah (by have:=M.out;omega),ah (λz f=>by cases f),ah (λz f=>by injection f with f;subst f;exact W.out)⟩;omega
       ·
        have HF:Hid (V=dO T (pre) (some s) ((tl++[y])++[x]) (D.drop (k+1))):=ah (gY.out.trans (nN' L));have W:Hid (aH T x≠0):=ah L;clear L gY;have C:Ext S (S.alloc (.cells #[.int .i64 x] 3)):=eR'.aB _;have U:=M.out;obtain⟨A5,c5,w5,I,a,i,_⟩:=fZ (Own.ext F.out C) (iI S x) (by omega) (by have h':=H.out.b.size;simp;omega);have bK:=ah a;have aZ:Hid (Ext J w5):=ah (dW (H.out.trans' C) i (λk L=>(Own.lt F.out k L).1));clear a i C U;go_wp2_with(at_builtin;refine dG rfl _ _ _ rfl _ _ rfl rfl _ _ I ?_);go_roundg a2;exact⟨k+1,A5,(m+1)+1,c5,pre,(tl++[y])++[x],some s,by omega,by go_num,rfl,ah (by simpa using bK.out),aZ,HF,ah (by intro h;cases h),ah (by have:=M.out;omega),ah (λz f=>by rcases List.mem_append.1 f with f|f;exact a5.out z f;rw[List.mem_singleton]at f;subst f;exact W.out),ng⟩;omega
   ·
    have hr:r<tail.length:=by omega
    have HY:Hid ((pre++s::tail)[j]? =some tail[r]):=ah (by
     have hj:=HJ.out
     rw[show j=pre.length+(r+1)from by omega,List.getElem?_append_right (by omega),Nat.add_sub_cancel_left,List.getElem?_cons_succ,List.getElem?_eq_getElem hr])
    have aE:=ah (a5.out _ (gM' hr));generalize tail[r]=y at*;have aL:=z0' j;have bB:(j:Int)<((m+1:Nat):Int):=(by have:=HJ.out;have:=HN.out;omega);have hd:decide ((0:Int)<=(j:Int))=true:=dt' aL;have e1:(aH T y != 0)=true:=(by rw[bne_iff_ne];exact aE.out);have Z:∀q:ak wr,∀k:Nat,q.w.cell? ⟨w.heap.size,k,none⟩=t.v.cells[k]? :=λq=>aY.out _ (E.out.trans' q.h)
    have R:∀q:ak wr,q.w.cell? ⟨g,j,none⟩=some (.int .i64 y):=cZ (aK.cell K.out (j) y HY.out);go_wp2_with fail;refine rX' ?_
    repeat(go_big_quiet_step(first|(go_at_call 118;with_reducible exact aS (gG.out y _ (E.out.trans' (ak.h _))))))
    refine wpQuiet_nil ?_;rintro _⟨G,rfl⟩;clear Z R;obtain⟨Y,N⟩:=eX' G.w;have F:Hid (aK Y J.heap.size _ _ c2 _):=ah (by rw[N];exact Own.ext K.out G.h);have H:Hid (Ext J Y):=ah (by rw[N];exact E.out.trans' G.h);rw[<- N];clear N K E;go_wp2;go_roundg r
    case measure=>omega
    case rel=>
     refine⟨by omega,?_,F,H⟩;rcases Nat.eq_zero_or_pos r with h0|h0
     .exact .inl ⟨h0,by have:=HJ.out;first|(congr 1;omega)|go_num⟩
     .exact .inr ⟨r-1,j-1,by omega,by have:=HJ.out;first|(congr 1;omega)|go_num,ah (by have:=HJ.out;omega)⟩
theorem Yj(ht:aW w t T)(r:aF w ⟨A,n,c⟩ l):
 cE' 122 #[t.v,.slice A n c] w (.bool (qI T l)):=by
 have b:=dw w t;have p:=ah (ht.aC b);have i:=ah (r.ext b);clear ht r;cases q:(fB T l==0)
 .have j:Hid (qI T l=false):=ah (by rw[qI,q];rfl);go_enter func122,ntmps122;go_wp2_with fail;refine(OT T t l A n c _ p.out i.out).mono ?_;rintro e s⟨B,m,d,rfl,a,f⟩;have k:=b.trans' a;clear a f;go_wp2;go_ret;exact⟨aP j.out.symm,k⟩
 .have j:Hid (qI T l=jK (lH T l) l):=ah (by rw[qI,q];rfl);go_enter func122,ntmps122;go_wp2_with fail;refine(OT T t l A n c _ p.out i.out).mono ?_;rintro e s⟨B,m,d,rfl,a,f⟩;have g:=ah a;have o:=ah f;clear a f;go_wp2_with fail;refine(Yg (lH T l) l B m d A n c _ o.out (i.out.ext g.out)).mono ?_;rintro e x⟨rfl,h⟩;have k:=(b.trans' g.out).trans' h;clear h;go_wp2;go_ret;exact⟨aP j.out.symm,k⟩
def qV(T:aj)(c:Int):List Int:=if 65<=c/\c<=90 then[c+32]else aJ T.mps c
def iR(T:aj)(c:Int):List Int:=if dZ T c=3 then qV T c else if dZ T c=1\/dZ T c=4 then[c]else[]
def jR(T:aj):Int->List Int->Int
 |_,[]=> -1
 |i,c::r=>if dZ T c=0 then i else jR T (i+1) r
def jS(T:aj)(l:List Int):Int:=if aX T l≠0 then aX T l else if jR T 0 l≠ -1 then 16 else if 4096<((l.flatMap (iR T)).length:Int)then 7 else 0
def qA(T:aj)(l:List Int):Int:=if aX T l≠0 then 0 else if jR T 0 l≠ -1 then jR T 0 l else 0
def lQ(T:aj)(l:List Int):List Int:=if jS T l=0 then l.flatMap (iR T)else[]
def WG(w:World)(T:aj)(l:List Int)(e:Ending)(w':World):Prop:=∃B m d,e=.returned (.tuple #[.slice B m d,.int .i64 (qA T l),.int .i64 (jS T l)])/\Ext w w'/\aF w' ⟨B,m,d⟩ (lQ T l)
theorem NH{T:aj}(h:dh T=true):T.mps.length<=256/\∀x,(aJ T.mps x).length<=18:=by
 simp only[dh,aU]at h;have b:jL T=true:=by simp only[h]
 have a:jg T=true:=by simp only[h]
 simp only[jL,maps,pz,aU,au]at b;simp only[jg,maps,kH,aU]at a;exact⟨by omega,Gy a.2.1⟩
theorem Wh{T:aj}(h:dh T=true):dR T=true:=by
 simp only[dh,aU]at h;simp only[h]
theorem NG{T:aj}(h:dh T=true)(x:Int):(qV T x).length<=18:=by
 unfold qV;split
 .simp
 .exact(NH h).2 x
theorem Vg{T:aj}(h:dh T=true)(x:Int):(iR T x).length<=18:=by
 unfold iR;split
 .exact NG h x
 .split<;>simp
theorem F9{f:Int->List Int}(a:∀x,(f x).length<=18):∀l:List Int,(l.flatMap f).length<=18*l.length
 |[]=>by simp
 |x::r=>by
  have b:=F9 a r;have c:=a x;simp only[List.flatMap_cons,lA',List.length_cons];omega
theorem aRV(T:aj)(c:Int)(w:World)(ht:aW w t T)(j:dh T=true)(R:0<=c/\c<=1114111):
 Calls prog 154 #[t.v,.int .i64 c] w λe w'=>∃B m d,e=.returned (.slice B m d)/\aF w' ⟨B,m,d⟩ (qV T c)/\Ext w w':=by
 have b:=dw w t;have C:=ah (ht.aC b);have D:=ah ((NH j).2 c);have r:=ah (nD j);have E:=ah (EF j);by_cases f:65<=c/\c<=90
 .have k:Hid (qV T c=[c+32]):=ah (by rw[qV,pP' f]);obtain⟨F,G⟩:=f;have s:decide (65<=c)=true:=dt' F;have I:decide (c<=90)=true:=dt' G;have S:c+97-65=c+32:=by omega
  have J:Hid (∀H,(tW' w t).heap.size=H->aF ((tW' w t).alloc (.cells #[.int .i64 (c+32)] 3)) ⟨some ⟨H,0,none⟩,1,1⟩ [c+32]):=ah (by rintro _ rfl;exact iI _ _);have l:=b.trans' ((Ext.refl (tW' w t)).aB (.cells #[.int .i64 (c+32)] 3));clear j;go_enter func154,ntmps154;go_wp2;go_ret;exact⟨_,_,_,rfl,by rw[k.out];exact J.out _ (by simp),l⟩
 .have k:Hid (qV T c=aJ T.mps c):=ah (by rw[qV,nN' f]);have K:(decide (65<=c)=true/\decide (c<=90)=false)\/decide (65<=c)=false:=by
   by_cases h:65<=c
   .exact .inl ⟨dt' h,by rw[aA];exact λL=>f ⟨h,L⟩⟩
   .exact .inr (df' h)
  clear j f;obtain⟨x,M,y,z,g,N⟩:=AX T.mps t.s8.a t.s8.n t.s8.c c _ C.out.mps r.out.mps.1 r.out.mps.2;have O:=ah z;have o:Hid (aJ T.mps c=[]->x=none/\y=0):=ah λh=>by
   have:=g (C9 E.out.mps h);exact⟨this.1,this.2.2⟩
  clear z g;rcases K with⟨s,I⟩|s
  all_goals
   go_enter func154,ntmps154;go_wp2_with fail;refine(N _ eR').mono ?_;rintro e P⟨rfl,i⟩;go_wp2_with fail;refine(L6 _ x M y P (O.out.ext i) (by have:=D.out;omega) o.out).mono ?_;rintro e U⟨B,d,rfl,A,p,q⟩;have l:=(b.trans' i).trans' q;have Q:=ah (aK.ints A);clear A p;go_wp2;go_ret;exact⟨_,_,_,rfl,by rw[k.out];exact Q.out,l⟩
theorem aRH(T:aj)(c:Int)(w:World)(ht:aW w t T)(g:dh T=true)(z:0<=c/\c<=1114111):
 Calls prog 116 #[t.v,.int .i64 c] w λe w'=>∃B m d,e=.returned (.slice B m d)/\aF w' ⟨B,m,d⟩ (qV T c)/\Ext w w':=by
 have a:=dw w t;have n:=ah (ht.aC a);have A:=ah ((NH g).2 c);have C:=ah (nD g);have D:=ah (EF g);by_cases b:65<=c/\c<=90
 .have i:Hid (qV T c=[c+32]):=ah (by rw[qV,pP' b]);obtain⟨o,p⟩:=b;have k:decide (65<=c)=true:=dt' o;have q:decide (c<=90)=true:=dt' p;have E:c+97-65=c+32:=by omega
  have r:Hid (∀H,(tW' w t).heap.size=H->aF ((tW' w t).alloc (.cells #[.int .i64 (c+32)] 3)) ⟨some ⟨H,0,none⟩,1,1⟩ [c+32]):=ah (by rintro _ rfl;exact iI _ _);have j:=a.trans' ((Ext.refl (tW' w t)).aB (.cells #[.int .i64 (c+32)] 3));clear g;go_enter func116,ntmps116;go_wp2;go_ret;exact⟨_,_,_,rfl,by rw[i.out];exact r.out _ (by simp),j⟩
 .have i:Hid (qV T c=aJ T.mps c):=ah (by rw[qV,nN' b]);have s:(decide (65<=c)=true/\decide (c<=90)=false)\/decide (65<=c)=false:=by
   by_cases h:65<=c
   .exact .inl ⟨dt' h,by rw[aA];exact λx=>b ⟨h,x⟩⟩
   .exact .inr (df' h)
  clear g b;skip;rcases s with⟨k,q⟩|k
  all_goals
   go_enter func116,ntmps116;go_wp2_with fail;refine(Ef T.mps _ _ _ c _ n.out.mps).mono ?_;rintro e F⟨G,I,J,rfl,l,f⟩;have y:=ah l;have j:=a.trans' f;clear l f;go_wp2;go_ret;exact⟨_,_,_,rfl,by rw[i.out];exact y.out,j⟩
def aRm(T:aj)(wb:World)(l:List Int)(gh:Nat)(s9 s23:Value)(wx:World):Prop:=
 ∃(k:Nat)(A:Option Addr)(n c:Nat),k+gh=l.length/\s23=.int .i64 k/\s9=.slice A n c/\Hid (aK wx wb.heap.size A n c ((l.take k).flatMap (iR T)))/\Hid (Ext wb wx)/\Hid (jR T k (l.drop k)=jR T 0 l)
theorem aPl(ht:aW w t T)(hi:aF w ⟨A,n,c⟩ l):
 Calls prog 81 #[t.v,.slice A n c] w (WG w T l):=by
 have B:=dw w t;have K:=ah B;have HT:=ah (ht.aC B);have HI:=ah (hi.ext B);have hn:=hi.len.1;subst hn;clear ht hi B;go_enter func81,ntmps81;go_wp2_with fail;refine(yB t T l A _ c _ HT.out HI.out).mono ?_;rintro e L⟨v,rfl,M,_⟩;have W:=ah M;have X:∀k:Nat,L.cell? ⟨w.heap.size,k,none⟩=t.v.cells[k]? :=aQ M;clear M;by_cases j:aX T l=0
 .obtain⟨hw,hl⟩:=rD j;have al:(aX T l != 0)=false:=bZ' j;have Y:Hid (jS T l=if jR T 0 l≠ -1 then 16 else if 4096<((l.flatMap (iR T)).length:Int)then 7 else 0):=ah (by rw[jS,nN' (by rw[j];simp)]);have Z:Hid (qA T l=if jR T 0 l≠ -1 then jR T 0 l else 0):=ah (by rw[qA,nN' (by rw[j];simp)]);have HW:=ah hw;have HL:=ah hl;have ng:=ah (Lj j);clear j hw hl X;go_wp2;go_loopg[9,23] l.length (λgh s9 am wx=>aRm T L l gh s9 am wx);exact⟨0,none,0,0,by omega,rfl,rfl,ah (Own.nil_ _ _ _ _),ah eR',ah rfl⟩;obtain⟨k,A2,i,c2,bd,rfl,rfl,C,a0,HD⟩:=hrel;have P:=ah (W.out.trans' a0.out);have X:∀k:Nat,wr.cell? ⟨w.heap.size,k,none⟩=t.v.cells[k]? :=aQ P.out;have an:=ah (HI.out.ext P.out)
  have a1:Hid (((l.take k).flatMap (iR T)).length<=18*4096):=ah (by
   have N:=F9 (Vg HW.out) (l.take k);rw[List.length_take]at N;have:=HL.out
   omega)
  have D:=ah (aK.ints C.out).len.1;by_cases E:k<l.length
  .obtain⟨F,rfl⟩:=gS' gk;obtain⟨b,o,rfl,bh⟩:=an.out.at_ E;have G:=ah (Ba (iR T) l k E);have ao:=ah (Le (ng.out _ (gM' E)));have H:Hid (jR T k (l.drop k)=if dZ T l[k]=0 then(k:Int)else jR T (k+1) (l.drop (k+1))):=ah (by rw[drop_at l k E];rfl);have g:Hid (iR T l[k]=if dZ T l[k]=3 then qV T l[k]else if dZ T l[k]=1\/dZ T l[k]=4 then[l[k]]else[]):=rfl;generalize l[k]=x at*;have bi:=z0' k;have bj:(k:Int)<(l.length:Int):=(by omega);have bk:l.length<=4096:=HL.out;go_wp2_with fail;refine(Gl t T x wr (HT.out.aC P.out) (nD HW.out)).mono ?_;rintro e Q⟨rfl,m⟩;have p:=ah (a0.out.trans' m);have dJ:=ah (Own.ext C.out m);have iq:∀k:Nat,Q.cell? ⟨w.heap.size,k,none⟩=t.v.cells[k]? :=aQ (P.out.trans' m);have mg:=ah (P.out.trans' m);clear m X C;generalize dZ T x=s at*;by_cases h0:s=0
   .subst h0;have a3:=ah (HD.out.symm.trans (H.out.trans (pP' rfl)));have hb:=K.out.trans' mg.out;clear H g;go_wp2;go_ret3;have a4:jR T 0 l≠ -1:=(by rw[a3.out];omega);have a5:jS T l=16:=(by rw[Y.out,pP' a4]);exact⟨none,0,0,by rw[a5,Z.out,pP' a4,a3.out];rfl,hb,by rw[lQ,nN' (by rw[a5];decide)];exact aF.nil_ _⟩
   .have I:Hid (jR T ((k+1:Nat):Int) (l.drop (k+1))=jR T 0 l):=ah (by
     have N:=H.out;rw[nN' h0]at N
     exact(N.symm.trans HD.out))
    have q0:(s==0)=false:=(by rw[aO];exact h0);clear H HD h0;by_cases J:s=3
    .have q:Hid (iR T x=qV T x):=ah (by rw[g.out,pP' J]);have q3:(s==3)=true:=(by rw[bq'];exact J);have q1:(s==1)=false:=bF';have q4:(s==4)=false:=bF';clear J g;go_wp2_with fail;refine(aRV t T x Q (HT.out.aC mg.out) HW.out ao.out).mono ?_;rintro e w4⟨A3,n3,c3,rfl,O,r⟩;have av:=O.len.1;have aw:=NG HW.out x;obtain⟨R,S,w5,a,d,f,jW⟩:=fZ (Own.ext dJ.out r) O (by have:=a1.out;have:=D.out;omega) (p.out.trans' r).b.size;have U:Hid (aK w5 L.heap.size R (i+n3) S ((l.take (k+1)).flatMap (iR T))):=ah (by rw[G.out,q.out];exact d);have aZ:Hid (Ext L w5):=ah (dW (p.out.trans' r) f (λk hk=>(Own.lt (Own.ext dJ.out r) k hk).1));clear d f jW O r av aw iq;go_wp2_with(at_builtin;refine dG rfl _ _ _ rfl _ _ rfl rfl _ _ a ?_);clear a;go_roundg F;exact⟨k+1,R,i+n3,S,by omega,by go_num,rfl,U,aZ,I⟩;omega
    .have q3:(s==3)=false:=(by rw[aO];exact J);by_cases y:s=1\/s=4
     .have q:Hid (iR T x=[x]):=ah (by rw[g.out,nN' J,pP' y]);have az:(s==1)=true\/((s==1)=false/\(s==4)=true):=by
       rcases y with h|h
       .exact .inl (by rw[bq'];exact h)
       .exact .inr ⟨by rw[aO];omega,by rw[bq'];exact h⟩
      have z:Ext Q (Q.alloc (.cells #[.int .i64 x] 3)):=eR'.aB _;obtain⟨R,S,w5,a,d,f,jW⟩:=fZ (Own.ext dJ.out z) (iI Q x) (by have:=a1.out;have:=D.out;omega) (p.out.trans' z).b.size;have U:Hid (aK w5 L.heap.size R (i+1) S ((l.take (k+1)).flatMap (iR T))):=ah (by rw[G.out,q.out];exact d);have aZ:Hid (Ext L w5):=ah (dW (p.out.trans' z) f (λk hk=>(Own.lt (Own.ext dJ.out z) k hk).1));clear d f jW z iq y J g;rcases az with q1|⟨q1,q4⟩
      .go_wp2_with(at_builtin;refine dG rfl _ _ _ rfl _ _ rfl rfl _ _ a ?_);clear a;go_roundg F;exact⟨k+1,R,i+1,S,by omega,by go_num,rfl,U,aZ,I⟩;omega
      .go_wp2_with(at_builtin;refine dG rfl _ _ _ rfl _ _ rfl rfl _ _ a ?_);clear a;go_roundg F;exact⟨k+1,R,i+1,S,by omega,by go_num,rfl,U,aZ,I⟩;omega
     .have q:Hid (iR T x=[]):=ah (by rw[g.out,nN' J,nN' y]);have q1:(s==1)=false:=bF';have q4:(s==4)=false:=bF';have U:Hid (aK Q L.heap.size A2 i c2 ((l.take (k+1)).flatMap (iR T))):=ah (by rw[G.out,q.out,List.append_nil];exact dJ.out);clear y J g iq;go_wp2;go_roundg F;exact⟨k+1,A2,i,c2,by omega,by go_num,rfl,U,p,I⟩;omega
  .have HE:Hid ((l.take k).flatMap (iR T)=l.flatMap (iR T)):=ah (by rw[tL' (by omega)]);have a7:Hid (jR T 0 l= -1):=ah (by rw[<- HD.out,List.drop_of_length_le (by omega)];rfl);have a8:=K.out.trans' P.out;have a9:Hid (qA T l=0):=ah (by rw[Z.out,nN' (by rw[a7.out];simp)]);have aa:=ah (Y.out.trans (nN' (by rw[a7.out];simp)));clear X;by_cases V:4096<((l.flatMap (iR T)).length:Int)
   .have G:Hid (jS T l=7):=ah (by rw[aa.out,pP' V]);have hd:decide (4096<(i:Int))=true:=(by rw[au,D.out,HE.out];exact V);have aL:decide (4096<i)=true:=(by rw[au];rw[au]at hd;omega);clear V;go_wp2;go_ret3;exact⟨none,0,0,by rw[G.out,a9.out];rfl,a8,by rw[lQ,G.out,nN' (by decide)];exact aF.nil_ _⟩
   .have G:Hid (jS T l=0):=ah (by rw[aa.out,nN' V]);have hd:decide (4096<(i:Int))=false:=(by rw[aA,D.out,HE.out];exact V);have aL:decide (4096<i)=false:=(by rw[aA];rw[aA]at hd;omega);have aM:Hid (aF wr ⟨A2,i,c2⟩ (l.flatMap (iR T))):=ah (by rw[<- HE.out];exact aK.ints C.out);clear V;go_wp2;go_ret3;exact⟨A2,i,c2,by rw[G.out,a9.out];rfl,a8,by rw[lQ,G.out,pP' rfl];exact aM.out⟩
 .have al:(aX T l != 0)=true:=bN' j
  have HZ:Hid (jS T l=aX T l/\jS T l≠0/\qA T l=0):=ah (by
   have N:jS T l=aX T l:=by rw[jS,pP' j]
   exact⟨N,by rw[N];exact j,by rw[qA,pP' j]⟩)
  have hb:=K.out.trans' W.out;clear j X;go_wp2;go_ret3;exact⟨none,0,0,by rw[HZ.out.1,HZ.out.2.2];rfl,hb,by rw[lQ,nN' HZ.out.2.1];exact aF.nil_ _⟩
def aRj(T:aj)(wb:World)(l:List Int)(gh:Nat)(s9 s23:Value)(wx:World):Prop:=
 ∃(k:Nat)(A:Option Addr)(n c:Nat),k+gh=l.length/\s23=.int .i64 k/\s9=.slice A n c/\Hid (aK wx wb.heap.size A n c ((l.take k).flatMap (iR T)))/\Hid (Ext wb wx)/\Hid (jR T k (l.drop k)=jR T 0 l)
theorem aPb(ht:aW w t T)(hi:aF w ⟨A,n,c⟩ l):
 Calls prog 57 #[t.v,.slice A n c] w (WG w T l):=by
 have B:=dw w t;have K:=ah B;have HT:=ah (ht.aC B);have HI:=ah (hi.ext B);have hn:=hi.len.1;subst hn;clear ht hi B;go_enter func57,ntmps57;go_wp2_with fail;refine(tK t T l A _ c _ HT.out HI.out).mono ?_;rintro e L⟨rfl,M⟩;have W:=ah M;have X:∀k:Nat,L.cell? ⟨w.heap.size,k,none⟩=t.v.cells[k]? :=aQ M;clear M;by_cases j:aX T l=0
 .obtain⟨hw,hl⟩:=rD j;have al:(aX T l != 0)=false:=bZ' j;have Y:Hid (jS T l=if jR T 0 l≠ -1 then 16 else if 4096<((l.flatMap (iR T)).length:Int)then 7 else 0):=ah (by rw[jS,nN' (by rw[j];simp)]);have Z:Hid (qA T l=if jR T 0 l≠ -1 then jR T 0 l else 0):=ah (by rw[qA,nN' (by rw[j];simp)]);have HW:=ah hw;have HL:=ah hl;have ng:=ah (Lj j);clear j hw hl X;go_wp2;go_loopg[8,19] l.length (λgh s9 am wx=>aRj T L l gh s9 am wx);exact⟨0,none,0,0,by omega,rfl,rfl,ah (Own.nil_ _ _ _ _),ah eR',ah rfl⟩;obtain⟨k,A2,i,c2,bd,rfl,rfl,C,a0,HD⟩:=hrel;have P:=ah (W.out.trans' a0.out);have X:∀k:Nat,wr.cell? ⟨w.heap.size,k,none⟩=t.v.cells[k]? :=aQ P.out;have an:=ah (HI.out.ext P.out)
  have a1:Hid (((l.take k).flatMap (iR T)).length<=18*4096):=ah (by
   have N:=F9 (Vg HW.out) (l.take k);rw[List.length_take]at N;have:=HL.out
   omega)
  have D:=ah (aK.ints C.out).len.1;by_cases E:k<l.length
  .obtain⟨F,rfl⟩:=gS' gk;obtain⟨b,o,rfl,bh⟩:=an.out.at_ E;have G:=ah (Ba (iR T) l k E);have ao:=ah (Le (ng.out _ (gM' E)));have H:Hid (jR T k (l.drop k)=if dZ T l[k]=0 then(k:Int)else jR T (k+1) (l.drop (k+1))):=ah (by rw[drop_at l k E];rfl);have g:Hid (iR T l[k]=if dZ T l[k]=3 then qV T l[k]else if dZ T l[k]=1\/dZ T l[k]=4 then[l[k]]else[]):=rfl;generalize l[k]=x at*;have bi:=z0' k;have bj:(k:Int)<(l.length:Int):=(by omega);have bk:l.length<=4096:=HL.out;go_wp2_with fail;refine(FU t T x wr (HT.out.aC P.out) (KR (Wh HW.out))).mono ?_;rintro e Q⟨rfl,m⟩;have p:=ah (a0.out.trans' m);have dJ:=ah (Own.ext C.out m);have iq:∀k:Nat,Q.cell? ⟨w.heap.size,k,none⟩=t.v.cells[k]? :=aQ (P.out.trans' m);have mg:=ah (P.out.trans' m);clear m X C;generalize dZ T x=s at*;by_cases h0:s=0
   .subst h0;have a3:=ah (HD.out.symm.trans (H.out.trans (pP' rfl)));have hb:=K.out.trans' mg.out;clear H g;go_wp2;go_ret3;have a4:jR T 0 l≠ -1:=(by rw[a3.out];omega);have a5:jS T l=16:=(by rw[Y.out,pP' a4]);exact⟨none,0,0,by rw[a5,Z.out,pP' a4,a3.out];rfl,hb,by rw[lQ,nN' (by rw[a5];decide)];exact aF.nil_ _⟩
   .have I:Hid (jR T ((k+1:Nat):Int) (l.drop (k+1))=jR T 0 l):=ah (by
     have N:=H.out;rw[nN' h0]at N
     exact(N.symm.trans HD.out))
    have q0:(s==0)=false:=(by rw[aO];exact h0);clear H HD h0;by_cases J:s=3
    .have q:Hid (iR T x=qV T x):=ah (by rw[g.out,pP' J]);have q3:(s==3)=true:=(by rw[bq'];exact J);have q1:(s==1)=false:=bF';have q4:(s==4)=false:=bF';clear J g;go_wp2_with fail;refine(aRH t T x Q (HT.out.aC mg.out) HW.out ao.out).mono ?_;rintro e w4⟨A3,n3,c3,rfl,O,r⟩;have av:=O.len.1;have aw:=NG HW.out x;obtain⟨R,S,w5,a,d,f,jW⟩:=fZ (Own.ext dJ.out r) O (by have:=a1.out;have:=D.out;omega) (p.out.trans' r).b.size;have U:Hid (aK w5 L.heap.size R (i+n3) S ((l.take (k+1)).flatMap (iR T))):=ah (by rw[G.out,q.out];exact d);have aZ:Hid (Ext L w5):=ah (dW (p.out.trans' r) f (λk hk=>(Own.lt (Own.ext dJ.out r) k hk).1));clear d f jW O r av aw iq;go_wp2_with(at_builtin;refine dG rfl _ _ _ rfl _ _ rfl rfl _ _ a ?_);clear a;go_roundg F;exact⟨k+1,R,i+n3,S,by omega,by go_num,rfl,U,aZ,I⟩;omega
    .have q3:(s==3)=false:=(by rw[aO];exact J);by_cases y:s=1\/s=4
     .have q:Hid (iR T x=[x]):=ah (by rw[g.out,nN' J,pP' y]);have az:(s==1)=true\/((s==1)=false/\(s==4)=true):=by
       rcases y with h|h
       .exact .inl (by rw[bq'];exact h)
       .exact .inr ⟨by rw[aO];omega,by rw[bq'];exact h⟩
      have z:Ext Q (Q.alloc (.cells #[.int .i64 x] 3)):=eR'.aB _;obtain⟨R,S,w5,a,d,f,jW⟩:=fZ (Own.ext dJ.out z) (iI Q x) (by have:=a1.out;have:=D.out;omega) (p.out.trans' z).b.size;have U:Hid (aK w5 L.heap.size R (i+1) S ((l.take (k+1)).flatMap (iR T))):=ah (by rw[G.out,q.out];exact d);have aZ:Hid (Ext L w5):=ah (dW (p.out.trans' z) f (λk hk=>(Own.lt (Own.ext dJ.out z) k hk).1));clear d f jW z iq y J g;rcases az with q1|⟨q1,q4⟩
      .go_wp2_with(at_builtin;refine dG rfl _ _ _ rfl _ _ rfl rfl _ _ a ?_);clear a;go_roundg F;exact⟨k+1,R,i+1,S,by omega,by go_num,rfl,U,aZ,I⟩;omega
      .go_wp2_with(at_builtin;refine dG rfl _ _ _ rfl _ _ rfl rfl _ _ a ?_);clear a;go_roundg F;exact⟨k+1,R,i+1,S,by omega,by go_num,rfl,U,aZ,I⟩;omega
     .have q:Hid (iR T x=[]):=ah (by rw[g.out,nN' J,nN' y]);have q1:(s==1)=false:=bF';have q4:(s==4)=false:=bF';have U:Hid (aK Q L.heap.size A2 i c2 ((l.take (k+1)).flatMap (iR T))):=ah (by rw[G.out,q.out,List.append_nil];exact dJ.out);clear y J g iq;go_wp2;go_roundg F;exact⟨k+1,A2,i,c2,by omega,by go_num,rfl,U,p,I⟩;omega
  .have HE:Hid ((l.take k).flatMap (iR T)=l.flatMap (iR T)):=ah (by rw[tL' (by omega)]);have a7:Hid (jR T 0 l= -1):=ah (by rw[<- HD.out,List.drop_of_length_le (by omega)];rfl);have a8:=K.out.trans' P.out;have a9:Hid (qA T l=0):=ah (by rw[Z.out,nN' (by rw[a7.out];simp)]);have aa:=ah (Y.out.trans (nN' (by rw[a7.out];simp)));clear X;by_cases V:4096<((l.flatMap (iR T)).length:Int)
   .have G:Hid (jS T l=7):=ah (by rw[aa.out,pP' V]);have hd:decide (4096<(i:Int))=true:=(by rw[au,D.out,HE.out];exact V);have aL:decide (4096<i)=true:=(by rw[au];rw[au]at hd;omega);clear V;go_wp2;go_ret3;exact⟨none,0,0,by rw[G.out,a9.out];rfl,a8,by rw[lQ,G.out,nN' (by decide)];exact aF.nil_ _⟩
   .have G:Hid (jS T l=0):=ah (by rw[aa.out,nN' V]);have hd:decide (4096<(i:Int))=false:=(by rw[aA,D.out,HE.out];exact V);have aL:decide (4096<i)=false:=(by rw[aA];rw[aA]at hd;omega);have aM:Hid (aF wr ⟨A2,i,c2⟩ (l.flatMap (iR T))):=ah (by rw[<- HE.out];exact aK.ints C.out);clear V;go_wp2;go_ret3;exact⟨A2,i,c2,by rw[G.out,a9.out];rfl,a8,by rw[lQ,G.out,pP' rfl];exact aM.out⟩
 .have al:(aX T l != 0)=true:=bN' j
  have HZ:Hid (jS T l=aX T l/\jS T l≠0/\qA T l=0):=ah (by
   have N:jS T l=aX T l:=by rw[jS,pP' j]
   exact⟨N,by rw[N];exact j,by rw[qA,pP' j]⟩)
  have hb:=K.out.trans' W.out;clear j X;go_wp2;go_ret3;exact⟨none,0,0,by rw[HZ.out.1,HZ.out.2.2];rfl,hb,by rw[lQ,nN' HZ.out.2.1];exact aF.nil_ _⟩
def P8(w:World)(l:List Int)(e:Ending)(w':World):Prop:=∃A n c,e=.returned (.slice A n c)/\aF w' ⟨A,n,c⟩ l/\Ext w w'
def kV(T:aj)(c:Int):Bool:=c==46||(dZ T c != 1&&dZ T c != 4)
def iy(T:aj)(l:List Int):Int:=
 if aX T l≠0 then aX T l else if l.length=0 then 10 else if qI T l=false then 13 else if qc l=false then 14 else if je T (l.getD 0 0)=2 then 15
 else if l.any (kV T)=true then 16 else if(fK T l).2≠0 then(fK T l).2 else(kF T l).2
def TD(w1:World)(T:aj)(l:List Int)(gh:Nat)(s:Value)(wx:World):Prop:=
 ∃k:Nat,k+gh=l.length/\s=.int .i64 k/\Hid (Ext w1 wx)/\Hid ((l.take k).any (kV T)=false)
theorem QI{f:Int->Bool}{l:List Int}{k:Nat}(h:k<l.length):(l.take (k+1)).any f=((l.take k).any f||f l[k]):=by
 rw[tS' h,List.any_append];simp
theorem Rq{f:Int->Bool}{l:List Int}{k:Nat}(h:k<l.length)(a:f l[k]=true):l.any f=true:=List.any_eq_true.2 ⟨_,gM' h,a⟩
theorem XO(ht:aW w t T)(hi:aF w ⟨A,n,c⟩ l):
 cE' 160 #[t.v,.slice A n c] w (.int .i64 (iy T l)):=by
 have I:=dw w t;have S:=ah (ht.aC I);have J:=ah (hi.ext I);have hn:=hi.len.1;subst hn;obtain⟨V,hV⟩:=eX' (iy T l);have HV:=ah hV;rw[<- hV];clear ht hi hV;go_enter func160,ntmps160;go_wp2_with fail;refine(yB t T l A _ c _ S.out J.out).mono ?_;rintro e w1⟨v,rfl,K,_⟩;have a:=ah K;have U:Hid (∀w',Ext w1 w'->∀k:Nat,w'.cell? ⟨w.heap.size,k,none⟩=t.v.cells[k]?):=ah (λw' h=>aQ (a.out.trans' h));have d:=ah (I.trans' K);clear K;by_cases y:aX T l=0
 case neg=>
  have i:Hid (V=aX T l):=ah (by rw[HV.out,iy,pP' y]);have e1:(aX T l != 0)=true:=bN' y;generalize aX T l=oe at*;have g:=d.out;clear y HV;go_wp2;go_ret;exact⟨aV i.out.symm,g⟩
 have HZ:=ah y;have Y:=ah (rD y).1;have b1:=(rD y).2
 have z:Hid (V=if l.length=0 then 10 else if qI T l=false then 13 else if qc l=false then 14 else if je T (l.getD 0 0)=2 then 15
 else if l.any (kV T)=true then 16 else if(fK T l).2≠0 then(fK T l).2 else(kF T l).2):=ah (by rw[HV.out,iy,nN' (by rw[y];simp)])
 rw[y];clear y HV;have lZ:=U.out w1 eR';by_cases W:l.length=0
 .have i:Hid (V=10):=ah (by rw[z.out,pP' W]);have e1:(l.length==0)=true:=by rw[bq'];exact W
  have e2:((l.length:Int)==0)=true:=by rw[bq'];omega
  have g:=d.out;clear z W;go_wp2;go_ret;exact⟨aV i.out.symm,g⟩
 have e1:(l.length==0)=false:=by rw[aO];exact W
 have e2:((l.length:Int)==0)=false:=bF'
 have l7:Hid (V=if qI T l=false then 13 else if qc l=false then 14 else if je T (l.getD 0 0)=2 then 15
 else if l.any (kV T)=true then 16 else if(fK T l).2≠0 then(fK T l).2 else(kF T l).2):=ah (by rw[z.out,nN' W])
 clear z;have Z:0<l.length:=by omega
 clear W;go_wp2_with fail;refine(zA' T t l A _ c _ (S.out.aC a.out) (J.out.ext a.out)).mono ?_;rintro e w2⟨rfl,a0⟩;have B:=ah a0;have gB:=U.out w2 B.out;clear a0 lZ;cases C:qI T l
 .have i:Hid (V=13):=ah (by rw[l7.out,pP' C]);have g:=d.out.trans' B.out;clear l7 C;go_wp2;go_ret;exact⟨aV i.out.symm,g⟩
 have D:Hid (V=if qc l=false then 14 else if je T (l.getD 0 0)=2 then 15
 else if l.any (kV T)=true then 16 else if(fK T l).2≠0 then(fK T l).2 else(kF T l).2):=ah (by rw[l7.out,nN' (by rw[C];simp)])
 clear l7 C;go_wp2_with fail;refine(Y5 l A _ c _ (J.out.ext (a.out.trans' B.out))).mono ?_;rintro e w3⟨rfl,a1⟩;have j:=ah (B.out.trans' a1);have iq:=U.out w3 j.out;clear a1 gB;cases E:qc l
 .have i:Hid (V=14):=ah (by rw[D.out,pP' E]);have g:=d.out.trans' j.out;clear D E;go_wp2;go_ret;exact⟨aV i.out.symm,g⟩
 have m:Hid (V=if je T (l.getD 0 0)=2 then 15 else if l.any (kV T)=true then 16 else if(fK T l).2≠0 then(fK T l).2 else(kF T l).2):=ah (by rw[D.out,nN' (by rw[E];simp)]);clear D E;obtain⟨b,o,hA,L⟩:=J.out.at_ Z;subst hA;rw[Nat.add_zero]at L;have a2:Hid (l.getD 0 0=l[0]):=ah (getD_lt l 0 0 Z);have a3:=bg (bD (a.out.trans' j.out)) L;rw[a2.out]at m;clear a2 L;generalize l[0]=x0 at*;have b8:(0:Int)<(l.length:Int):=by omega
 have M:Hid (∀w',Ext w3 w'->cE' 232 #[t.v,.int .i64 x0] w' (.int .i64 (je T x0))):=ah (λw' h=>Zd t T x0 w' (S.out.aC (a.out.trans' (j.out.trans' h))) (nD Y.out));obtain⟨q,hq⟩:=eY' (je T x0);rw[hq]at M m;clear hq iq;have rT:∀yy:ak w3,∀k:Nat,yy.w.cell? ⟨w.heap.size,k,none⟩=t.v.cells[k]? :=λyy=>U.out _ (j.out.trans' yy.h)
 have rX:∀yy:ak w3,yy.w.cell? ⟨b,o,none⟩=some (.int .i64 x0):=cZ a3;go_wp2_with fail;refine rX' ?_
 repeat(go_big_quiet_step((go_at_call 232;with_reducible exact aS (M.out _ (ak.h _)))))
 refine wpQuiet_nil ?_;rintro _⟨yw,rfl⟩;clear rT rX a3 M;obtain⟨w4,N⟩:=eX' yw.w;have a5:Hid (Ext w1 w4):=ah (by rw[N];exact j.out.trans' yw.h);rw[<- N];clear N;by_cases p:q=2
 .have i:Hid (V=15):=ah (by rw[m.out,pP' p]);have e3:(q==2)=true:=by rw[bq'];exact p
  have g:=d.out.trans' a5.out;clear m p;go_wp2;go_ret;exact⟨aV i.out.symm,g⟩
 have e3:(q==2)=false:=by rw[aO];exact p
 have F:Hid (V=if l.any (kV T)=true then 16 else if(fK T l).2≠0 then(fK T l).2 else(kF T l).2):=ah (by rw[m.out,nN' p]);clear m p;rw[e3];go_wp2;go_loopg[41] l.length (λgh s wx=>TD w1 T l gh s wx);exact⟨0,by omega,rfl,a5,ah rfl⟩;obtain⟨k,ar,rfl,O,HN⟩:=hrel;have rT:=U.out wr O.out;by_cases G:k<l.length
 .obtain⟨a6,rfl⟩:=gS' gk;obtain⟨b',o',P,av⟩:=(J.out.ext (a.out.trans' O.out)).at_ G;injection P with P;injection P with e5 e6;subst e5 e6;have a7:=ah (QI (f:=kV T) G);have a8:=ah (Rq (f:=kV T) G);generalize l[k]=x at*;have bh:=z0' k;have bi:(k:Int)<(l.length:Int):=by omega
  have Q:=ah (Gl t T x wr (S.out.aC (a.out.trans' O.out)) (nD Y.out));have r:Hid (kV T x=(x==46||(dZ T x != 1&&dZ T x != 4))):=rfl;obtain⟨s,hs⟩:=eY' (dZ T x);rw[hs]at Q r;clear hs;go_wp2_with fail;refine Q.out.mono ?_;rintro e w5⟨rfl,a9⟩;have aZ:=ah (O.out.trans' a9);clear a9 rT av Q;cases d1:(x==46)
  case true=>
   have i:Hid (V=16):=ah (by rw[F.out,pP' (a8.out (by rw[r.out,d1];rfl))]);have g:=d.out.trans' aZ.out;go_wp2;go_ret;exact⟨aV i.out.symm,g⟩
  cases d2:(s != 1)
  case false=>
   have R:Hid (kV T x=false):=ah (by rw[r.out,d1,d2];rfl);go_wp2;go_roundg a6;exact⟨k+1,by omega,by go_num,aZ,ah (by rw[a7.out,HN.out,R.out];rfl)⟩;omega
  cases d3:(s != 4)
  case false=>
   have R:Hid (kV T x=false):=ah (by rw[r.out,d1,d2,d3];rfl);go_wp2;go_roundg a6;exact⟨k+1,by omega,by go_num,aZ,ah (by rw[a7.out,HN.out,R.out];rfl)⟩;omega
  have i:Hid (V=16):=ah (by rw[F.out,pP' (a8.out (by rw[r.out,d1,d2,d3];rfl))]);have g:=d.out.trans' aZ.out;go_wp2;go_ret;exact⟨aV i.out.symm,g⟩
 .have H:Hid (V=if(fK T l).2≠0 then(fK T l).2 else(kF T l).2):=ah (by
   have h1:=HN.out;rw[tL' (by omega)]at h1
   rw[F.out,nN' (by rw[h1];simp)])
  clear HN F;go_wp2_with fail;refine(Y3 t T l _ _ c _ (S.out.aC (a.out.trans' O.out)) (J.out.ext (a.out.trans' O.out))).mono ?_;rintro e w6⟨rfl,aa⟩;have iC:=ah (O.out.trans' aa);have Gt:=U.out w6 iC.out;clear aa rT ar G;generalize(fK T l).1=j1 at*;by_cases X:(fK T l).2=0
  .have ax:Hid (V=(kF T l).2):=ah (by rw[H.out,nN' (by rw[X];simp)]);rw[X];clear H X;go_wp2_with fail;refine(nJ' t T l _ _ c _ (S.out.aC (a.out.trans' iC.out)) (J.out.ext (a.out.trans' iC.out))).mono ?_;rintro e w7⟨rfl,ac⟩;have g:=d.out.trans' (iC.out.trans' ac);clear ac Gt;go_wp2;go_ret;exact⟨aV ax.out.symm,g⟩
  .have i:Hid (V=(fK T l).2):=ah (by rw[H.out,pP' X]);have e4:((fK T l).2 != 0)=true:=bN' X;generalize(fK T l).2=j2 at*;have g:=d.out.trans' iC.out;clear H X;go_wp2;go_ret;exact⟨aV i.out.symm,g⟩
theorem OU(ht:aW w t T)(hi:aF w ⟨A,n,c⟩ l):
 cE' 63 #[t.v,.slice A n c] w (.int .i64 (iy T l)):=by
 have I:=dw w t;have S:=ah (ht.aC I);have J:=ah (hi.ext I);have hn:=hi.len.1;subst hn;obtain⟨V,hV⟩:=eX' (iy T l);have HV:=ah hV;rw[<- hV];clear ht hi hV;go_enter func63,ntmps63;go_wp2_with fail;refine(tK t T l A _ c _ S.out J.out).mono ?_;rintro e w1⟨rfl,K⟩;have a:=ah K;have U:Hid (∀w',Ext w1 w'->∀k:Nat,w'.cell? ⟨w.heap.size,k,none⟩=t.v.cells[k]?):=ah (λw' h=>aQ (a.out.trans' h));have d:=ah (I.trans' K);clear K;by_cases y:aX T l=0
 case neg=>
  have i:Hid (V=aX T l):=ah (by rw[HV.out,iy,pP' y]);have e1:(aX T l != 0)=true:=bN' y;generalize aX T l=oe at*;have g:=d.out;clear y HV;go_wp2;go_ret;exact⟨aV i.out.symm,g⟩
 have HZ:=ah y;have Y:=ah (rD y).1;have b1:=(rD y).2
 have z:Hid (V=if l.length=0 then 10 else if qI T l=false then 13 else if qc l=false then 14 else if je T (l.getD 0 0)=2 then 15
 else if l.any (kV T)=true then 16 else if(fK T l).2≠0 then(fK T l).2 else(kF T l).2):=ah (by rw[HV.out,iy,nN' (by rw[y];simp)])
 rw[y];clear y HV;have lZ:=U.out w1 eR';by_cases W:l.length=0
 .have i:Hid (V=10):=ah (by rw[z.out,pP' W]);have e1:(l.length==0)=true:=by rw[bq'];exact W
  have e2:((l.length:Int)==0)=true:=by rw[bq'];omega
  have g:=d.out;clear z W;go_wp2;go_ret;exact⟨aV i.out.symm,g⟩
 have e1:(l.length==0)=false:=by rw[aO];exact W
 have e2:((l.length:Int)==0)=false:=bF'
 have l7:Hid (V=if qI T l=false then 13 else if qc l=false then 14 else if je T (l.getD 0 0)=2 then 15
 else if l.any (kV T)=true then 16 else if(fK T l).2≠0 then(fK T l).2 else(kF T l).2):=ah (by rw[z.out,nN' W])
 clear z;have Z:0<l.length:=by omega
 clear W;go_wp2_with fail;refine(Yj T t l A _ c _ (S.out.aC a.out) (J.out.ext a.out)).mono ?_;rintro e w2⟨rfl,a0⟩;have B:=ah a0;have gB:=U.out w2 B.out;clear a0 lZ;cases C:qI T l
 .have i:Hid (V=13):=ah (by rw[l7.out,pP' C]);have g:=d.out.trans' B.out;clear l7 C;go_wp2;go_ret;exact⟨aV i.out.symm,g⟩
 have D:Hid (V=if qc l=false then 14 else if je T (l.getD 0 0)=2 then 15
 else if l.any (kV T)=true then 16 else if(fK T l).2≠0 then(fK T l).2 else(kF T l).2):=ah (by rw[l7.out,nN' (by rw[C];simp)])
 clear l7 C;go_wp2_with fail;refine(Ya l A _ c _ (J.out.ext (a.out.trans' B.out))).mono ?_;rintro e w3⟨rfl,a1⟩;have j:=ah (B.out.trans' a1);have iq:=U.out w3 j.out;clear a1 gB;cases E:qc l
 .have i:Hid (V=14):=ah (by rw[D.out,pP' E]);have g:=d.out.trans' j.out;clear D E;go_wp2;go_ret;exact⟨aV i.out.symm,g⟩
 have m:Hid (V=if je T (l.getD 0 0)=2 then 15 else if l.any (kV T)=true then 16 else if(fK T l).2≠0 then(fK T l).2 else(kF T l).2):=ah (by rw[D.out,nN' (by rw[E];simp)]);clear D E;obtain⟨b,o,hA,L⟩:=J.out.at_ Z;subst hA;rw[Nat.add_zero]at L;have a2:Hid (l.getD 0 0=l[0]):=ah (getD_lt l 0 0 Z);have a3:=bg (bD (a.out.trans' j.out)) L;rw[a2.out]at m;clear a2 L;generalize l[0]=x0 at*;have b8:(0:Int)<(l.length:Int):=by omega
 have M:Hid (∀w',Ext w3 w'->cE' 124 #[t.v,.int .i64 x0] w' (.int .i64 (je T x0))):=ah (λw' h=>Yi t T x0 w' (S.out.aC (a.out.trans' (j.out.trans' h))) (a8y (G9 Y.out)));obtain⟨q,hq⟩:=eY' (je T x0);rw[hq]at M m;clear hq iq;have rT:∀yy:ak w3,∀k:Nat,yy.w.cell? ⟨w.heap.size,k,none⟩=t.v.cells[k]? :=λyy=>U.out _ (j.out.trans' yy.h)
 have rX:∀yy:ak w3,yy.w.cell? ⟨b,o,none⟩=some (.int .i64 x0):=cZ a3;go_wp2_with fail;refine rX' ?_
 repeat(go_big_quiet_step((go_at_call 124;with_reducible exact aS (M.out _ (ak.h _)))))
 refine wpQuiet_nil ?_;rintro _⟨yw,rfl⟩;clear rT rX a3 M;obtain⟨w4,N⟩:=eX' yw.w;have a5:Hid (Ext w1 w4):=ah (by rw[N];exact j.out.trans' yw.h);rw[<- N];clear N;by_cases p:q=2
 .have i:Hid (V=15):=ah (by rw[m.out,pP' p]);have e3:(q==2)=true:=by rw[bq'];exact p
  have g:=d.out.trans' a5.out;clear m p;go_wp2;go_ret;exact⟨aV i.out.symm,g⟩
 have e3:(q==2)=false:=by rw[aO];exact p
 have F:Hid (V=if l.any (kV T)=true then 16 else if(fK T l).2≠0 then(fK T l).2 else(kF T l).2):=ah (by rw[m.out,nN' p]);clear m p;rw[e3];go_wp2;go_loopg[41] l.length (λgh s wx=>TD w1 T l gh s wx);exact⟨0,by omega,rfl,a5,ah rfl⟩;obtain⟨k,ar,rfl,O,HN⟩:=hrel;have rT:=U.out wr O.out;by_cases G:k<l.length
 .obtain⟨a6,rfl⟩:=gS' gk;obtain⟨b',o',P,av⟩:=(J.out.ext (a.out.trans' O.out)).at_ G;injection P with P;injection P with e5 e6;subst e5 e6;have a7:=ah (QI (f:=kV T) G);have a8:=ah (Rq (f:=kV T) G);generalize l[k]=x at*;have bh:=z0' k;have bi:(k:Int)<(l.length:Int):=by omega
  have Q:=ah (FU t T x wr (S.out.aC (a.out.trans' O.out)) (KR (G9 Y.out)));have r:Hid (kV T x=(x==46||(dZ T x != 1&&dZ T x != 4))):=rfl;obtain⟨s,hs⟩:=eY' (dZ T x);rw[hs]at Q r;clear hs;go_wp2_with fail;refine Q.out.mono ?_;rintro e w5⟨rfl,a9⟩;have aZ:=ah (O.out.trans' a9);clear a9 rT av Q;cases d1:(x==46)
  case true=>
   have i:Hid (V=16):=ah (by rw[F.out,pP' (a8.out (by rw[r.out,d1];rfl))]);have g:=d.out.trans' aZ.out;go_wp2;go_ret;exact⟨aV i.out.symm,g⟩
  cases d2:(s != 1)
  case false=>
   have R:Hid (kV T x=false):=ah (by rw[r.out,d1,d2];rfl);go_wp2;go_roundg a6;exact⟨k+1,by omega,by go_num,aZ,ah (by rw[a7.out,HN.out,R.out];rfl)⟩;omega
  cases d3:(s != 4)
  case false=>
   have R:Hid (kV T x=false):=ah (by rw[r.out,d1,d2,d3];rfl);go_wp2;go_roundg a6;exact⟨k+1,by omega,by go_num,aZ,ah (by rw[a7.out,HN.out,R.out];rfl)⟩;omega
  have i:Hid (V=16):=ah (by rw[F.out,pP' (a8.out (by rw[r.out,d1,d2,d3];rfl))]);have g:=d.out.trans' aZ.out;go_wp2;go_ret;exact⟨aV i.out.symm,g⟩
 .have H:Hid (V=if(fK T l).2≠0 then(fK T l).2 else(kF T l).2):=ah (by
   have h1:=HN.out;rw[tL' (by omega)]at h1
   rw[F.out,nN' (by rw[h1];simp)])
  clear HN F;go_wp2_with fail;refine(Yu t T l _ _ c _ (S.out.aC (a.out.trans' O.out)) (J.out.ext (a.out.trans' O.out))).mono ?_;rintro e w6⟨rfl,aa⟩;have iC:=ah (O.out.trans' aa);have Gt:=U.out w6 iC.out;clear aa rT ar G;generalize(fK T l).1=j1 at*;by_cases X:(fK T l).2=0
  .have ax:Hid (V=(kF T l).2):=ah (by rw[H.out,nN' (by rw[X];simp)]);rw[X];clear H X;go_wp2_with fail;refine(Yt t T l _ _ c _ (S.out.aC (a.out.trans' iC.out)) (J.out.ext (a.out.trans' iC.out))).mono ?_;rintro e w7⟨rfl,ac⟩;have g:=d.out.trans' (iC.out.trans' ac);clear ac Gt;go_wp2;go_ret;exact⟨aV ax.out.symm,g⟩
  .have i:Hid (V=(fK T l).2):=ah (by rw[H.out,pP' X]);have e4:((fK T l).2 != 0)=true:=bN' X;generalize(fK T l).2=j2 at*;have g:=d.out.trans' iC.out;clear H X;go_wp2;go_ret;exact⟨aV i.out.symm,g⟩
section
variable {T:aj}
structure Scl(T:aj):Prop where
 key:∀m∈T.dec,bf m.lo=true
 tgt:∀m∈T.dec,∀c∈m.to,bf c=true
end
section
variable {T:aj}
def Mks(T:aj)(l:List Int):Prop:=CS T l/\∀z∈l,aH T z≠0
theorem Mks.tail{x:Int}{r:List Int}(h:Mks T (x::r)):Mks T r:=⟨h.1.tail,λz a=>h.2 z (by simp[a])⟩
end
theorem oW'{T:aj}{l:List Int}(h:dh T=true)(d:∀c∈l,bf c=true)(f:l.length<=4096):aX T l=0:=by
 unfold aX;rw[nN' (by rw[h];simp),nN' (by omega),nN'];rw[List.any_eq_true];rintro⟨c,b,a⟩;rw[d c b]at a;simp at a
def lC(c:Int):Bool:=decide (97<=c)&&decide (c<=122)||decide (48<=c)&&decide (c<=57)
theorem P6{c:Int}(h:lC c=true):48<=c/\c<=122/\c≠46/\(97<=c\/c<=57):=by
 simp only[lC,oT',aU,au]at h;omega
def woS:List Int:=[97,98,109,110,111,114,48,120,121]
def woJ:List Int:=[769,803,945,946,1072,1488,1576,1632,7680,7681,7682,19968,44032,8204,2381]
def woV(r:List Int):Int:=if aT 2 r=0 then woS.getD (aT 9 r.tail).toNat 0 else woJ.getD (aT 15 r.tail).toNat 0
theorem aIr(r:List Int):woV r∈woS++woJ:=by
 unfold woV;split
 .have:=gJ r.tail (n:=9) (by decide);rw[getD_lt _ _ _ (by simp[woS];omega)];exact List.mem_append_left _ (gM' _)
 .have:=gJ r.tail (n:=15) (by decide);rw[getD_lt _ _ _ (by simp[woJ];omega)];exact List.mem_append_right _ (gM' _)
def TF(w0 w:World)(g:Nat)(r:List Int)(e:Ending)(w':World):Prop:=e=.returned (.int .i64 (woV r))/\Src w0 w' g r.tail.tail/\Kp [g] w w'/\Ext w0 w'
theorem Sj(q w:World)(g:Nat)(r:List Int)(P:Src q w g r)(hb:Ext q w):
 Calls prog 42 #[.pointer (some ⟨g,0,none⟩)] w (TF q w g r):=by
 have S:g<w.heap.size:=by
  obtain⟨_,_,_,_,_,_,_,T,_⟩:=P;exact World.block_lt_of_cell? w _ T
 have F:=gJ r (n:=2) (by decide);obtain⟨k,G⟩:∃k:Nat,aT 2 r=k:=⟨(aT 2 r).toNat,by omega⟩;have H:k<2:=by omega
 obtain⟨V,I⟩:=eX' (woV r);have E:Hid (V=if(k:Int)=0 then woS.getD (aT 9 r.tail).toNat 0 else woJ.getD (aT 15 r.tail).toNat 0):=ah (by rw[I,woV,G]);unfold TF;rw[<- I];have U:=ah G;have Q:=ah P;clear I G F P;go_enter func42,ntmps42;go_wp2_with fail;refine(iH q w g r 2 (by decide) (by decide) Q.out hb).mono ?_;rintro e j⟨rfl,s,J,t⟩;rw[U.out];have x:=ah s;have z:=ah J;have A:=ah t;have W:=J.size;clear s J t Q
 match k,H with
 |0,_=>
  have B:Hid (V=woS.getD (aT 9 r.tail).toNat 0):=E;have K:=gJ r.tail (n:=9) (by decide);obtain⟨v,a⟩:∃v:Nat,aT 9 r.tail=v:=⟨(aT 9 r.tail).toNat,by omega⟩;have l:v<9:=by omega
  have m:Hid (V=woS.getD v 0):=ah (by rw[B.out,a,Int.toNat_natCast]);have c:=ah a;clear E B K a;go_wp2_with fail;refine(iH q j g r.tail 9 (by decide) (by decide) x.out A.out).mono ?_;rintro e R⟨rfl,d,b,f⟩;rw[c.out];have L:=ah d;have o:=ah (z.out.trans b);have p:=ah f;clear d b f c
  match v,l with
  |0,_|1,_|2,_|3,_|4,_|5,_|6,_|7,_|8,_=>
   go_wp2;go_ret;exact⟨aV (by rw[m.out];decide+kernel),L.out,o.out,p.out⟩
  |n+9,h=>exact absurd h (by omega)
 |1,_=>
  have B:Hid (V=woJ.getD (aT 15 r.tail).toNat 0):=E;have K:=gJ r.tail (n:=15) (by decide);obtain⟨v,a⟩:∃v:Nat,aT 15 r.tail=v:=⟨(aT 15 r.tail).toNat,by omega⟩;have l:v<15:=by omega
  obtain⟨y,N⟩:=eY' (woJ.getD v 0);have m:Hid (V=y):=ah (by rw[B.out,a,Int.toNat_natCast,N]);have c:=ah a;have C:Ext j (j.alloc (.cells #[.int .i64 769,.int .i64 803,.int .i64 945,.int .i64 946,.int .i64 1072,.int .i64 1488,.int .i64 1576,.int .i64 1632,.int .i64 7680,.int .i64 7681,.int .i64 7682,.int .i64 19968,.int .i64 44032,.int .i64 8204,.int .i64 2381] 3)):=eR'.aB _;have i:(j.alloc (.cells #[.int .i64 769,.int .i64 803,.int .i64 945,.int .i64 946,.int .i64 1072,.int .i64 1488,.int .i64 1576,.int .i64 1632,.int .i64 7680,.int .i64 7681,.int .i64 7682,.int .i64 19968,.int .i64 44032,.int .i64 8204,.int .i64 2381] 3)).cell? ⟨j.heap.size,v,none⟩=some (.int .i64 y):=by
   rw[World.cell?_alloc_new,<- N]
   match v,l with
   |0,_|1,_|2,_|3,_|4,_|5,_|6,_|7,_|8,_|9,_|10,_|11,_|12,_|13,_|14,_=>rfl
   |n+15,h=>exact absurd h (by omega)
  have O:=ah C;have D:=ah i;have X:=z0' v;have Y:(v:Int)<15:=by omega
  clear E B K a N C i;go_wp2_with fail;refine(iH q _ g r.tail 15 (by decide) (by decide) (x.out.kp (M:=[]) (Kp.bY O.out) (by simp)) (A.out.trans' O.out)).mono ?_;rintro e R⟨rfl,d,b,f⟩;rw[c.out];have Z:R.cell? ⟨j.heap.size,v,none⟩=some (.int .i64 y):=(b.cell ⟨j.heap.size,v,none⟩ (by simp) (by simp;omega)).trans D.out;have L:=ah d;have o:=ah ((z.out.trans (Kp.bY O.out)).trans b);have p:=ah f;clear d b f c D;go_wp2;go_ret;exact⟨aV m.out.symm,L.out,o.out,p.out⟩
 |n+2,h=>exact absurd h (by omega)
end Go.Proofs.YtlmkgaoakcjlnaaGreatDoor
