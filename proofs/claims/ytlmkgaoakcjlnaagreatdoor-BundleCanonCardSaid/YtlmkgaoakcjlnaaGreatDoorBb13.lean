/- Part Bb13. -/
import Derived.Test.YtlmkgaoakcjlnaaGreatDoorBb12
import Derived.Deep.LoopGhost
open Go.Proofs.Tryz
namespace Go.Proofs.YtlmkgaoakcjlnaaGreatDoor
set_option maxHeartbeats 25600000
set_option maxRecDepth 100000
open Go.RowKit
def aKo(T:aj)(w1:World)(D V:List Int)(gh:Nat)(s8 s26:Value)(wx:World):Prop:=
 ∃(k:Nat)(A:Option Addr)(n c:Nat)(pre tail:List Int)(st:Option Int),k+gh=D.length/\s26= .int .i64 k/\s8= .slice A n c/\Hid (aN wx w1.heap.size A n c (pre++st.toList++tail))/\Hid (Ext w1 wx)/\Hid (V=dK T pre st tail (D.drop k))/\Hid (st=none->pre=[])/\Hid (n<=k)/\Hid (∀z∈tail,aH T z≠0)/\Hid (∀z,st=some z->aH T z=0)
def TB(w1:World)(A:Option Addr)(n c:Nat)(L:List Int)(b0:Int)(q gh:Nat)(s11:Value)(wx:World):Prop:=
 gh<=q/\((gh=0/\s11= .int .i64 b0)\/(∃r j:Nat,gh=r+1/\s11= .int .i64 j/\Hid ((j:Int)=b0+1+r)))/\Hid (aN wx w1.heap.size A n c L)/\Hid (Ext w1 wx)
theorem Nh(T:aj)(t:TV)(l:List Int)(A:Option Addr)(n c:Nat)(w:World)(ht:aV w t T)(hi:aF w ⟨A,n,c⟩ l):
 Calls prog 58 #[t.v,.slice A n c] w λe w'=>∃B m d,e= .returned (.tuple #[.slice B m d,.int .i64 (eP T l)])/\Ext w w'/\aF w' ⟨B,m,d⟩ (kU T l):=by
 have ar:=cZ w t;have b4:=ah ar;have HT:=ah (ht.aB ar);have HI:=ah (hi.ext ar);clear ht hi ar;go_enter func58,ntmps58;go_wp2_with fail;refine(Ib T t l A n c _ HT.out HI.out).mono ?_;rintro e J⟨B,m,d,rfl,aw,an⟩;have aa:=ah aw;have bT:w.heap.size<J.heap.size:=by have h':=aw.b.size;simp at h';omega
 have hm:=an.len.1;subst hm;clear aw;by_cases f:eP T l=0
 case neg=>
  have bW:(eP T l != 0)=true:=bN' f;have HZ:=ah f;have hb:=b4.out.trans' aa.out;clear f an;go_wp2;go_ret2;exact⟨none,0,0,rfl,hb,by rw[kU,if_neg HZ.out];exact aF.nil_ _⟩
 rw[kF,if_pos f]at an;have HW:=ah (zY f).1;have HC:=ah (zS (zY f).1);have bp:=ah (WA HC.out l);have b6:=ah (zY f).2;have HE:Hid (eP T l=0):=ah f;have ax:Hid (kU T l=dK T [] none [] ((mW T l).drop 0)):=ah (by rw[kU,if_pos f];rfl);have HS:=ah (mF HW.out);rw[kF,if_pos f,f];obtain⟨V,hV⟩:=eY' (kU T l);rw[hV]at ax;have br:=ah hV;clear hV;generalize mW T l=D at*;have bs:=ah an;clear an f;go_wp2;go_loopg[8,26] D.length (λgh s8 bt wx=>aKo T J D V gh s8 bt wx);exact⟨0,none,0,0,[],[],none,by omega,rfl,rfl,ah (Own.nil_ _ _ _ _),ah (Ext.refl _),ax,ah (λ_=>rfl),ah (Nat.le_refl _),ah (λz f=>by cases f),ah (λz f=>by cases f)⟩;obtain⟨k,A2,n2,c2,pre,tail,st,bX,rfl,rfl,HO,HB,HR,bv,M,a5,mg⟩:=hrel;clear ax;by_cases ay:k<D.length
 case neg=>
  have HF:Hid (V=pre++st.toList++tail):=ah (by rw[HR.out,bQ D k (by omega),NQ]);have bw:Hid (aF wr ⟨A2,n2,c2⟩ V):=ah (by rw[HF.out];exact aN.ints HO.out);have hx:=(b4.out.trans' aa.out).trans' HB.out;clear HR;go_wp2;go_ret2;exact⟨_,_,_,by rw[HE.out];rfl,hx,by rw[br.out];exact bw.out⟩
 obtain⟨a2,rfl⟩:=gS' gk;have bb:=ah (bs.out.ext HB.out);obtain⟨b,o,hA,bZ⟩:=bb.out.at_ ay;subst hA;have HD:=ah (drop_at D k ay);have bc:=ah (bp.out _ (List.getElem_mem ay));generalize D[k]=x at*;have c0:=z0' k;have c1:(k:Int)<(D.length:Int):=by omega
 have c3:D.length<=4096:=b6.out;have gY:Hid (V=dK T pre st tail (x::D.drop (k+1))):=ah (by rw[HR.out,HD.out]);have aZ:Hid (∀(w':World),Ext J w'->∀k:Nat,w'.cell? ⟨w.heap.size,k,none⟩=t.v.cells[k]?):=ah λw' bx=>aQ (aa.out.trans' bx)
 have fU:Hid (∀(c:Int)(w':World),Ext J w'->Calls prog 118 #[t.v,.int .i64 c] w' λe a6=>e= .returned (.int .i64 (aH T c))/\Ext w' a6):=ah (λc w' h=>yP t T c w' (HT.out.aB (aa.out.trans' h)));clear HR HD bb;cases st with
 |none=>
  have bz:pre=[]:=bv.out rfl;subst bz;have ao:Hid (aN wr J.heap.size A2 n2 c2 tail):=ah (by simpa using HO.out);have HN:Hid (n2=tail.length):=ah (by have:=ao.out.len;simp at this;omega);have gV:Hid (V=if aH T x=0 then dK T ([]++tail) (some x) [] (D.drop (k+1))else dK T [] none (tail++[x]) (D.drop (k+1))):=ah (gY.out.trans (Jb [] tail x _));clear HO gY;have U:=z0' n2;have c4:(n2:Int)<=4096:=by have:=M.out;have:=b6.out;omega
  go_wp2;go_loopg[11] tail.length (λgh aD wx=>TB J A2 n2 c2 tail (-1) tail.length gh aD wx)
  case atStart=>
   refine⟨Nat.le_refl _,?_,ao,HB⟩;rcases Nat.eq_zero_or_pos tail.length with h0|h0
   .exact .inl ⟨h0,by have:=HN.out;rw[h0]at this;subst this;first|rfl|go_num⟩
   .exact .inr ⟨tail.length - 1,n2 - 1,by omega,by have:=HN.out;first|(congr 1;omega)|go_num,ah (by have:=HN.out;omega)⟩
  case round=>
   obtain⟨bA,hs,K,E⟩:=hrel;rcases hs with⟨rfl,rfl⟩|⟨r,j,rfl,rfl,HJ⟩
   ·
    have hd:decide ((0:Int)<= -1)=false:=rfl;have c6:decide ((-1:Int)<0)=true:=rfl;have Z:∀q:ak wr,∀k:Nat,q.w.cell? ⟨w.heap.size,k,none⟩=t.v.cells[k]? :=λq=>aZ.out _ (E.out.trans' q.h)
    go_wp2_with fail;refine rX' ?_
    repeat(go_big_quiet_step(first|(fail)))
    refine wpQuiet_nil ?_;rintro _⟨G,rfl⟩;clear Z;obtain⟨Y,N⟩:=eX' G.w;have F:Hid (aN Y J.heap.size _ _ c2 _):=ah (by rw[N];exact Own.ext K.out G.h);have H:Hid (Ext J Y):=ah (by rw[N];exact E.out.trans' G.h);rw[<- N];clear N K E;have K:=F;have E:=H;clear F H;have Z:∀q:ak Y,∀k:Nat,q.w.cell? ⟨w.heap.size,k,none⟩=t.v.cells[k]? :=λq=>aZ.out _ (E.out.trans' q.h)
    go_wp2_with fail;refine rX' ?_
    repeat(go_big_quiet_step(first|(fail)))
    refine wpQuiet_nil ?_;rintro _⟨G,rfl⟩;clear Z;obtain⟨O,P⟩:=eX' G.w;have F:Hid (aN O J.heap.size _ _ c2 _):=ah (by rw[P];exact Own.ext K.out G.h);have H:Hid (Ext J O):=ah (by rw[P];exact E.out.trans' G.h);rw[<- P];clear P K E;by_cases L:aH T x=0
    ·
     have HF:Hid (V=dK T ([]++tail) (some x) ([]) (D.drop (k+1))):=ah (gV.out.trans (if_pos L));have W:Hid (aH T x=0):=ah L;clear L gV;have C:Ext O (O.alloc (.cells #[.int .i64 x] 3)):=(Ext.refl _).aC _;have U:=M.out;obtain⟨A5,c5,w5,I,a,i,_⟩:=fO (Own.ext F.out C) (iC O x) (by omega) (by have h':=H.out.b.size;simp;omega);have bJ:=ah a;have bC:Hid (Ext J w5):=ah (dU (H.out.trans' C) i (λk L=>(Own.lt F.out k L).1));clear a i C U;go_wp2_with(at_builtin;refine dH rfl _ _ _ rfl _ _ rfl rfl _ _ I ?_);go_roundg a2;exact⟨k+1,A5,n2+1,c5,[]++tail,[],some x,by omega,by go_num,rfl,ah (by simpa using bJ.out),bC,HF,ah (by intro h;cases h),ah (by have:=M.out;omega),ah (λz f=>by cases f),ah (λz f=>by injection f with f;subst f;exact W.out)⟩;omega
    ·
     have HF:Hid (V=dK T ([]) (none) (tail++[x]) (D.drop (k+1))):=ah (gV.out.trans (if_neg L));have W:Hid (aH T x≠0):=ah L;clear L gV;have C:Ext O (O.alloc (.cells #[.int .i64 x] 3)):=(Ext.refl _).aC _;have U:=M.out;obtain⟨A5,c5,w5,I,a,i,_⟩:=fO (Own.ext F.out C) (iC O x) (by omega) (by have h':=H.out.b.size;simp;omega);have bJ:=ah a;have bC:Hid (Ext J w5):=ah (dU (H.out.trans' C) i (λk L=>(Own.lt F.out k L).1));clear a i C U;go_wp2_with(at_builtin;refine dH rfl _ _ _ rfl _ _ rfl rfl _ _ I ?_);go_roundg a2;exact⟨k+1,A5,n2+1,c5,[],tail++[x],none,by omega,by go_num,rfl,ah (by simpa using bJ.out),bC,HF,ah (λ_=>rfl),ah (by have:=M.out;omega),ah (λz f=>by rcases List.mem_append.1 f with f|f;exact a5.out z f;rw[List.mem_singleton]at f;subst f;exact W.out),mg⟩;omega
   ·
    have hr:r<tail.length:=by omega
    have HY:Hid ((tail)[j]? =some tail[r]):=ah (by
     have hj:=HJ.out
     rw[show j=r from by omega,List.getElem?_eq_getElem hr])
    have aE:=ah (a5.out _ (List.getElem_mem hr));generalize tail[r]=y at*;have aL:=z0' j;have bB:(j:Int)<(n2:Int):=(by have:=HJ.out;have:=HN.out;omega);have hd:decide ((0:Int)<=(j:Int))=true:=decide_eq_true aL;have e1:(aH T y != 0)=true:=(by rw[bne_iff_ne];exact aE.out);obtain⟨g,rfl⟩:=Own.some_ K.out (by omega);have Z:∀q:ak wr,∀k:Nat,q.w.cell? ⟨w.heap.size,k,none⟩=t.v.cells[k]? :=λq=>aZ.out _ (E.out.trans' q.h)
    have R:∀q:ak wr,q.w.cell? ⟨g,j,none⟩=some (.int .i64 y):=dD (aN.cell K.out (j) y HY.out);go_wp2_with fail;refine rX' ?_
    repeat(go_big_quiet_step(first|(go_at_call 118;with_reducible exact aS (fU.out y _ (E.out.trans' (ak.h _))))))
    refine wpQuiet_nil ?_;rintro _⟨G,rfl⟩;clear Z R;obtain⟨Y,N⟩:=eX' G.w;have F:Hid (aN Y J.heap.size _ _ c2 _):=ah (by rw[N];exact Own.ext K.out G.h);have H:Hid (Ext J Y):=ah (by rw[N];exact E.out.trans' G.h);rw[<- N];clear N K E;go_wp2;go_roundg r
    case measure=>omega
    case rel=>
     refine⟨by omega,?_,F,H⟩;rcases Nat.eq_zero_or_pos r with h0|h0
     .exact .inl ⟨h0,by have:=HJ.out;first|(congr 1;omega)|go_num⟩
     .exact .inr ⟨r - 1,j - 1,by omega,by have:=HJ.out;first|(congr 1;omega)|go_num,ah (by have:=HJ.out;omega)⟩
 |some s=>
  obtain⟨m,rfl⟩:∃m,n2=m+1:=⟨n2 - 1,by have:=HO.out.len;simp at this;omega⟩;have ao:Hid (aN wr J.heap.size A2 (m+1) c2 (pre++s::tail)):=ah (by simpa using HO.out);have HN:Hid (m+1=pre.length+1+tail.length):=ah (by have:=ao.out.len;simp at this;omega);have be:=mg.out s rfl;have bE:=ah be;clear HO be;have bS:((m+1:Nat):Int) - 1=(m:Int):=by omega
  have bG:(0:Int)<=(pre.length:Int):=bI _;have c7:=z0' m;have c8:(m:Int)<((m+1:Nat):Int):=by omega
  have c9:m+1<=4096:=by have:=M.out;omega
  have ca:(pre.length:Int)<((m+1:Nat):Int):=by have:=HN.out;omega
  go_wp2;go_loopg[11] tail.length (λgh aD wx=>TB J A2 (m+1) c2 (pre++s::tail) (pre.length:Int) tail.length gh aD wx)
  case atStart=>
   refine⟨Nat.le_refl _,?_,ao,HB⟩;rcases Nat.eq_zero_or_pos tail.length with h0|h0
   .exact .inl ⟨h0,by have:=HN.out;first|(congr 1;omega)|go_num⟩
   .exact .inr ⟨tail.length - 1,m,by omega,by first|rfl|go_num,ah (by have:=HN.out;omega)⟩
  case round=>
   obtain⟨bA,hs,K,E⟩:=hrel;obtain⟨g,rfl⟩:=Own.some_ K.out (by omega);rcases hs with⟨rfl,rfl⟩|⟨r,j,rfl,rfl,HJ⟩
   ·
    have hd:decide ((0:Int)<=(pre.length:Int))=true:=decide_eq_true bG;have cb:decide ((pre.length:Int)<0)=false:=dF';have e0:(aH T s != 0)=false:=(by rw[bE.out];rfl);have Z:∀q:ak wr,∀k:Nat,q.w.cell? ⟨w.heap.size,k,none⟩=t.v.cells[k]? :=λq=>aZ.out _ (E.out.trans' q.h)
    have R:∀q:ak wr,q.w.cell? ⟨g,pre.length,none⟩=some (.int .i64 s):=dD (aN.cell K.out (pre.length) s (by simp));go_wp2_with fail;refine rX' ?_
    repeat(go_big_quiet_step(first|(go_at_call 118;with_reducible exact aS (fU.out s _ (E.out.trans' (ak.h _))))))
    refine wpQuiet_nil ?_;rintro _⟨G,rfl⟩;clear Z R;obtain⟨Y,N⟩:=eX' G.w;have F:Hid (aN Y J.heap.size _ _ c2 _):=ah (by rw[N];exact Own.ext K.out G.h);have H:Hid (Ext J Y):=ah (by rw[N];exact E.out.trans' G.h);rw[<- N];clear N K E;rcases List.eq_nil_or_concat tail with av|⟨tl,y,av⟩
    ·
     subst av;have ae:m=pre.length:=(by have:=HN.out;simp at this;omega);have bL:decide ((pre.length:Int)<(m:Int))=false:=dF';have bN:decide (pre.length<m)=false:=dF';have bO:=ah ae;clear ae;have K:=F;have E:=H;clear F H;have Z:∀q:ak Y,∀k:Nat,q.w.cell? ⟨w.heap.size,k,none⟩=t.v.cells[k]? :=λq=>aZ.out _ (E.out.trans' q.h)
     go_wp2_with fail;refine rX' ?_
     repeat(go_big_quiet_step(first|(fail)))
     refine wpQuiet_nil ?_;rintro _⟨G,rfl⟩;clear Z;obtain⟨O,P⟩:=eX' G.w;have F:Hid (aN O J.heap.size _ _ c2 _):=ah (by rw[P];exact Own.ext K.out G.h);have H:Hid (Ext J O):=ah (by rw[P];exact E.out.trans' G.h);rw[<- P];clear P K E;cases X:pairT T s x with
     |some y2=>
      have HF:Hid (V=dK T pre (some y2) ([]) (D.drop (k+1))):=ah (by rw[gY.out,dK,show tK T [] x=false from rfl,if_neg (by simp),X]);have HP:Hid (kE T s x=(y2,true)):=ah (by rw[kE,X]);have aR:=ah (NU HC.out bc.out X).2.1;clear X gY;have K:=F;have E:=H;clear F H
      have af:Hid (∀(w':World),Ext J w'->Calls prog 119 #[t.v,.int .i64 s,.int .i64 x] w' λe a6=>e= .returned (.tuple #[.int .i64 y2,.bool true])/\Ext w' a6):=ah (λw' h=>by
       have h':=EO T HW.out t s x w' (HT.out.aB (aa.out.trans' h));rw[HP.out]at h'
       exact h')
      have Z:∀q:ak O,∀k:Nat,q.w.cell? ⟨w.heap.size,k,none⟩=t.v.cells[k]? :=λq=>aZ.out _ (E.out.trans' q.h)
      have R:∀q:ak O,q.w.cell? ⟨g,pre.length,none⟩=some (.int .i64 s):=dD (aN.cell K.out (pre.length) s (by simp));go_wp2_with fail;refine rX' ?_
      repeat(go_big_quiet_step(first|(go_at_call 119;with_reducible exact aS (af.out _ (E.out.trans' (ak.h _))))))
      refine wpQuiet_nil ?_;rintro _⟨G,rfl⟩;clear Z R;obtain⟨S,Q⟩:=eX' G.w;have F:Hid (aN S J.heap.size _ _ c2 _):=ah (by rw[Q];exact Own.ext K.out G.h);have H:Hid (Ext J S):=ah (by rw[Q];exact E.out.trans' G.h);rw[<- Q];clear Q K E;have r0:S.cell? ⟨g,pre.length,none⟩=some (.int .i64 s):=F.out.cell pre.length s (by simp);have f0:S.frozen? ⟨g,pre.length,none⟩=false:=F.out.frozen pre.length;have bJ:=ah (F.out.set pre.length y2);have b0:J.heap.size<=g:=(Own.lt F.out g rfl).1;have bC:=ah (H.out.kD (p:=⟨g,pre.length,none⟩) b0 (.int .i64 y2));generalize b1:pre.length=p at*;go_wp2;go_roundg a2;exact⟨k+1,some ⟨g,0,none⟩,m+1,c2,pre,[],some y2,by omega,by go_num,rfl,ah (by have h5:=bJ.out;rw[<- b1]at h5 |-;simpa[List.set_append]using h5),bC,HF,ah (by intro h;cases h),ah (by have:=M.out;omega),a5,ah (λz f=>by injection f with f;subst f;exact aR.out)⟩;omega
     |none=>
      have gV:Hid (V=if aH T x=0 then dK T (pre++s::([])) (some x) [] (D.drop (k+1))else dK T pre (some s) ([]++[x]) (D.drop (k+1))):=ah (by rw[gY.out,dK,show tK T [] x=false from rfl,if_neg (by simp),X]);have HP:Hid (kE T s x=(0,false)):=ah (by rw[kE,X]);clear X gY;have K:=F;have E:=H;clear F H
      have af:Hid (∀(w':World),Ext J w'->Calls prog 119 #[t.v,.int .i64 s,.int .i64 x] w' λe a6=>e= .returned (.tuple #[.int .i64 0,.bool false])/\Ext w' a6):=ah (λw' h=>by
       have h':=EO T HW.out t s x w' (HT.out.aB (aa.out.trans' h));rw[HP.out]at h'
       exact h')
      have Z:∀q:ak O,∀k:Nat,q.w.cell? ⟨w.heap.size,k,none⟩=t.v.cells[k]? :=λq=>aZ.out _ (E.out.trans' q.h)
      have R:∀q:ak O,q.w.cell? ⟨g,pre.length,none⟩=some (.int .i64 s):=dD (aN.cell K.out (pre.length) s (by simp));go_wp2_with fail;refine rX' ?_
      repeat(go_big_quiet_step(first|(go_at_call 119;with_reducible exact aS (af.out _ (E.out.trans' (ak.h _))))))
      refine wpQuiet_nil ?_;rintro _⟨G,rfl⟩;clear Z R;obtain⟨S,Q⟩:=eX' G.w;have F:Hid (aN S J.heap.size _ _ c2 _):=ah (by rw[Q];exact Own.ext K.out G.h);have H:Hid (Ext J S):=ah (by rw[Q];exact E.out.trans' G.h);rw[<- Q];clear Q K E;by_cases L:aH T x=0
      ·
       have HF:Hid (V=dK T (pre++s::[]) (some x) ([]) (D.drop (k+1))):=ah (gV.out.trans (if_pos L));have W:Hid (aH T x=0):=ah L;clear L gV;have C:Ext S (S.alloc (.cells #[.int .i64 x] 3)):=(Ext.refl _).aC _;have U:=M.out;obtain⟨A5,c5,w5,I,a,i,_⟩:=fO (Own.ext F.out C) (iC S x) (by omega) (by have h':=H.out.b.size;simp;omega);have bJ:=ah a;have bC:Hid (Ext J w5):=ah (dU (H.out.trans' C) i (λk L=>(Own.lt F.out k L).1));clear a i C U;go_wp2_with(at_builtin;refine dH rfl _ _ _ rfl _ _ rfl rfl _ _ I ?_);go_roundg a2;exact⟨k+1,A5,(m+1)+1,c5,pre++s::[],[],some x,by omega,by go_num,rfl,ah (by simpa using bJ.out),bC,HF,ah (by intro h;cases h),ah (by have:=M.out;omega),ah (λz f=>by cases f),ah (λz f=>by injection f with f;subst f;exact W.out)⟩;omega
      ·
       have HF:Hid (V=dK T (pre) (some s) ([]++[x]) (D.drop (k+1))):=ah (gV.out.trans (if_neg L));have W:Hid (aH T x≠0):=ah L;clear L gV;have C:Ext S (S.alloc (.cells #[.int .i64 x] 3)):=(Ext.refl _).aC _;have U:=M.out;obtain⟨A5,c5,w5,I,a,i,_⟩:=fO (Own.ext F.out C) (iC S x) (by omega) (by have h':=H.out.b.size;simp;omega);have bJ:=ah a;have bC:Hid (Ext J w5):=ah (dU (H.out.trans' C) i (λk L=>(Own.lt F.out k L).1));clear a i C U;go_wp2_with(at_builtin;refine dH rfl _ _ _ rfl _ _ rfl rfl _ _ I ?_);go_roundg a2;exact⟨k+1,A5,(m+1)+1,c5,pre,[]++[x],some s,by omega,by go_num,rfl,ah (by simpa using bJ.out),bC,HF,ah (by intro h;cases h),ah (by have:=M.out;omega),ah (λz f=>by rcases List.mem_append.1 f with f|f;exact a5.out z f;rw[List.mem_singleton]at f;subst f;exact W.out),mg⟩;omega
    ·
     rw[List.concat_eq_append]at av;subst av;have ae:m=(pre++s::tl).length:=(by have:=HN.out;simp at this |-;omega);have bR:pre.length<m:=(by rw[ae];simp);have bL:decide ((pre.length:Int)<(m:Int))=true:=dT';have bN:decide (pre.length<m)=true:=dT'
     have bh:Hid ((pre++s::(tl++[y]))[m]? =some y):=ah (by
      have e:pre++s::(tl++[y])=(pre++s::tl)++[y]:=by simp
      rw[e,ae,List.getElem?_concat_length])
     have bO:=ah ae;have bi:=a5.out y (by simp);have oG:Hid (tK T (tl++[y]) x=decide (aH T x<=aH T y)):=ah (by rw[OQ,decide_eq_false bi,Bool.false_or]);clear ae bR bi;by_cases h2:aH T x<=aH T y
     ·
      have e2:decide (aH T x<=aH T y)=true:=decide_eq_true h2;have gV:Hid (V=if aH T x=0 then dK T (pre++s::(tl++[y])) (some x) [] (D.drop (k+1))else dK T pre (some s) (tl++[y]++[x]) (D.drop (k+1))):=ah (by rw[gY.out,dK,oG.out,e2,if_pos rfl]);clear gY h2;have K:=F;have E:=H;clear F H;have Z:∀q:ak Y,∀k:Nat,q.w.cell? ⟨w.heap.size,k,none⟩=t.v.cells[k]? :=λq=>aZ.out _ (E.out.trans' q.h)
      have R:∀q:ak Y,q.w.cell? ⟨g,m,none⟩=some (.int .i64 y):=dD (aN.cell K.out (m) y bh.out);go_wp2_with fail;refine rX' ?_
      repeat(go_big_quiet_step(first|(go_at_call 118;with_reducible exact aS (fU.out y _ (E.out.trans' (ak.h _))))|(go_at_call 118;with_reducible exact aS (fU.out x _ (E.out.trans' (ak.h _))))))
      refine wpQuiet_nil ?_;rintro _⟨G,rfl⟩;clear Z R;obtain⟨O,P⟩:=eX' G.w;have F:Hid (aN O J.heap.size _ _ c2 _):=ah (by rw[P];exact Own.ext K.out G.h);have H:Hid (Ext J O):=ah (by rw[P];exact E.out.trans' G.h);rw[<- P];clear P K E;by_cases L:aH T x=0
      ·
       have HF:Hid (V=dK T (pre++s::(tl++[y])) (some x) ([]) (D.drop (k+1))):=ah (gV.out.trans (if_pos L));have W:Hid (aH T x=0):=ah L;clear L gV;have C:Ext O (O.alloc (.cells #[.int .i64 x] 3)):=(Ext.refl _).aC _;have U:=M.out;obtain⟨A5,c5,w5,I,a,i,_⟩:=fO (Own.ext F.out C) (iC O x) (by omega) (by have h':=H.out.b.size;simp;omega);have bJ:=ah a;have bC:Hid (Ext J w5):=ah (dU (H.out.trans' C) i (λk L=>(Own.lt F.out k L).1));clear a i C U;go_wp2_with(at_builtin;refine dH rfl _ _ _ rfl _ _ rfl rfl _ _ I ?_);go_roundg a2;exact⟨k+1,A5,(m+1)+1,c5,pre++s::(tl++[y]),[],some x,by omega,by go_num,rfl,ah (by simpa using bJ.out),bC,HF,ah (by intro h;cases h),ah (by have:=M.out;omega),ah (λz f=>by cases f),ah (λz f=>by injection f with f;subst f;exact W.out)⟩;omega
      ·
       have HF:Hid (V=dK T (pre) (some s) ((tl++[y])++[x]) (D.drop (k+1))):=ah (gV.out.trans (if_neg L));have W:Hid (aH T x≠0):=ah L;clear L gV;have C:Ext O (O.alloc (.cells #[.int .i64 x] 3)):=(Ext.refl _).aC _;have U:=M.out;obtain⟨A5,c5,w5,I,a,i,_⟩:=fO (Own.ext F.out C) (iC O x) (by omega) (by have h':=H.out.b.size;simp;omega);have bJ:=ah a;have bC:Hid (Ext J w5):=ah (dU (H.out.trans' C) i (λk L=>(Own.lt F.out k L).1));clear a i C U;go_wp2_with(at_builtin;refine dH rfl _ _ _ rfl _ _ rfl rfl _ _ I ?_);go_roundg a2;exact⟨k+1,A5,(m+1)+1,c5,pre,(tl++[y])++[x],some s,by omega,by go_num,rfl,ah (by simpa using bJ.out),bC,HF,ah (by intro h;cases h),ah (by have:=M.out;omega),ah (λz f=>by rcases List.mem_append.1 f with f|f;exact a5.out z f;rw[List.mem_singleton]at f;subst f;exact W.out),mg⟩;omega
     ·
      have e2:decide (aH T x<=aH T y)=false:=decide_eq_false h2;have bj:Hid (tK T (tl++[y]) x=false):=ah (by rw[oG.out,e2]);clear h2;have K:=F;have E:=H;clear F H;have Z:∀q:ak Y,∀k:Nat,q.w.cell? ⟨w.heap.size,k,none⟩=t.v.cells[k]? :=λq=>aZ.out _ (E.out.trans' q.h)
      have R:∀q:ak Y,q.w.cell? ⟨g,m,none⟩=some (.int .i64 y):=dD (aN.cell K.out (m) y bh.out);go_wp2_with fail;refine rX' ?_
      repeat(go_big_quiet_step(first|(go_at_call 118;with_reducible exact aS (fU.out y _ (E.out.trans' (ak.h _))))|(go_at_call 118;with_reducible exact aS (fU.out x _ (E.out.trans' (ak.h _))))))
      refine wpQuiet_nil ?_;rintro _⟨G,rfl⟩;clear Z R;obtain⟨O,P⟩:=eX' G.w;have F:Hid (aN O J.heap.size _ _ c2 _):=ah (by rw[P];exact Own.ext K.out G.h);have H:Hid (Ext J O):=ah (by rw[P];exact E.out.trans' G.h);rw[<- P];clear P K E;cases X:pairT T s x with
      |some y2=>
       have HF:Hid (V=dK T pre (some y2) ((tl++[y])) (D.drop (k+1))):=ah (by rw[gY.out,dK,bj.out,if_neg (by simp),X]);have HP:Hid (kE T s x=(y2,true)):=ah (by rw[kE,X]);have aR:=ah (NU HC.out bc.out X).2.1;clear X gY;have K:=F;have E:=H;clear F H
       have af:Hid (∀(w':World),Ext J w'->Calls prog 119 #[t.v,.int .i64 s,.int .i64 x] w' λe a6=>e= .returned (.tuple #[.int .i64 y2,.bool true])/\Ext w' a6):=ah (λw' h=>by
        have h':=EO T HW.out t s x w' (HT.out.aB (aa.out.trans' h));rw[HP.out]at h'
        exact h')
       have Z:∀q:ak O,∀k:Nat,q.w.cell? ⟨w.heap.size,k,none⟩=t.v.cells[k]? :=λq=>aZ.out _ (E.out.trans' q.h)
       have R:∀q:ak O,q.w.cell? ⟨g,pre.length,none⟩=some (.int .i64 s):=dD (aN.cell K.out (pre.length) s (by simp));go_wp2_with fail;refine rX' ?_
       repeat(go_big_quiet_step(first|(go_at_call 119;with_reducible exact aS (af.out _ (E.out.trans' (ak.h _))))))
       refine wpQuiet_nil ?_;rintro _⟨G,rfl⟩;clear Z R;obtain⟨S,Q⟩:=eX' G.w;have F:Hid (aN S J.heap.size _ _ c2 _):=ah (by rw[Q];exact Own.ext K.out G.h);have H:Hid (Ext J S):=ah (by rw[Q];exact E.out.trans' G.h);rw[<- Q];clear Q K E;have r0:S.cell? ⟨g,pre.length,none⟩=some (.int .i64 s):=F.out.cell pre.length s (by simp);have f0:S.frozen? ⟨g,pre.length,none⟩=false:=F.out.frozen pre.length;have bJ:=ah (F.out.set pre.length y2);have b0:J.heap.size<=g:=(Own.lt F.out g rfl).1;have bC:=ah (H.out.kD (p:=⟨g,pre.length,none⟩) b0 (.int .i64 y2));generalize b1:pre.length=p at*;go_wp2;go_roundg a2;exact⟨k+1,some ⟨g,0,none⟩,m+1,c2,pre,(tl++[y]),some y2,by omega,by go_num,rfl,ah (by have h5:=bJ.out;rw[<- b1]at h5 |-;simpa[List.set_append]using h5),bC,HF,ah (by intro h;cases h),ah (by have:=M.out;omega),a5,ah (λz f=>by injection f with f;subst f;exact aR.out)⟩;omega
      |none=>
       have gV:Hid (V=if aH T x=0 then dK T (pre++s::((tl++[y]))) (some x) [] (D.drop (k+1))else dK T pre (some s) ((tl++[y])++[x]) (D.drop (k+1))):=ah (by rw[gY.out,dK,bj.out,if_neg (by simp),X]);have HP:Hid (kE T s x=(0,false)):=ah (by rw[kE,X]);clear X gY;have K:=F;have E:=H;clear F H
       have af:Hid (∀(w':World),Ext J w'->Calls prog 119 #[t.v,.int .i64 s,.int .i64 x] w' λe a6=>e= .returned (.tuple #[.int .i64 0,.bool false])/\Ext w' a6):=ah (λw' h=>by
        have h':=EO T HW.out t s x w' (HT.out.aB (aa.out.trans' h));rw[HP.out]at h'
        exact h')
       have Z:∀q:ak O,∀k:Nat,q.w.cell? ⟨w.heap.size,k,none⟩=t.v.cells[k]? :=λq=>aZ.out _ (E.out.trans' q.h)
       have R:∀q:ak O,q.w.cell? ⟨g,pre.length,none⟩=some (.int .i64 s):=dD (aN.cell K.out (pre.length) s (by simp));go_wp2_with fail;refine rX' ?_
       repeat(go_big_quiet_step(first|(go_at_call 119;with_reducible exact aS (af.out _ (E.out.trans' (ak.h _))))))
       refine wpQuiet_nil ?_;rintro _⟨G,rfl⟩;clear Z R;obtain⟨S,Q⟩:=eX' G.w;have F:Hid (aN S J.heap.size _ _ c2 _):=ah (by rw[Q];exact Own.ext K.out G.h);have H:Hid (Ext J S):=ah (by rw[Q];exact E.out.trans' G.h);rw[<- Q];clear Q K E;by_cases L:aH T x=0
       ·
        have HF:Hid (V=dK T (pre++s::(tl++[y])) (some x) ([]) (D.drop (k+1))):=ah (gV.out.trans (if_pos L));have W:Hid (aH T x=0):=ah L;clear L gV;have C:Ext S (S.alloc (.cells #[.int .i64 x] 3)):=(Ext.refl _).aC _;have U:=M.out;obtain⟨A5,c5,w5,I,a,i,_⟩:=fO (Own.ext F.out C) (iC S x) (by omega) (by have h':=H.out.b.size;simp;omega);have bJ:=ah a;have bC:Hid (Ext J w5):=ah (dU (H.out.trans' C) i (λk L=>(Own.lt F.out k L).1));clear a i C U;go_wp2_with(at_builtin;refine dH rfl _ _ _ rfl _ _ rfl rfl _ _ I ?_);go_roundg a2;exact⟨k+1,A5,(m+1)+1,c5,pre++s::(tl++[y]),[],some x,by omega,by go_num,rfl,ah (by simpa using bJ.out),bC,HF,ah (by intro h;cases h),ah (by have:=M.out;omega),ah (λz f=>by cases f),ah (λz f=>by injection f with f;subst f;exact W.out)⟩;omega
       ·
        have HF:Hid (V=dK T (pre) (some s) ((tl++[y])++[x]) (D.drop (k+1))):=ah (gV.out.trans (if_neg L));have W:Hid (aH T x≠0):=ah L;clear L gV;have C:Ext S (S.alloc (.cells #[.int .i64 x] 3)):=(Ext.refl _).aC _;have U:=M.out;obtain⟨A5,c5,w5,I,a,i,_⟩:=fO (Own.ext F.out C) (iC S x) (by omega) (by have h':=H.out.b.size;simp;omega);have bJ:=ah a;have bC:Hid (Ext J w5):=ah (dU (H.out.trans' C) i (λk L=>(Own.lt F.out k L).1));clear a i C U;go_wp2_with(at_builtin;refine dH rfl _ _ _ rfl _ _ rfl rfl _ _ I ?_);go_roundg a2;exact⟨k+1,A5,(m+1)+1,c5,pre,(tl++[y])++[x],some s,by omega,by go_num,rfl,ah (by simpa using bJ.out),bC,HF,ah (by intro h;cases h),ah (by have:=M.out;omega),ah (λz f=>by rcases List.mem_append.1 f with f|f;exact a5.out z f;rw[List.mem_singleton]at f;subst f;exact W.out),mg⟩;omega
   ·
    have hr:r<tail.length:=by omega
    have HY:Hid ((pre++s::tail)[j]? =some tail[r]):=ah (by
     have hj:=HJ.out
     rw[show j=pre.length+(r+1)from by omega,List.getElem?_append_right (by omega),Nat.add_sub_cancel_left,List.getElem?_cons_succ,List.getElem?_eq_getElem hr])
    have aE:=ah (a5.out _ (List.getElem_mem hr));generalize tail[r]=y at*;have aL:=z0' j;have bB:(j:Int)<((m+1:Nat):Int):=(by have:=HJ.out;have:=HN.out;omega);have hd:decide ((0:Int)<=(j:Int))=true:=decide_eq_true aL;have e1:(aH T y != 0)=true:=(by rw[bne_iff_ne];exact aE.out);have Z:∀q:ak wr,∀k:Nat,q.w.cell? ⟨w.heap.size,k,none⟩=t.v.cells[k]? :=λq=>aZ.out _ (E.out.trans' q.h)
    have R:∀q:ak wr,q.w.cell? ⟨g,j,none⟩=some (.int .i64 y):=dD (aN.cell K.out (j) y HY.out);go_wp2_with fail;refine rX' ?_
    repeat(go_big_quiet_step(first|(go_at_call 118;with_reducible exact aS (fU.out y _ (E.out.trans' (ak.h _))))))
    refine wpQuiet_nil ?_;rintro _⟨G,rfl⟩;clear Z R;obtain⟨Y,N⟩:=eX' G.w;have F:Hid (aN Y J.heap.size _ _ c2 _):=ah (by rw[N];exact Own.ext K.out G.h);have H:Hid (Ext J Y):=ah (by rw[N];exact E.out.trans' G.h);rw[<- N];clear N K E;go_wp2;go_roundg r
    case measure=>omega
    case rel=>
     refine⟨by omega,?_,F,H⟩;rcases Nat.eq_zero_or_pos r with h0|h0
     .exact .inl ⟨h0,by have:=HJ.out;first|(congr 1;omega)|go_num⟩
     .exact .inr ⟨r - 1,j - 1,by omega,by have:=HJ.out;first|(congr 1;omega)|go_num,ah (by have:=HJ.out;omega)⟩
theorem WQ(T:aj)(t:TV)(l:List Int)(A:Option Addr)(n c:Nat)(w:World)(ht:aV w t T)(r:aF w ⟨A,n,c⟩ l):
 Calls prog 122 #[t.v,.slice A n c] w λe w'=>e= .returned (.bool (pV T l))/\Ext w w':=by
 have b:=cZ w t;have p:=ah (ht.aB b);have i:=ah (r.ext b);clear ht r;cases q:(eP T l==0)
 .have j:Hid (pV T l=false):=ah (by rw[pV,q];rfl);go_enter func122,ntmps122;go_wp2_with fail;refine(Nh T t l A n c _ p.out i.out).mono ?_;rintro e s⟨B,m,d,rfl,a,f⟩;have k:=b.trans' a;clear a f;go_wp2;go_ret;exact⟨aO j.out.symm,k⟩
 .have j:Hid (pV T l=jA (kU T l) l):=ah (by rw[pV,q];rfl);go_enter func122,ntmps122;go_wp2_with fail;refine(Nh T t l A n c _ p.out i.out).mono ?_;rintro e s⟨B,m,d,rfl,a,f⟩;have g:=ah a;have o:=ah f;clear a f;go_wp2_with fail;refine(WL (kU T l) l B m d A n c _ o.out (i.out.ext g.out)).mono ?_;rintro e x⟨rfl,h⟩;have k:=(b.trans' g.out).trans' h;clear h;go_wp2;go_ret;exact⟨aO j.out.symm,k⟩
def qo(T:aj)(c:Int):List Int:=if 65<=c/\c<=90 then[c+32]else aJ T.mps c
def iG(T:aj)(c:Int):List Int:=if dW T c=3 then qo T c else if dW T c=1\/dW T c=4 then[c]else[]
def jH(T:aj):Int->List Int->Int
 |_,[]=> -1
 |i,c::r=>if dW T c=0 then i else jH T (i+1) r
def jI(T:aj)(l:List Int):Int:=if aX T l≠0 then aX T l else if jH T 0 l≠ -1 then 16 else if 4096<((l.flatMap (iG T)).length:Int)then 7 else 0
def pG(T:aj)(l:List Int):Int:=if aX T l≠0 then 0 else if jH T 0 l≠ -1 then jH T 0 l else 0
def kZ(T:aj)(l:List Int):List Int:=if jI T l=0 then l.flatMap (iG T)else[]
def UK(w:World)(T:aj)(l:List Int)(e:Ending)(w':World):Prop:=∃B m d,e= .returned (.tuple #[.slice B m d,.int .i64 (pG T l),.int .i64 (jI T l)])/\Ext w w'/\aF w' ⟨B,m,d⟩ (kZ T l)
theorem LM{T:aj}(h:bY T=true):T.mps.length<=256/\∀x,(aJ T.mps x).length<=18:=by
 simp only[bY,aW]at h;have b:jB T=true:=by simp only[h]
 have a:iV T=true:=by simp only[h]
 simp only[jB,maps,oz,aW,au]at b;simp only[iV,maps,jX,aW]at a;exact⟨by omega,Fq a.2.1⟩
theorem Ur{T:aj}(h:bY T=true):dO T=true:=by
 simp only[bY,aW]at h;simp only[h]
theorem LK{T:aj}(h:bY T=true)(x:Int):(qo T x).length<=18:=by
 unfold qo;split
 .simp
 .exact(LM h).2 x
theorem TF{T:aj}(h:bY T=true)(x:Int):(iG T x).length<=18:=by
 unfold iG;split
 .exact LK h x
 .split<;>simp
theorem Es{f:Int->List Int}(a:∀x,(f x).length<=18):∀l:List Int,(l.flatMap f).length<=18*l.length
 |[]=>by simp
 |x::r=>by
  have b:=Es a r;have c:=a x;simp only[List.flatMap_cons,List.length_append,List.length_cons];omega
theorem aRV(t:TV)(T:aj)(c:Int)(w:World)(ht:aV w t T)(j:bY T=true)(R:0<=c/\c<=1114111):
 Calls prog 154 #[t.v,.int .i64 c] w λe w'=>∃B m d,e= .returned (.slice B m d)/\aF w' ⟨B,m,d⟩ (qo T c)/\Ext w w':=by
 have b:=cZ w t;have C:=ah (ht.aB b);have D:=ah ((LM j).2 c);have r:=ah (mF j);have E:=ah (DR j);by_cases f:65<=c/\c<=90
 .have k:Hid (qo T c=[c+32]):=ah (by rw[qo,if_pos f]);obtain⟨F,G⟩:=f;have s:decide (65<=c)=true:=decide_eq_true F;have I:decide (c<=90)=true:=decide_eq_true G;have S:c+97 - 65=c+32:=by omega
  have J:Hid (∀H,(tW' w t).heap.size=H->aF ((tW' w t).alloc (.cells #[.int .i64 (c+32)] 3)) ⟨some ⟨H,0,none⟩,1,1⟩ [c+32]):=ah (by rintro _ rfl;exact iC _ _);have l:=b.trans' ((Ext.refl (tW' w t)).aC (.cells #[.int .i64 (c+32)] 3));clear j;go_enter func154,ntmps154;go_wp2;go_ret;exact⟨_,_,_,rfl,by rw[k.out];exact J.out _ (by simp),l⟩
 .have k:Hid (qo T c=aJ T.mps c):=ah (by rw[qo,if_neg f]);have K:(decide (65<=c)=true/\decide (c<=90)=false)\/decide (65<=c)=false:=by
   by_cases h:65<=c
   .exact .inl ⟨decide_eq_true h,by rw[aA];exact λL=>f ⟨h,L⟩⟩
   .exact .inr (decide_eq_false h)
  clear j f;obtain⟨x,M,y,z,g,N⟩:=Af T.mps t.s8.a t.s8.n t.s8.c c _ C.out.mps r.out.mps.1 r.out.mps.2;have O:=ah z;have o:Hid (aJ T.mps c=[]->x=none/\y=0):=ah λh=>by
   have:=g (Bl E.out.mps h);exact⟨this.1,this.2.2⟩
  clear z g;rcases K with⟨s,I⟩|s
  all_goals
   go_enter func154,ntmps154;go_wp2_with fail;refine(N _ (Ext.refl _)).mono ?_;rintro e P⟨rfl,i⟩;go_wp2_with fail;refine(Jv _ x M y P (O.out.ext i) (by have:=D.out;omega) o.out).mono ?_;rintro e U⟨B,d,rfl,A,p,q⟩;have l:=(b.trans' i).trans' q;have Q:=ah (aN.ints A);clear A p;go_wp2;go_ret;exact⟨_,_,_,rfl,by rw[k.out];exact Q.out,l⟩
theorem aRH(t:TV)(T:aj)(c:Int)(w:World)(ht:aV w t T)(g:bY T=true)(z:0<=c/\c<=1114111):
 Calls prog 116 #[t.v,.int .i64 c] w λe w'=>∃B m d,e= .returned (.slice B m d)/\aF w' ⟨B,m,d⟩ (qo T c)/\Ext w w':=by
 have a:=cZ w t;have n:=ah (ht.aB a);have A:=ah ((LM g).2 c);have C:=ah (mF g);have D:=ah (DR g);by_cases b:65<=c/\c<=90
 .have i:Hid (qo T c=[c+32]):=ah (by rw[qo,if_pos b]);obtain⟨o,p⟩:=b;have k:decide (65<=c)=true:=decide_eq_true o;have q:decide (c<=90)=true:=decide_eq_true p;have E:c+97 - 65=c+32:=by omega
  have r:Hid (∀H,(tW' w t).heap.size=H->aF ((tW' w t).alloc (.cells #[.int .i64 (c+32)] 3)) ⟨some ⟨H,0,none⟩,1,1⟩ [c+32]):=ah (by rintro _ rfl;exact iC _ _);have j:=a.trans' ((Ext.refl (tW' w t)).aC (.cells #[.int .i64 (c+32)] 3));clear g;go_enter func116,ntmps116;go_wp2;go_ret;exact⟨_,_,_,rfl,by rw[i.out];exact r.out _ (by simp),j⟩
 .have i:Hid (qo T c=aJ T.mps c):=ah (by rw[qo,if_neg b]);have s:(decide (65<=c)=true/\decide (c<=90)=false)\/decide (65<=c)=false:=by
   by_cases h:65<=c
   .exact .inl ⟨decide_eq_true h,by rw[aA];exact λx=>b ⟨h,x⟩⟩
   .exact .inr (decide_eq_false h)
  clear g b;skip;rcases s with⟨k,q⟩|k
  all_goals
   go_enter func116,ntmps116;go_wp2_with fail;refine(Dq T.mps _ _ _ c _ n.out.mps).mono ?_;rintro e F⟨G,I,J,rfl,l,f⟩;have y:=ah l;have j:=a.trans' f;clear l f;go_wp2;go_ret;exact⟨_,_,_,rfl,by rw[i.out];exact y.out,j⟩
def aRm(T:aj)(wb:World)(l:List Int)(gh:Nat)(s9 s23:Value)(wx:World):Prop:=
 ∃(k:Nat)(A:Option Addr)(n c:Nat),k+gh=l.length/\s23= .int .i64 k/\s9= .slice A n c/\Hid (aN wx wb.heap.size A n c ((l.take k).flatMap (iG T)))/\Hid (Ext wb wx)/\Hid (jH T k (l.drop k)=jH T 0 l)
theorem aPl(T:aj)(t:TV)(l:List Int)(A:Option Addr)(n c:Nat)(w:World)(ht:aV w t T)(hi:aF w ⟨A,n,c⟩ l):
 Calls prog 81 #[t.v,.slice A n c] w (UK w T l):=by
 have B:=cZ w t;have K:=ah B;have HT:=ah (ht.aB B);have HI:=ah (hi.ext B);have hn:=hi.len.1;subst hn;clear ht hi B;go_enter func81,ntmps81;go_wp2_with fail;refine(xK t T l A _ c _ HT.out HI.out).mono ?_;rintro e L⟨v,rfl,M,_⟩;have W:=ah M;have X:∀k:Nat,L.cell? ⟨w.heap.size,k,none⟩=t.v.cells[k]? :=aQ M;clear M;by_cases j:aX T l=0
 .obtain⟨hw,hl⟩:=qA j;have al:(aX T l != 0)=false:=bZ' j;have Y:Hid (jI T l=if jH T 0 l≠ -1 then 16 else if 4096<((l.flatMap (iG T)).length:Int)then 7 else 0):=ah (by rw[jI,if_neg (by rw[j];simp)]);have Z:Hid (pG T l=if jH T 0 l≠ -1 then jH T 0 l else 0):=ah (by rw[pG,if_neg (by rw[j];simp)]);have HW:=ah hw;have HL:=ah hl;have mg:=ah (JD j);clear j hw hl X;go_wp2;go_loopg[9,23] l.length (λgh s9 am wx=>aRm T L l gh s9 am wx);exact⟨0,none,0,0,by omega,rfl,rfl,ah (Own.nil_ _ _ _ _),ah (Ext.refl _),ah rfl⟩;obtain⟨k,A2,i,c2,bd,rfl,rfl,C,a0,HD⟩:=hrel;have P:=ah (W.out.trans' a0.out);have X:∀k:Nat,wr.cell? ⟨w.heap.size,k,none⟩=t.v.cells[k]? :=aQ P.out;have an:=ah (HI.out.ext P.out)
  have a1:Hid (((l.take k).flatMap (iG T)).length<=18*4096):=ah (by
   have N:=Es (TF HW.out) (l.take k);rw[List.length_take]at N;have:=HL.out
   omega)
  have D:=ah (aN.ints C.out).len.1;by_cases E:k<l.length
  .obtain⟨F,rfl⟩:=gS' gk;obtain⟨b,o,rfl,bf⟩:=an.out.at_ E;have G:=ah (Ai (iG T) l k E);have ao:=ah (JB (mg.out _ (List.getElem_mem E)));have H:Hid (jH T k (l.drop k)=if dW T l[k]=0 then(k:Int)else jH T (k+1) (l.drop (k+1))):=ah (by rw[drop_at l k E];rfl);have g:Hid (iG T l[k]=if dW T l[k]=3 then qo T l[k]else if dW T l[k]=1\/dW T l[k]=4 then[l[k]]else[]):=rfl;generalize l[k]=x at*;have bh:=z0' k;have bi:(k:Int)<(l.length:Int):=(by omega);have bj:l.length<=4096:=HL.out;go_wp2_with fail;refine(F7 t T x wr (HT.out.aB P.out) (mF HW.out)).mono ?_;rintro e Q⟨rfl,m⟩;have p:=ah (a0.out.trans' m);have dP:=ah (Own.ext C.out m);have gJ:∀k:Nat,Q.cell? ⟨w.heap.size,k,none⟩=t.v.cells[k]? :=aQ (P.out.trans' m);have lJ:=ah (P.out.trans' m);clear m X C;generalize dW T x=s at*;by_cases h0:s=0
   .subst h0;have a3:=ah (HD.out.symm.trans (H.out.trans (if_pos rfl)));have hb:=K.out.trans' lJ.out;clear H g;go_wp2;go_ret3;have a4:jH T 0 l≠ -1:=(by rw[a3.out];omega);have a5:jI T l=16:=(by rw[Y.out,if_pos a4]);exact⟨none,0,0,by rw[a5,Z.out,if_pos a4,a3.out];rfl,hb,by rw[kZ,if_neg (by rw[a5];decide)];exact aF.nil_ _⟩
   .have I:Hid (jH T ((k+1:Nat):Int) (l.drop (k+1))=jH T 0 l):=ah (by
     have N:=H.out;rw[if_neg h0]at N
     exact(N.symm.trans HD.out))
    have q0:(s==0)=false:=(by rw[aP];exact h0);clear H HD h0;by_cases J:s=3
    .have q:Hid (iG T x=qo T x):=ah (by rw[g.out,if_pos J]);have q3:(s==3)=true:=(by rw[beq_iff_eq];exact J);have q1:(s==1)=false:=bF';have q4:(s==4)=false:=bF';clear J g;go_wp2_with fail;refine(aRV t T x Q (HT.out.aB lJ.out) HW.out ao.out).mono ?_;rintro e w4⟨A3,n3,c3,rfl,O,r⟩;have av:=O.len.1;have aw:=LK HW.out x;obtain⟨R,S,w5,a,d,f,jK⟩:=fO (Own.ext dP.out r) O (by have:=a1.out;have:=D.out;omega) (p.out.trans' r).b.size;have U:Hid (aN w5 L.heap.size R (i+n3) S ((l.take (k+1)).flatMap (iG T))):=ah (by rw[G.out,q.out];exact d);have bC:Hid (Ext L w5):=ah (dU (p.out.trans' r) f (λk hk=>(Own.lt (Own.ext dP.out r) k hk).1));clear d f jK O r av aw gJ;go_wp2_with(at_builtin;refine dH rfl _ _ _ rfl _ _ rfl rfl _ _ a ?_);clear a;go_roundg F;exact⟨k+1,R,i+n3,S,by omega,by go_num,rfl,U,bC,I⟩;omega
    .have q3:(s==3)=false:=(by rw[aP];exact J);by_cases y:s=1\/s=4
     .have q:Hid (iG T x=[x]):=ah (by rw[g.out,if_neg J,if_pos y]);have az:(s==1)=true\/((s==1)=false/\(s==4)=true):=by
       rcases y with h|h
       .exact .inl (by rw[beq_iff_eq];exact h)
       .exact .inr ⟨by rw[aP];omega,by rw[beq_iff_eq];exact h⟩
      have z:Ext Q (Q.alloc (.cells #[.int .i64 x] 3)):=(Ext.refl _).aC _;obtain⟨R,S,w5,a,d,f,jK⟩:=fO (Own.ext dP.out z) (iC Q x) (by have:=a1.out;have:=D.out;omega) (p.out.trans' z).b.size;have U:Hid (aN w5 L.heap.size R (i+1) S ((l.take (k+1)).flatMap (iG T))):=ah (by rw[G.out,q.out];exact d);have bC:Hid (Ext L w5):=ah (dU (p.out.trans' z) f (λk hk=>(Own.lt (Own.ext dP.out z) k hk).1));clear d f jK z gJ y J g;rcases az with q1|⟨q1,q4⟩
      .go_wp2_with(at_builtin;refine dH rfl _ _ _ rfl _ _ rfl rfl _ _ a ?_);clear a;go_roundg F;exact⟨k+1,R,i+1,S,by omega,by go_num,rfl,U,bC,I⟩;omega
      .go_wp2_with(at_builtin;refine dH rfl _ _ _ rfl _ _ rfl rfl _ _ a ?_);clear a;go_roundg F;exact⟨k+1,R,i+1,S,by omega,by go_num,rfl,U,bC,I⟩;omega
     .have q:Hid (iG T x=[]):=ah (by rw[g.out,if_neg J,if_neg y]);have q1:(s==1)=false:=bF';have q4:(s==4)=false:=bF';have U:Hid (aN Q L.heap.size A2 i c2 ((l.take (k+1)).flatMap (iG T))):=ah (by rw[G.out,q.out,List.append_nil];exact dP.out);clear y J g gJ;go_wp2;go_roundg F;exact⟨k+1,A2,i,c2,by omega,by go_num,rfl,U,p,I⟩;omega
  .have HE:Hid ((l.take k).flatMap (iG T)=l.flatMap (iG T)):=ah (by rw[List.take_of_length_le (by omega)]);have a7:Hid (jH T 0 l= -1):=ah (by rw[<- HD.out,List.drop_of_length_le (by omega)];rfl);have a8:=K.out.trans' P.out;have a9:Hid (pG T l=0):=ah (by rw[Z.out,if_neg (by rw[a7.out];simp)]);have aa:=ah (Y.out.trans (if_neg (by rw[a7.out];simp)));clear X;by_cases V:4096<((l.flatMap (iG T)).length:Int)
   .have G:Hid (jI T l=7):=ah (by rw[aa.out,if_pos V]);have hd:decide (4096<(i:Int))=true:=(by rw[au,D.out,HE.out];exact V);have aL:decide (4096<i)=true:=(by rw[au];rw[au]at hd;omega);clear V;go_wp2;go_ret3;exact⟨none,0,0,by rw[G.out,a9.out];rfl,a8,by rw[kZ,G.out,if_neg (by decide)];exact aF.nil_ _⟩
   .have G:Hid (jI T l=0):=ah (by rw[aa.out,if_neg V]);have hd:decide (4096<(i:Int))=false:=(by rw[aA,D.out,HE.out];exact V);have aL:decide (4096<i)=false:=(by rw[aA];rw[aA]at hd;omega);have aM:Hid (aF wr ⟨A2,i,c2⟩ (l.flatMap (iG T))):=ah (by rw[<- HE.out];exact aN.ints C.out);clear V;go_wp2;go_ret3;exact⟨A2,i,c2,by rw[G.out,a9.out];rfl,a8,by rw[kZ,G.out,if_pos rfl];exact aM.out⟩
 .have al:(aX T l != 0)=true:=bN' j
  have HZ:Hid (jI T l=aX T l/\jI T l≠0/\pG T l=0):=ah (by
   have N:jI T l=aX T l:=by rw[jI,if_pos j]
   exact⟨N,by rw[N];exact j,by rw[pG,if_pos j]⟩)
  have hb:=K.out.trans' W.out;clear j X;go_wp2;go_ret3;exact⟨none,0,0,by rw[HZ.out.1,HZ.out.2.2];rfl,hb,by rw[kZ,if_neg HZ.out.2.1];exact aF.nil_ _⟩
def aRj(T:aj)(wb:World)(l:List Int)(gh:Nat)(s9 s23:Value)(wx:World):Prop:=
 ∃(k:Nat)(A:Option Addr)(n c:Nat),k+gh=l.length/\s23= .int .i64 k/\s9= .slice A n c/\Hid (aN wx wb.heap.size A n c ((l.take k).flatMap (iG T)))/\Hid (Ext wb wx)/\Hid (jH T k (l.drop k)=jH T 0 l)
theorem aPb(T:aj)(t:TV)(l:List Int)(A:Option Addr)(n c:Nat)(w:World)(ht:aV w t T)(hi:aF w ⟨A,n,c⟩ l):
 Calls prog 57 #[t.v,.slice A n c] w (UK w T l):=by
 have B:=cZ w t;have K:=ah B;have HT:=ah (ht.aB B);have HI:=ah (hi.ext B);have hn:=hi.len.1;subst hn;clear ht hi B;go_enter func57,ntmps57;go_wp2_with fail;refine(rW t T l A _ c _ HT.out HI.out).mono ?_;rintro e L⟨rfl,M⟩;have W:=ah M;have X:∀k:Nat,L.cell? ⟨w.heap.size,k,none⟩=t.v.cells[k]? :=aQ M;clear M;by_cases j:aX T l=0
 .obtain⟨hw,hl⟩:=qA j;have al:(aX T l != 0)=false:=bZ' j;have Y:Hid (jI T l=if jH T 0 l≠ -1 then 16 else if 4096<((l.flatMap (iG T)).length:Int)then 7 else 0):=ah (by rw[jI,if_neg (by rw[j];simp)]);have Z:Hid (pG T l=if jH T 0 l≠ -1 then jH T 0 l else 0):=ah (by rw[pG,if_neg (by rw[j];simp)]);have HW:=ah hw;have HL:=ah hl;have mg:=ah (JD j);clear j hw hl X;go_wp2;go_loopg[8,19] l.length (λgh s9 am wx=>aRj T L l gh s9 am wx);exact⟨0,none,0,0,by omega,rfl,rfl,ah (Own.nil_ _ _ _ _),ah (Ext.refl _),ah rfl⟩;obtain⟨k,A2,i,c2,bd,rfl,rfl,C,a0,HD⟩:=hrel;have P:=ah (W.out.trans' a0.out);have X:∀k:Nat,wr.cell? ⟨w.heap.size,k,none⟩=t.v.cells[k]? :=aQ P.out;have an:=ah (HI.out.ext P.out)
  have a1:Hid (((l.take k).flatMap (iG T)).length<=18*4096):=ah (by
   have N:=Es (TF HW.out) (l.take k);rw[List.length_take]at N;have:=HL.out
   omega)
  have D:=ah (aN.ints C.out).len.1;by_cases E:k<l.length
  .obtain⟨F,rfl⟩:=gS' gk;obtain⟨b,o,rfl,bf⟩:=an.out.at_ E;have G:=ah (Ai (iG T) l k E);have ao:=ah (JB (mg.out _ (List.getElem_mem E)));have H:Hid (jH T k (l.drop k)=if dW T l[k]=0 then(k:Int)else jH T (k+1) (l.drop (k+1))):=ah (by rw[drop_at l k E];rfl);have g:Hid (iG T l[k]=if dW T l[k]=3 then qo T l[k]else if dW T l[k]=1\/dW T l[k]=4 then[l[k]]else[]):=rfl;generalize l[k]=x at*;have bh:=z0' k;have bi:(k:Int)<(l.length:Int):=(by omega);have bj:l.length<=4096:=HL.out;go_wp2_with fail;refine(EM t T x wr (HT.out.aB P.out) (Jp (Ur HW.out))).mono ?_;rintro e Q⟨rfl,m⟩;have p:=ah (a0.out.trans' m);have dP:=ah (Own.ext C.out m);have gJ:∀k:Nat,Q.cell? ⟨w.heap.size,k,none⟩=t.v.cells[k]? :=aQ (P.out.trans' m);have lJ:=ah (P.out.trans' m);clear m X C;generalize dW T x=s at*;by_cases h0:s=0
   .subst h0;have a3:=ah (HD.out.symm.trans (H.out.trans (if_pos rfl)));have hb:=K.out.trans' lJ.out;clear H g;go_wp2;go_ret3;have a4:jH T 0 l≠ -1:=(by rw[a3.out];omega);have a5:jI T l=16:=(by rw[Y.out,if_pos a4]);exact⟨none,0,0,by rw[a5,Z.out,if_pos a4,a3.out];rfl,hb,by rw[kZ,if_neg (by rw[a5];decide)];exact aF.nil_ _⟩
   .have I:Hid (jH T ((k+1:Nat):Int) (l.drop (k+1))=jH T 0 l):=ah (by
     have N:=H.out;rw[if_neg h0]at N
     exact(N.symm.trans HD.out))
    have q0:(s==0)=false:=(by rw[aP];exact h0);clear H HD h0;by_cases J:s=3
    .have q:Hid (iG T x=qo T x):=ah (by rw[g.out,if_pos J]);have q3:(s==3)=true:=(by rw[beq_iff_eq];exact J);have q1:(s==1)=false:=bF';have q4:(s==4)=false:=bF';clear J g;go_wp2_with fail;refine(aRH t T x Q (HT.out.aB lJ.out) HW.out ao.out).mono ?_;rintro e w4⟨A3,n3,c3,rfl,O,r⟩;have av:=O.len.1;have aw:=LK HW.out x;obtain⟨R,S,w5,a,d,f,jK⟩:=fO (Own.ext dP.out r) O (by have:=a1.out;have:=D.out;omega) (p.out.trans' r).b.size;have U:Hid (aN w5 L.heap.size R (i+n3) S ((l.take (k+1)).flatMap (iG T))):=ah (by rw[G.out,q.out];exact d);have bC:Hid (Ext L w5):=ah (dU (p.out.trans' r) f (λk hk=>(Own.lt (Own.ext dP.out r) k hk).1));clear d f jK O r av aw gJ;go_wp2_with(at_builtin;refine dH rfl _ _ _ rfl _ _ rfl rfl _ _ a ?_);clear a;go_roundg F;exact⟨k+1,R,i+n3,S,by omega,by go_num,rfl,U,bC,I⟩;omega
    .have q3:(s==3)=false:=(by rw[aP];exact J);by_cases y:s=1\/s=4
     .have q:Hid (iG T x=[x]):=ah (by rw[g.out,if_neg J,if_pos y]);have az:(s==1)=true\/((s==1)=false/\(s==4)=true):=by
       rcases y with h|h
       .exact .inl (by rw[beq_iff_eq];exact h)
       .exact .inr ⟨by rw[aP];omega,by rw[beq_iff_eq];exact h⟩
      have z:Ext Q (Q.alloc (.cells #[.int .i64 x] 3)):=(Ext.refl _).aC _;obtain⟨R,S,w5,a,d,f,jK⟩:=fO (Own.ext dP.out z) (iC Q x) (by have:=a1.out;have:=D.out;omega) (p.out.trans' z).b.size;have U:Hid (aN w5 L.heap.size R (i+1) S ((l.take (k+1)).flatMap (iG T))):=ah (by rw[G.out,q.out];exact d);have bC:Hid (Ext L w5):=ah (dU (p.out.trans' z) f (λk hk=>(Own.lt (Own.ext dP.out z) k hk).1));clear d f jK z gJ y J g;rcases az with q1|⟨q1,q4⟩
      .go_wp2_with(at_builtin;refine dH rfl _ _ _ rfl _ _ rfl rfl _ _ a ?_);clear a;go_roundg F;exact⟨k+1,R,i+1,S,by omega,by go_num,rfl,U,bC,I⟩;omega
      .go_wp2_with(at_builtin;refine dH rfl _ _ _ rfl _ _ rfl rfl _ _ a ?_);clear a;go_roundg F;exact⟨k+1,R,i+1,S,by omega,by go_num,rfl,U,bC,I⟩;omega
     .have q:Hid (iG T x=[]):=ah (by rw[g.out,if_neg J,if_neg y]);have q1:(s==1)=false:=bF';have q4:(s==4)=false:=bF';have U:Hid (aN Q L.heap.size A2 i c2 ((l.take (k+1)).flatMap (iG T))):=ah (by rw[G.out,q.out,List.append_nil];exact dP.out);clear y J g gJ;go_wp2;go_roundg F;exact⟨k+1,A2,i,c2,by omega,by go_num,rfl,U,p,I⟩;omega
  .have HE:Hid ((l.take k).flatMap (iG T)=l.flatMap (iG T)):=ah (by rw[List.take_of_length_le (by omega)]);have a7:Hid (jH T 0 l= -1):=ah (by rw[<- HD.out,List.drop_of_length_le (by omega)];rfl);have a8:=K.out.trans' P.out;have a9:Hid (pG T l=0):=ah (by rw[Z.out,if_neg (by rw[a7.out];simp)]);have aa:=ah (Y.out.trans (if_neg (by rw[a7.out];simp)));clear X;by_cases V:4096<((l.flatMap (iG T)).length:Int)
   .have G:Hid (jI T l=7):=ah (by rw[aa.out,if_pos V]);have hd:decide (4096<(i:Int))=true:=(by rw[au,D.out,HE.out];exact V);have aL:decide (4096<i)=true:=(by rw[au];rw[au]at hd;omega);clear V;go_wp2;go_ret3;exact⟨none,0,0,by rw[G.out,a9.out];rfl,a8,by rw[kZ,G.out,if_neg (by decide)];exact aF.nil_ _⟩
   .have G:Hid (jI T l=0):=ah (by rw[aa.out,if_neg V]);have hd:decide (4096<(i:Int))=false:=(by rw[aA,D.out,HE.out];exact V);have aL:decide (4096<i)=false:=(by rw[aA];rw[aA]at hd;omega);have aM:Hid (aF wr ⟨A2,i,c2⟩ (l.flatMap (iG T))):=ah (by rw[<- HE.out];exact aN.ints C.out);clear V;go_wp2;go_ret3;exact⟨A2,i,c2,by rw[G.out,a9.out];rfl,a8,by rw[kZ,G.out,if_pos rfl];exact aM.out⟩
 .have al:(aX T l != 0)=true:=bN' j
  have HZ:Hid (jI T l=aX T l/\jI T l≠0/\pG T l=0):=ah (by
   have N:jI T l=aX T l:=by rw[jI,if_pos j]
   exact⟨N,by rw[N];exact j,by rw[pG,if_pos j]⟩)
  have hb:=K.out.trans' W.out;clear j X;go_wp2;go_ret3;exact⟨none,0,0,by rw[HZ.out.1,HZ.out.2.2];rfl,hb,by rw[kZ,if_neg HZ.out.2.1];exact aF.nil_ _⟩
def enc1(c:Int):List Int:=
 if c<=127 then[c]else if c<=2047 then[192+c / 64,128+c % 64]
 else if c<=65535 then[224+c / 4096,128+c / 64 % 64,128+c % 64]
 else[240+c / 262144,128+c / 4096 % 64,128+c / 64 % 64,128+c % 64]
def lK(l:List Int):List Int:=l.flatMap enc1
def iF(b:Int):Bool:=decide (128<=b)&&decide (b<=191)
def dM:List Int->Int × Nat
 |[]=>(0,0)
 |a::r=>
  if a<=127 then(a,1)
  else if 192<=a/\a<=223 then match r with
   |b::_=>if iF b=true/\utfLen ((a - 192)*64+(b - 128))=2 then((a - 192)*64+(b - 128),2)else(0,0)
   |_=>(0,0)
  else if 224<=a/\a<=239 then match r with
   |b::c::_=>if iF b=true/\iF c=true/\utfLen (((a - 224)*64+(b - 128))*64+(c - 128))=3 then(((a - 224)*64+(b - 128))*64+(c - 128),3)else(0,0)
   |_=>(0,0)
  else if 240<=a/\a<=247 then match r with
   |b::c::d::_=>if iF b=true/\iF c=true/\iF d=true/\utfLen ((((a - 240)*64+(b - 128))*64+(c - 128))*64+(d - 128))=4 then((((a - 240)*64+(b - 128))*64+(c - 128))*64+(d - 128),4)else(0,0)
   |_=>(0,0)
  else(0,0)
theorem Y7{c:Int}(h:aY c=true):((enc1 c).length:Int)=utfLen c:=by
 unfold enc1 utfLen;rw[h];simp only[Bool.true_eq_false,if_false];split
 .rfl
 .split
  .rfl
  .split<;>rfl
theorem uY{c:Int}(h:aY c=true):0<=c/\c<=1114111:=by
 simp only[aY,aW,au]at h;exact h.1
theorem Y3{c:Int}(h:aY c=true)(r:List Int):dM (enc1 c++r)=(c,(enc1 c).length):=by
 have l:=uY h;have b:utfLen c=if c<=127 then 1 else if c<=2047 then 2 else if c<=65535 then 3 else 4:=by unfold utfLen;rw[h];simp
 unfold enc1;by_cases a:c<=127
 .simp[a,dM]
 by_cases d:c<=2047
 .rw[if_neg a,if_pos d];have e:(192+c / 64 - 192)*64+(128+c % 64 - 128)=c:=by omega
  have k:iF (128+c % 64)=true:=by simp[iF];omega
  rw[if_neg a,if_pos d]at b;show dM ((192+c / 64)::(128+c % 64)::r)=_
  simp only[dM];rw[if_neg (by omega),if_pos (by omega)];simp only[e];rw[if_pos ⟨k,b⟩];rfl
 by_cases f:c<=65535
 .rw[if_neg a,if_neg d,if_pos f];have e:((224+c / 4096 - 224)*64+(128+c / 64 % 64 - 128))*64+(128+c % 64 - 128)=c:=by omega
  have g:iF (128+c / 64 % 64)=true:=by simp[iF];omega
  have i:iF (128+c % 64)=true:=by simp[iF];omega
  rw[if_neg a,if_neg d,if_pos f]at b;show dM ((224+c / 4096)::(128+c / 64 % 64)::(128+c % 64)::r)=_
  simp only[dM];rw[if_neg (by omega),if_neg (by omega),if_pos (by omega)];simp only[e];rw[if_pos ⟨g,i,b⟩];rfl
 .rw[if_neg a,if_neg d,if_neg f];have e:(((240+c / 262144 - 240)*64+(128+c / 4096 % 64 - 128))*64+(128+c / 64 % 64 - 128))*64+(128+c % 64 - 128)=c:=by omega
  have g:iF (128+c / 4096 % 64)=true:=by simp[iF];omega
  have i:iF (128+c / 64 % 64)=true:=by simp[iF];omega
  have j:iF (128+c % 64)=true:=by simp[iF];omega
  rw[if_neg a,if_neg d,if_neg f]at b;show dM ((240+c / 262144)::(128+c / 4096 % 64)::(128+c / 64 % 64)::(128+c % 64)::r)=_
  simp only[dM];rw[if_neg (by omega),if_neg (by omega),if_neg (by omega),if_pos (by omega)];simp only[e];rw[if_pos ⟨g,i,j,b⟩];rfl
def wF:Nat->List Int->List Int × Nat
 |0,_=>([],0)
 |f+1,l=>if(dM l).2=0 then([],0)else let d:=wF f (l.drop (dM l).2);((dM l).1::d.1,(dM l).2+d.2)
def jd(l:List Int):List Int × Nat:=wF l.length l
theorem FT(l:List Int):(dM l).2<=l.length:=by
 unfold dM;split
 .simp
 .split
  .simp
  .split
   .split
    .split<;>simp
    .simp
   .split
    .split
     .split<;>simp
     .simp
    .split
     .split
      .split<;>simp
      .simp
     .simp
theorem OL:∀(f g:Nat)(l:List Int),l.length<=f->l.length<=g->wF f l=wF g l
 |0,0,_,_,_=>rfl
 |0,g+1,l,h,_=>by
  have:l=[]:=List.eq_nil_of_length_eq_zero (by omega);subst this;simp[wF,dM]
 |f+1,0,l,_,h=>by
  have:l=[]:=List.eq_nil_of_length_eq_zero (by omega);subst this;simp[wF,dM]
 |f+1,g+1,l,h1,h2=>by
  unfold wF;by_cases a:(dM l).2=0
  .simp[a]
  .rw[if_neg a,if_neg a];have b:(l.drop (dM l).2).length=l.length - (dM l).2:=List.length_drop;rw[OL f g _ (by omega) (by omega)]
theorem P6{l:List Int}(h:(dM l).2≠0):jd l=((dM l).1::(jd (l.drop (dM l).2)).1,(dM l).2+(jd (l.drop (dM l).2)).2):=by
 have b:=FT l;unfold jd;obtain⟨n,a⟩:∃n,l.length=n+1:=⟨l.length - 1,by omega⟩;rw[a,wF,if_neg h,OL n (l.drop (dM l).2).length _ (by rw[List.length_drop];omega) (Nat.le_refl _)]
theorem Pm{l:List Int}(h:(dM l).2=0):jd l=([],0):=by
 unfold jd;cases a:l.length with
 |zero=>rfl
 |succ n=>rw[wF,if_pos h]
def hd8(a:Int):Nat × Int:=
 if a<=127 then(1,a)else if 192<=a/\a<=223 then(2,a - 192)else if 224<=a/\a<=239 then(3,a - 224)else if 240<=a/\a<=247 then(4,a - 240)else(0,0)
theorem Yr{a b c d:Int}(h:a=c)(k:b=d):Ending.returned (.tuple #[.int .i64 a,.int .i64 b])= .returned (.tuple #[.int .i64 c,.int .i64 d]):=by rw[h,k]
theorem Xj(a:Int)(h:0<=a/\a<256)(w:World):Calls prog 269 #[.int .u8 a] w λe w'=>e= .returned (.tuple #[.int .i64 (hd8 a).1,.int .i64 (hd8 a).2])/\w=w':=by
 go_enter func269,ntmps269;go_wp2
 all_goals(go_ret2;refine⟨Yr ?_ ?_,rfl⟩<;>unfold hd8<;>(repeat' split)<;>first|rfl|omega|(simp only[];omega))
theorem Yt{a:Int}(h:0<=a/\a<256):(hd8 a).1<=4/\0<=(hd8 a).2/\(hd8 a).2<128:=by
 unfold hd8
 repeat' split
 all_goals(simp only[];omega)
def uo:Int->List Int->Option Int
 |c,[]=>some c
 |c,b::r=>if iF b=true then uo (c*64+(b - 128)) r else none
theorem Y8{l:List Int}{a:Int}{r:List Int}(o:l=a::r)(h:0<=a):dM l=
 if(hd8 a).1=0\/l.length<(hd8 a).1 then(0,0)else match uo (hd8 a).2 (r.take ((hd8 a).1 - 1))with
  |none=>(0,0)
  |some c=>if utfLen c=(hd8 a).1 then(c,(hd8 a).1)else(0,0):=by
 subst o;have m:0<=a->a<=127->utfLen a=1:=by
  intro f g;unfold utfLen;have:aY a=true:=by simp[aY];omega
  rw[this];simp[g]
 unfold dM hd8;by_cases f:a<=127
 .simp[f,uo,m h f]
 by_cases g:192<=a/\a<=223
 .simp only[if_neg f,if_pos g]
  match r with
  |[]=>simp
  |b::r=>
   simp only[List.take,uo];cases j:iF b<;>simp
   omega
 by_cases i:224<=a/\a<=239
 .simp only[if_neg f,if_neg g,if_pos i]
  match r with
  |[]=>simp
  |[b]=>simp
  |b::c::r=>
   simp only[List.take,uo];cases j:iF b<;>cases n:iF c<;>simp
   omega
 by_cases k:240<=a/\a<=247
 .simp only[if_neg f,if_neg g,if_neg i,if_pos k]
  match r with
  |[]=>simp
  |[b]=>simp
  |[b,c]=>simp
  |b::c::d::r=>
   simp only[List.take,uo];cases j:iF b<;>cases n:iF c<;>cases p:iF d<;>simp
   omega
 .simp[f,g,i,k]
theorem Pq(n:Int)(a:0<=n)(b:n<2 ^ 31):IntKind.i64.wrap n=n:=by rw[IntKind.wrap_i64];omega
theorem Ar(i:Nat)(x y:Int)(f:0<=x)(a:x % 2 ^ i=0)(b:x<2147483648)(g:0<=y)(c:y<2 ^ i)(d:y<2147483648):bits .or .i64 x y=x+y:=
 bits_join .i64 31 (by decide) Pq i x y f a b g c d
theorem JC(x:Int)(a:0<=x)(b:x<2147483648):bits .and .i64 x 63=x % 64:=bits_mask .i64 31 (by decide) Pq 6 (by decide) x a b
def Yu(w:World)(c0:Int)(bs:List Int)(g:Nat)(s7 s36:Value)(wx:World):Prop:=
 ∃(k:Nat)(c:Int),g+k=bs.length/\s36= .int .i64 k/\s7= .int .i64 c/\0<=c/\c<128*64 ^ k/\Hid (uo c0 bs=uo c (bs.drop k))/\wx=w
theorem Yb(l:List Int)(x:IsB l)(k:Nat)(N:k<l.length)(hm:l.length<=1099511627776)(w:World):
 Calls prog 220 #[.string (sB l),.int .i64 k] w λe w'=>e= .returned (.tuple #[.int .i64 (dM (l.drop k)).1,.int .i64 (dM (l.drop k)).2])/\Ext w w':=by
 have R:=Js (w:=w) x N;have z:=x _ (List.getElem_mem N);have g:=ah (Y8 (drop_at l k N) z.1);have S:=ah x;have O:=Yt z;have A:=ah (Xj l[k] z w);rw[List.length_drop]at g;generalize l[k]=a at*;generalize hd8 a=p at*;obtain⟨n,P⟩:=p;simp only at g O A;generalize dM (l.drop k)=V at*;clear x;go_enter func220,ntmps220;go_wp2_with fail;refine A.out.mono ?_;rintro e w'⟨rfl,rfl⟩;clear R A;by_cases T:n=0
 .rw[if_pos (.inl T)]at g;go_wp2;go_ret2;exact⟨by rw[g.out];rfl,Ext.refl _⟩
 have e1:((n:Int)==0)=false:=bF';by_cases B:l.length - k<n
 .rw[if_pos (.inr B)]at g;have U:decide ((l.length:Int) - k<n)=true:=dT';go_wp2;go_ret2;exact⟨by rw[g.out];rfl,Ext.refl _⟩
 have U:decide ((l.length:Int) - k<n)=false:=dF';rw[if_neg (by omega)]at g;have i:=OJ (w:=w) (l:=l) (k:=k+1) (m:=k+n) (by omega) (by omega);rw[show k+n - (k+1)=n - 1 by omega]at i
 push_cast at i
 have Q:=ah (wX (zu S.out (k+1)) (n - 1));have W:((l.drop (k+1)).take (n - 1)).length=n - 1:=by rw[List.length_take,List.length_drop];omega
 generalize(l.drop (k+1)).take (n - 1)=bs at*;obtain⟨cc,X,C,o,q,_⟩:=FN (w:=w) Q.out (by omega);have D:=ah o;have r:=ah q;go_wp2_with fail;clear i C o q;go_loopg[7,36] bs.length (λY Z E wx=>Yu X P bs Y Z E wx);exact⟨0,P,by omega,rfl,rfl,O.2.1,by omega,ah rfl,rfl⟩;obtain⟨j,c,hg,rfl,rfl,a1,F,s,rfl⟩:=hrel;by_cases G:j<bs.length
 .obtain⟨H,rfl⟩:=gS' gk;obtain⟨b',o',I,J⟩:=D.out.at_ G;injection I with I;injection I with e5 e6;subst e5 e6;rw[Nat.zero_add]at J;have a5:=Q.out _ (List.getElem_mem G);have K:Hid (bs.drop j=bs[j]::bs.drop (j+1)):=drop_at bs j G;generalize bs[j]=y at*;cases d:iF y
  .have b:Hid (V=(0,0)):=ah (by rw[g.out,s.out,K.out];simp[uo,d]);have f:=r.out;by_cases h1:y<128
   .go_wp2;go_ret2;exact⟨by rw[b.out];rfl,f⟩
   .have h2:191<y:=(by simp only[iF,Bool.and_eq_false_iff,aA]at d;omega);go_wp2;go_ret2;exact⟨by rw[b.out];rfl,f⟩
  .have h2:128<=y/\y<=191:=by simp only[iF,aW,au]at d;exact d
   have L:=aI s (show uo c (bs.drop j)=uo (c*64+(y - 128)) (bs.drop (j+1))from by rw[K.out,uo,if_pos d]);have a7:c<524288:=by
    rcases(show j=0\/j=1\/j=2 by omega)with h|h|h<;>(rw[h]at F;omega)
   have a8:bits .or .i64 (c*64) (y % 64)=c*64+(y - 128):=(by rw[Ar 6 _ _ (by omega) (by omega) (by omega) (by omega) (by omega) (by omega)];omega);have M:c*64+(y - 128)<128*64 ^ (j+1):=(by rw[Int.pow_succ];omega);clear s K;go_wp2;go_roundg H;exact⟨j+1,_,by omega,by go_num,rfl,by omega,M,L,rfl⟩;omega
 .have hd:bs.drop j=[]:=bQ bs j (by omega);have b:Hid (V=if utfLen c=n then(c,n)else(0,0)):=ah (by rw[g.out,s.out,hd];simp[uo]);have f:=r.out;clear g s;go_wp2_with fail;refine(xJ _ _).mono ?_;rintro e w'⟨rfl,rfl⟩;generalize utfLen c=u at*;by_cases t:u=n
  .rw[if_pos t]at b;have e3:(u != (n:Int))=false:=(by rw[t];simp);go_wp2;go_ret2;exact⟨by rw[b.out];rfl,f⟩
  .rw[if_neg t]at b;have e3:(u != (n:Int))=true:=(by rw[bne_iff_ne];exact t);go_wp2;go_ret2;exact⟨by rw[b.out];rfl,f⟩
def UL(w:World)(l:List Int)(g:Nat)(s4 s5:Value)(wx:World):Prop:=
 ∃(A:Option Addr)(c k:Nat)(acc:List Int),g+k=l.length/\s4= .slice A acc.length c/\s5= .int .i64 k/\aN wx w.heap.size A acc.length c acc/\Ext w wx/\acc.length<=k/\Hid (jd l=(acc++(jd (l.drop k)).1,k+(jd (l.drop k)).2))
theorem Yv(l:List Int)(D:IsB l)(U:l.length<=1099511600000)(w:World):
 Calls prog 152 #[.string (sB l)] w λe w'=>∃A n c,e= .returned (.tuple #[.slice A n c,.int .i64 (jd l).2])/\aF w' ⟨A,n,c⟩ (jd l).1/\Ext w w':=by
 have E:=ah D;clear D;go_enter func152,ntmps152;go_wp2;go_loopg[4,5] l.length (λF G H I=>UL w l F G H I);exact⟨none,0,0,[],by omega,rfl,rfl,Own.nil_ _ _ _ _,Ext.refl _,Nat.le_refl _,ah (by simp)⟩;obtain⟨A,c,k,b,R,rfl,rfl,d,y,J,q⟩:=hrel;have z:=ah d;have B:=ah y;clear d y;by_cases K:k<l.length
 .go_wp2_with fail;refine(Yb l E.out k K (by omega) wr).mono ?_;rintro e S⟨rfl,f⟩;have r:=ah (@P6 (l.drop k));have s:=ah (@Pm (l.drop k));have g:=FT (l.drop k);rw[List.drop_drop]at r;rw[List.length_drop]at g;generalize dM (l.drop k)=p at*;obtain⟨x,n⟩:=p;simp only at r s g;have h:=ah (B.out.trans' f);have i:=ah (Own.ext z.out f);clear f;by_cases C:n=0
  .have j:Hid (jd l=(b,k)):=ah (by rw[q.out,s.out C];simp);have L:((n:Int)==0)=true:=(by rw[beq_iff_eq];omega);go_wp2;go_ret2;exact⟨A,_,c,by rw[j.out];rfl,by rw[j.out];exact aN.ints i.out,h.out⟩
  .have L:((n:Int)==0)=false:=bF';have t:=aI q (show _=((b++[x])++(jd (l.drop (k+n))).1,(k+n:Nat)+(jd (l.drop (k+n))).2)from by rw[r.out C];simp[Nat.add_assoc]);obtain⟨M,N,T,m,a,o,_⟩:=xu i.out h.out x (by omega);have O:=ah a;have P:=ah o;clear q r s a o;go_wp2_with(at_builtin;refine dH rfl _ _ _ rfl _ _ rfl rfl _ _ m ?_);go_roundg (l.length - (k+n));exact⟨M,N,k+n,b++[x],by omega,by simp,by go_num,by simpa using O.out,P.out,by simp;omega,t⟩;omega
 .have Q:l.drop k=[]:=bQ l k (by omega);have j:Hid (jd l=(b,k)):=ah (by rw[q.out,Q];simp[jd,wF]);go_wp2;go_ret2;exact⟨A,_,c,by rw[j.out];rfl,by rw[j.out];exact aN.ints z.out,B.out⟩
def gG(l:List Int):List Int × Int × Int:=if 4096<l.length then([],0,7)else if(jd l).2<l.length then([],((jd l).2:Int),9)else((jd l).1,0,0)
def GV(w:World)(d:List Int × Int × Int)(e:Ending)(w':World):Prop:=∃A n c,e= .returned (.tuple #[.slice A n c,.int .i64 d.2.1,.int .i64 d.2.2])/\aF w' ⟨A,n,c⟩ d.1/\Ext w w'
theorem udec_spec(l:List Int)(k:IsB l)(w:World):Calls prog 80 #[.string (sB l)] w (GV w (gG l)):=by
 have a:Hid (gG l=(if 4096<l.length then([],0,7)else if(jd l).2<l.length then([],((jd l).2:Int),9)else((jd l).1,0,0):List Int × Int × Int)):=rfl;generalize gG l=D at*;have o:=ah k;clear k;by_cases b:4096<l.length
 .rw[if_pos b]at a;go_enter func80,ntmps80;go_wp2;go_ret3;exact⟨none,0,0,by rw[a.out];rfl,by rw[a.out];exact aF.nil_ w,Ext.refl _⟩
 rw[if_neg b]at a;go_enter func80,ntmps80;go_wp2_with fail;refine(Yv l o.out (by omega) w).mono ?_;rintro e p⟨A,n,c,rfl,f,g⟩;have h:=ah f;have i:=ah g;clear f g;generalize jd l=d at*;obtain⟨q,m⟩:=d;simp only at a h;by_cases j:m<l.length
 .rw[if_pos j]at a;go_wp2;go_ret3;exact⟨none,0,0,by rw[a.out];rfl,by rw[a.out];exact aF.nil_ _,i.out⟩
 .rw[if_neg j]at a;go_wp2;go_ret3;exact⟨A,n,c,by rw[a.out];rfl,by rw[a.out];exact h.out,i.out⟩
def PO(w0:World)(l:List Int)(e:Ending)(w':World):Prop:=∃A n c,e= .returned (.slice A n c)/\n=l.length/\OwnB w' w0.heap.size A n c l/\Ext w0 w'
theorem uput_spec(q w:World)(A:Option Addr)(n c:Nat)(l:List Int)(x:Int)(r:aY x=true)(h:OwnB w q.heap.size A n c l)(B:Ext q w)(C:n=l.length)(M:n<=1099511000000):
 Calls prog 142 #[.slice A n c,.int .i64 x] w (PO q (l++enc1 x)):=by
 have D:=uY r;have g:utfLen x=if x<=127 then 1 else if x<=2047 then 2 else if x<=65535 then 3 else 4:=by unfold utfLen;rw[r];simp
 have f:Hid (enc1 x=if x<=127 then[x]else if x<=2047 then[192+x / 64,128+x % 64]else if x<=65535 then[224+x / 4096,128+x / 64 % 64,128+x % 64]else[240+x / 262144,128+x / 4096 % 64,128+x / 64 % 64,128+x % 64]):=rfl;have k:=ah h;have m:=ah B;have o:=ah C;clear h B r C;generalize enc1 x=E at*;go_enter func142,ntmps142;go_wp2_with fail;refine(xJ _ _).mono ?_;rintro e F⟨rfl,rfl⟩;by_cases s:x<=127
 .rw[if_pos s]at g f;rw[g];obtain⟨i,j,p,b,a,d,_⟩:=yD k.out m.out #[.int .u8 x] [x] 1 rfl rfl (by omega) (by omega);go_wp2_with(at_builtin;refine dH rfl _ _ _ rfl _ _ rfl rfl _ _ b ?_);go_ret;exact⟨i,_,j,rfl,by rw[f.out];simp[o.out],by rw[f.out];exact a,d⟩
 rw[if_neg s]at g f;have G:=JC x (by omega) (by omega);have H:bits .or .i64 128 (x % 64)=128+x % 64:=Ar 6 _ _ (by omega) (by omega) (by omega) (by omega) (by omega) (by omega);by_cases t:x<=2047
 .rw[if_pos t]at g f;rw[g];have y:bits .or .i64 192 (x / 64)=192+x / 64:=Ar 6 _ _ (by omega) (by omega) (by omega) (by omega) (by omega) (by omega);obtain⟨i,j,p,b,a,d,_⟩:=yD k.out m.out #[.int .u8 (192+x / 64),.int .u8 (128+x % 64)] [192+x / 64,128+x % 64] 2 rfl rfl (by omega) (by omega);go_wp2_with(at_builtin;refine dH rfl _ _ _ rfl _ _ rfl rfl _ _ b ?_);go_ret;exact⟨i,_,j,rfl,by rw[f.out];simp[o.out],by rw[f.out];exact a,d⟩
 rw[if_neg t]at g f;have I:=JC (x / 64) (by omega) (by omega);have J:bits .or .i64 128 (x / 64 % 64)=128+x / 64 % 64:=Ar 6 _ _ (by omega) (by omega) (by omega) (by omega) (by omega) (by omega);by_cases z:x<=65535
 .rw[if_pos z]at g f;rw[g];have y:bits .or .i64 224 (x / 4096)=224+x / 4096:=Ar 4 _ _ (by omega) (by omega) (by omega) (by omega) (by omega) (by omega);obtain⟨i,j,p,b,a,d,_⟩:=yD k.out m.out #[.int .u8 (224+x / 4096),.int .u8 (128+x / 64 % 64),.int .u8 (128+x % 64)] [224+x / 4096,128+x / 64 % 64,128+x % 64] 3 rfl rfl (by omega) (by omega);go_wp2_with(at_builtin;refine dH rfl _ _ _ rfl _ _ rfl rfl _ _ b ?_);go_ret;exact⟨i,_,j,rfl,by rw[f.out];simp[o.out],by rw[f.out];exact a,d⟩
 .rw[if_neg z]at g f;rw[g];have y:bits .or .i64 240 (x / 262144)=240+x / 262144:=Ar 4 _ _ (by omega) (by omega) (by omega) (by omega) (by omega) (by omega);have K:=JC (x / 4096) (by omega) (by omega);have L:bits .or .i64 128 (x / 4096 % 64)=128+x / 4096 % 64:=Ar 6 _ _ (by omega) (by omega) (by omega) (by omega) (by omega) (by omega);obtain⟨i,j,p,b,a,d,_⟩:=yD k.out m.out #[.int .u8 (240+x / 262144),.int .u8 (128+x / 4096 % 64),.int .u8 (128+x / 64 % 64),.int .u8 (128+x % 64)] [240+x / 262144,128+x / 4096 % 64,128+x / 64 % 64,128+x % 64] 4 rfl rfl (by omega) (by omega);go_wp2_with(at_builtin;refine dH rfl _ _ _ rfl _ _ rfl rfl _ _ b ?_);go_ret;exact⟨i,_,j,rfl,by rw[f.out];simp[o.out],by rw[f.out];exact a,d⟩
def lM(l:List Int):List Int × Int:=if 4096<l.length then([],7)else if l.any (λc=> !aY c)then([],3)else(lK l,0)
def xA(w:World)(d:List Int × Int)(e:Ending)(w':World):Prop:=e= .returned (.tuple #[.string (sB d.1),.int .i64 d.2])/\Ext w w'
theorem BM(c:Int):(enc1 c).length<=4:=by unfold enc1;split;simp;split;simp;split<;>simp
def YC(w:World)(l:List Int)(g:Nat)(s4 s12:Value)(wx:World):Prop:=
 ∃(A:Option Addr)(n c k:Nat),g+k=l.length/\s12= .int .i64 k/\s4= .slice A n c/\n=(lK (l.take k)).length/\n<=4*k/\OwnB wx w.heap.size A n c (lK (l.take k))/\Ext w wx/\Hid ((l.take k).any (λc=> !aY c)=false)
theorem uenc_spec(l:List Int)(A:Option Addr)(n c:Nat)(w:World)(K:aF w ⟨A,n,c⟩ l):Calls prog 77 #[.slice A n c] w (xA w (lM l)):=by
 have j:Hid (lM l=if 4096<l.length then([],7)else if l.any (λc=> !aY c)then([],3)else(lK l,0)):=rfl;generalize lM l=D at*;have O:=K.len.1;subst O;have P:=ah K;clear K;by_cases L:4096<l.length
 .rw[if_pos L]at j;go_enter func77,ntmps77;go_wp2;go_ret2;exact⟨by rw[j.out];rfl,Ext.refl _⟩
 rw[if_neg L]at j;go_enter func77,ntmps77;go_wp2;go_loopg[4,12] l.length (λQ R z S=>YC w l Q R z S);exact⟨none,0,0,0,by omega,rfl,rfl,rfl,by omega,Own.nil_ _ _ _ _,Ext.refl _,rfl⟩;obtain⟨B,m,d,k,hg,rfl,rfl,M,T,h,i,p⟩:=hrel;have s:=ah h;have t:=ah i;have C:=ah M;clear h i M;by_cases y:k<l.length
 .obtain⟨b,o,U,V⟩:=(P.out.ext t.out).at_ y;subst U;have q:=ah (xC (f:=λc=> !aY c) y);have r:=ah (anyM (f:=λc=> !aY c) y);have E:Hid (lK (l.take (k+1))=lK (l.take k)++enc1 l[k]):=ah (by rw[List.take_succ_eq_append_getElem y];unfold lK;rw[List.flatMap_append];simp);generalize l[k]=x at*;go_wp2_with fail;refine(Jc _ _).mono ?_;rintro e w'⟨rfl,rfl⟩;cases F:aY x
  .have G:Hid (D=([],3)):=ah (by rw[j.out,if_pos (r.out (by simp[F]))]);have i:=t.out;go_wp2;go_ret2;exact⟨by rw[G.out];rfl,i⟩
  .have H:Hid ((l.take (k+1)).any (λc=> !aY c)=false):=ah (by rw[q.out,p.out];simp[F]);go_wp2_with fail;refine(uput_spec w wr B m d _ x F s.out t.out C.out (by omega)).mono ?_;rintro e w2⟨W,N,X,rfl,g,a,I⟩;have h4:=BM x;rw[<- E.out]at g a;have h5:N<=m+4:=(by rw[g,E.out,List.length_append,C.out];omega);have J:=ah g;clear g p q r E;go_wp2;go_roundg (l.length - (k+1));exact⟨W,N,X,k+1,by omega,by go_num,rfl,J.out,by omega,a,I,H⟩;omega
 .have Y:l.take k=l:=List.take_of_length_le (by omega);rw[Y]at s p;have G:Hid (D=(lK l,0)):=ah (by rw[j.out,if_neg (by rw[p.out];simp)]);have Z:=BK (OwnB.Jr s.out);have i:=t.out;clear s C p;go_wp2;go_ret2;exact⟨by rw[G.out];rfl,i⟩
theorem Qb(j b:Int)(a:0<=j/\j<=4096)(c: -100000<=b/\b<=100000)(w:World):Calls prog 284 #[.int .i64 j,.int .i64 b] w λe w'=>e= .returned (.int .i64 (gy j b))/\w=w':=by
 go_enter func284,ntmps284;go_wp2
 all_goals(go_ret;refine⟨aU ?_,rfl⟩;unfold gy;omega)
def eF(d:Int):Int:=if d<26 then 97+d else 22+d
theorem ZA{d:Int}(h:0<=d/\d<36):0<=eF d/\eF d<256:=by unfold eF;split<;>omega
theorem Za{d:Int}(h:0<=d/\d<36)(w:World):(Instr.index 9 (.string ⟨#[97,98,99,100,101,102,103,104,105,106,107,108,109,110,111,112,113,114,115,116,117,118,119,120,121,122,48,49,50,51,52,53,54,55,56,57]⟩) (.int .i64 d)).run prog w= .ok (.int .u8 (eF d)) w:=by
 obtain⟨n,rfl⟩:=Int.eq_ofNat_of_zero_le h.1;have a:n<36:=by omega
 have b:=Js (l:=[97,98,99,100,101,102,103,104,105,106,107,108,109,110,111,112,113,114,115,116,117,118,119,120,121,122,48,49,50,51,52,53,54,55,56,57]) w (by intro x c;simp at c;omega) (k:=n) (by simp;omega);refine Eq.trans b (congrArg (λx:Int=>Result.ok (Value.int .u8 x) w) ?_);have:∀m:Fin 36,([97,98,99,100,101,102,103,104,105,106,107,108,109,110,111,112,113,114,115,116,117,118,119,120,121,122,48,49,50,51,52,53,54,55,56,57]:List Int)[m.val]=eF m.val:=by decide
 exact this ⟨n,a⟩
theorem Qa(d:Int)(h:0<=d/\d<36)(w:World):Calls prog 285 #[.int .i64 d] w λe w'=>e= .returned (.int .u8 (eF d))/\w=w':=by
 have a:=Za h w;generalize eF d=v at*;go_enter func285,ntmps285;go_wp2;go_ret;exact⟨rfl,rfl⟩
def Zq(w0:World)(L:List Int)(b v0:Int)(g:Nat)(s0 s1 s7:Value)(wx:World):Prop:=
 ∃(A:Option Addr)(c j:Nat)(v:Int)(acc:List Int),g+j=63/\s7= .int .i64 j/\s1= .int .i64 v/\0<=v/\v<2 ^ g/\v<2147483648/\s0= .slice A (L.length+acc.length) c/\OwnB wx w0.heap.size A (L.length+acc.length) c (L++acc.map eF)/\Ext w0 wx/\acc.length<=j/\Hid (iP b 64 0 v0=acc++iP b (g+1) j v)
theorem Zu(s w:World)(A:Option Addr)(n c:Nat)(L:List Int)(v b:Int)(O:0<=v/\v<2147483648)(hb: -100000<=b/\b<=100000)(d:OwnB w s.heap.size A n c L)(P:Ext s w)(hn:n=L.length)(hm:n<=1099511000000):
 Calls prog 260 #[.slice A n c,.int .i64 v,.int .i64 b] w (PO s (L++(iP b 64 0 v).map eF)):=by
 have x:=ah d;have Q:=ah P;subst hn;clear d P;generalize H:v=v0 at*;have HV:=ah H;clear H;go_enter func260,ntmps260;go_wp2;go_loopg[0,1,7] 63 (λR S T U V=>Zq s L b v0 R S T U V);exact⟨A,c,0,v0,[],by omega,rfl,rfl,O.1,by omega,O.2,rfl,by simpa using x.out,Q.out,by simp,rfl⟩;obtain⟨A,c,j,v,g,hg,rfl,rfl,W,p,X,rfl,d,q,Y,D⟩:=hrel;have x:=ah d;have I:=ah q;have E:(0:Int)<=(j:Int)/\(j:Int)<=4096:=by omega
 have ht:=AA j b;have i:Hid (iP b (gk+1) j v=if v<gy j b then[v]else(gy j b+(v - gy j b) % (36 - gy j b))::iP b gk (j+1) ((v - gy j b) / (36 - gy j b))):=rfl;have J:=ah (Qb j b E hb wr);generalize gy j b=t at*;clear d q;go_wp2_with fail;refine J.out.mono ?_;rintro e K⟨rfl,rfl⟩;by_cases k:v<t
 .rw[if_pos k]at i;have Z:decide (v<t)=true:=by rw[au];exact k
  have z:=ah (Qa v (by omega) wr);obtain⟨B,C,M,f,a,l,_⟩:=yD x.out I.out #[.int .u8 (eF v)] [eF v] 1 rfl rfl (by omega) (by omega);go_wp2_with fail;refine z.out.mono ?_;rintro e K⟨rfl,rfl⟩;obtain⟨y,m⟩:=eY' (eF v);have HY:=ah m;rw[m]at f a;rw[m];clear m;go_wp2_with(at_builtin;refine dH rfl _ _ _ rfl _ _ rfl rfl _ _ f ?_);have N:Hid (iP b 64 0 v0=g++[v]):=ah (by rw[D.out,i.out]);go_ret;exact⟨B,_,C,rfl,by rw[N.out];simp[Nat.add_assoc],by rw[N.out];simpa[HY.out]using a,l⟩
 .rw[if_neg k]at i;have Z:decide (v<t)=false:=by rw[aA];exact k
  have a1:=Int.emod_nonneg (v - t) (b:=36 - t) (by omega);have a2:=Int.emod_lt_of_pos (v - t) (b:=36 - t) (by omega);have r:0<=(v - t) / (36 - t):=Int.ediv_nonneg (by omega) (by omega);have a3:(v - t) / (36 - t)*2<=v:=by
   have h1:=Int.mul_ediv_add_emod (v - t) (36 - t);have h2:(v - t) / (36 - t)*2<=(v - t) / (36 - t)*(36 - t):=Int.mul_le_mul_of_nonneg_left (by omega) r;rw[Int.mul_comm (36 - t)]at h1;omega
  obtain⟨o,rfl⟩:∃g',gk=g'+1:=by
   rcases Nat.eq_zero_or_pos gk with h|h
   .subst h;exact absurd p (by omega)
   .exact⟨gk - 1,by omega⟩
  have F:(v - t) / (36 - t)<2 ^ o:=by rw[Int.pow_succ]at p;omega
  have z:=ah (Qa (t+(v - t) % (36 - t)) (by omega) wr);have G:=aI D (show _=(g++[t+(v - t) % (36 - t)])++iP b (o+1) ((j+1:Nat):Int) ((v - t) / (36 - t))from by rw[i.out];simp);have a6:t+(v - t) % (36 - t)<62:=by omega
  obtain⟨y,m⟩:=eY' (eF (t+(v - t) % (36 - t)));obtain⟨B,C,M,f,a,l,_⟩:=yD x.out I.out #[.int .u8 y] [y] 1 rfl rfl (by omega) (by omega);rw[m]at z;have bJ:Hid (OwnB M s.heap.size B (L.length+g.length+1) C (L++(g++[t+(v - t) % (36 - t)]).map eF)):=ah (by simpa[m]using a);have bC:=ah l;clear a l m D i J;go_wp2_with fail;refine z.out.mono ?_;rintro e K⟨rfl,rfl⟩;go_wp2_with(at_builtin;refine dH rfl _ _ _ rfl _ _ rfl rfl _ _ f ?_);go_roundg o;exact⟨B,C,j+1,_,g++[t+(v - t) % (36 - t)],by omega,by go_num,rfl,r,F,by omega,by simp[Nat.add_assoc],by simpa[Nat.add_assoc]using bJ.out,bC.out,by simp;omega,G⟩;omega
def QH(w:World)(d0:Int)(g:Nat)(s0 s7:Value)(wx:World):Prop:=
 ∃k d:Int,s0= .int .i64 d/\s7= .int .i64 k/\0<=d/\d<35 ^ g/\d<64339296875/\0<=k/\k+36*g=252/\w=wx/\Hid (adG 64 0 d0=adG (57+g) k d)
theorem QG(d p:Int)(f:Bool)(O:0<=d/\d<2147483648)(P:1<=p/\p<=4096)(w:World):Calls prog 261 #[.int .i64 d,.int .i64 p,.bool f] w λe w'=>e= .returned (.int .i64 (nJ d p f))/\w=w':=by
 have n:Hid (nJ d p f=adG 64 0 ((if f then d / 700 else d / 2)+(if f then d / 700 else d / 2) / p)):=ah (by unfold nJ;rw[if_neg (by omega)]);generalize nJ d p f=V at*;obtain⟨a,b⟩:=eY' (if f=true then d / 700 else d / 2);rw[b]at n;have i:0<=a/\a<=1073741824:=by rw[<- b];cases f<;>simp<;>omega
 have r:0<=a / p:=Int.ediv_nonneg (by omega) (by omega);have s:a / p<=a:=Int.ediv_le_self p i.1;have o:Hid (a+a / p<64339296875):=ah (by omega);have I:decide (d<0)=false:=dF';have J:decide (1099511627776<d)=false:=dF';have K:decide (p<1)=false:=dF';have L:decide (4096<p)=false:=dF';go_enter func261,ntmps261;cases f<;>simp only[Bool.false_eq_true,if_false,if_true]at b
 all_goals
  go_wp2_with fail;rw[b];clear b;go_loopg[0,7] 7 (λt y z A=>QH w (a+a / p) t y z A);exact⟨0,a+a / p,rfl,rfl,by omega,o.out,o.out,by omega,by omega,rfl,rfl⟩;obtain⟨k,x,rfl,rfl,B,g,C,D,M,rfl,j⟩:=hrel;have l:Hid (adG (57+gk) k x=if x<=455 then k+36*x / (x+38)else adG (56+gk) (k+36) (x / 35)):=ah (by rw[show 57+gk=(56+gk)+1 by omega];rfl);by_cases q:x<=455
  .have E:Hid (V=k+36*x / (x+38)):=ah (by rw[n.out,j.out,l.out,if_pos q]);have N:0<=36*x / (x+38):=Int.ediv_nonneg (by omega) (by omega);have F:36*x / (x+38)<=36*x:=Int.ediv_le_self _ (by omega);go_wp2;go_ret;exact⟨aU E.out.symm,rfl⟩
  .obtain⟨c,rfl⟩:∃G,gk=G+1:=by
    rcases Nat.eq_zero_or_pos gk with h|h
    .subst h;exact absurd g (by omega)
    .exact⟨gk - 1,by omega⟩
   have H:x / 35<35 ^ c:=(by rw[Int.pow_succ]at g;omega);have m:=aI j (show _=adG (57+c) (k+36) (x / 35)from by rw[l.out,if_neg q];congr 1;omega);clear j l;go_wp2;go_roundg c;exact⟨k+36,x / 35,rfl,rfl,by omega,H,by omega,by omega,by omega,rfl,m⟩;omega
def lN(l:List Int):List Int:=iQ l++if(iQ l).length=0 then[]else[45]
noncomputable def jZ(l:List Int):List Int:=lN l++(xE l).map eF
noncomputable def jE(l:List Int):List Int × Int:=if 256<l.length then([],7)else if l.any (λc=> !aY c)then([],3)else(jZ l,0)
theorem Gf(l:List Int):(iQ l).length<=l.length:=List.length_filter_le _ _
def aG6(w:World)(l:List Int)(g:Nat)(s4 s22:Value)(wx:World):Prop:=
 ∃(A:Option Addr)(c k:Nat),g+k=l.length/\s22= .int .i64 k/\s4= .slice A (iQ (l.take k)).length c/\OwnB wx w.heap.size A (iQ (l.take k)).length c (iQ (l.take k))/\Ext w wx/\Hid ((l.take k).any (λc=> !aY c)=false)
structure PoS(w:World)(l:List Int)(A:Option Addr)(N c h:Nat)(n delta b nr ir:Int)(f:Bool)(acc:List Int)(wx:World):Prop where
 own:OwnB wx w.heap.size A N c (lN l++acc.map eF)
 len:N=(lN l++acc.map eF).length
 ext:Ext w wx
 fw:FwP l n 0 nr ir b f acc
 cnt:h=bU (plc l n 0) l.length
 del:delta=(n - nr)*(h+1) - ir
def Rk(w:World)(l:List Int)(g:Nat)(s4 s7 s8 s9 s10 s11:Value)(wx:World):Prop:=
 ∃(A:Option Addr)(N c h:Nat)(n delta b nr ir:Int)(f:Bool)(acc:List Int),g+h=l.length/\s4= .slice A N c/\s7= .int .i64 h/\s8= .bool f/\s9= .int .i64 n/\s10= .int .i64 delta/\s11= .int .i64 b/\
  Hid (PoS w l A N c h n delta b nr ir f acc wx)/\0<=delta/\0<=nr/\nr<=n/\128<=n/\n<=1114112/\0<=ir/\0<=b/\b<=2400/\N<=257+64*h
def aGm(l:List Int)(n:Int)(w1:World)(g:Nat)(s12 s50:Value)(wx:World):Prop:=
 ∃k:Nat,g+k=l.length/\s50= .int .i64 k/\s12= .int .i64 (mnP n (l.take k))/\wx=w1
structure PiS(w:World)(l:List Int)(A:Option Addr)(N c p h:Nat)(m delta b nr ir:Int)(f:Bool)(acc:List Int)(wx:World):Prop where
 own:OwnB wx w.heap.size A N c (lN l++acc.map eF)
 len:N=(lN l++acc.map eF).length
 ext:Ext w wx
 fw:FwP l m p nr ir b f acc
 cnt:h=bU (plc l m p) l.length
 del:delta=(m - nr)*(h+1)+bU (plc l m p) p - ir
def aGh(w:World)(l:List Int)(m:Int)(h0:Nat)(g:Nat)(s4 s7 s8 s10 s11 s71:Value)(wx:World):Prop:=
 ∃(A:Option Addr)(N c p h:Nat)(delta b nr ir:Int)(f:Bool)(acc:List Int),g+p=l.length/\s71= .int .i64 p/\s4= .slice A N c/\s7= .int .i64 h/\s8= .bool f/\s10= .int .i64 delta/\s11= .int .i64 b/\
  Hid (PiS w l A N c p h m delta b nr ir f acc wx)/\0<=delta/\0<=nr/\nr<=m/\0<=ir/\0<=b/\b<=2400/\N<=257+64*h/\h0<=h/\Hid (h0<h\/∀q(hq:q<l.length),q<p->l[q]≠m)
theorem aGc(l:List Int)(A:Option Addr)(n c:Nat)(w:World)(hi:aF w ⟨A,n,c⟩ l):Calls prog 204 #[.slice A n c] w (xA w (jE l)):=by
 have HD:Hid (jE l=if 256<l.length then([],7)else if l.any (λc=> !aY c)then([],3)else(jZ l,0)):=rfl;generalize jE l=D at*;have hn:=hi.len.1;subst hn;have HI:=ah hi;clear hi;by_cases h1:256<l.length
 .rw[if_pos h1]at HD;go_enter func204,ntmps204;go_wp2;go_ret2;exact⟨by rw[HD.out];rfl,Ext.refl _⟩
 rw[if_neg h1]at HD;go_enter func204,ntmps204;go_wp2;go_loopg[4,22] l.length (λX s4 bo Y=>aG6 w l X s4 bo Y);exact⟨none,0,0,by omega,rfl,rfl,Own.nil_ _ _ _ _,Ext.refl _,rfl⟩;obtain⟨B,d,k,hg,rfl,rfl,aa,hb,HN⟩:=hrel;have HO:=ah aa;have HB:=ah hb;have al:=Gf (l.take k);rw[List.length_take]at al;clear aa hb;by_cases hk:k<l.length
 .obtain⟨b,o,hA,b5⟩:=(HI.out.ext HB.out).at_ hk;subst hA;have am:=ah (xC (f:=λc=> !aY c) hk);have an:=ah (anyM (f:=λc=> !aY c) hk);have P:=ah (JK hk);generalize l[k]=x at*;go_wp2_with fail;refine(xJ _ _).mono ?_;rintro e w'⟨rfl,rfl⟩;cases hs:aY x
  .have HF:Hid (D=([],3)):=ah (by rw[HD.out,if_pos (an.out (by simp[hs]))]);have hb:=HB.out;have e1:(utfLen x==0)=true:=(by rw[beq_iff_eq];exact(utfLen_eq_zero x).2 hs);go_wp2;go_ret2;exact⟨by rw[HF.out];rfl,hb⟩
  .have b6:Hid ((l.take (k+1)).any (λc=> !aY c)=false):=ah (by rw[am.out,HN.out];simp[hs]);have e1:(utfLen x==0)=false:=(by rw[aP];intro h;rw[(utfLen_eq_zero x).1 h]at hs;cases hs);have hx:=uY hs;by_cases G:x<128
   .obtain⟨V,W,Z,E,r,Q,_⟩:=yD HO.out HB.out #[.int .u8 x] [x] 1 rfl rfl (by omega) (by omega);rw[if_pos G]at P;have bJ:Hid (OwnB Z w.heap.size V (iQ (l.take (k+1))).length W (iQ (l.take (k+1)))):=ah (by rw[P.out,List.length_append];exact r);have bC:=ah Q;have bp:Hid ((iQ (l.take (k+1))).length=(iQ (l.take k)).length+1):=ah (by rw[P.out,List.length_append];rfl);clear r Q HN am an P;go_wp2_with(at_builtin;refine dH rfl _ _ _ rfl _ _ rfl rfl _ _ E ?_);go_roundg (l.length - (k+1));exact⟨V,W,k+1,by omega,by go_num,by rw[bp.out],bJ.out,bC.out,b6⟩;omega
   .rw[if_neg G,List.append_nil]at P;clear HN am an;go_wp2;go_roundg (l.length - (k+1));exact⟨B,d,k+1,by omega,by go_num,by rw[P.out],by rw[P.out];exact HO.out,HB.out,b6⟩;omega
 .have he:l.take k=l:=List.take_of_length_le (by omega);rw[he]at HO HN al;have HF:Hid (D=(jZ l,0)):=ah (by rw[HD.out,if_neg (by rw[HN.out];simp)]);have y:Hid ((iQ l).length=bU (plc l 128 0) l.length):=ah (by rw[JR l.length (Nat.le_refl _),List.take_of_length_le (Nat.le_refl _)])
  have mg:Hid (∀x∈l,0<=x/\x<=1114111):=ah (λx hx=>uY (by
   cases hs:aY x
   .have h:l.any (λc=> !aY c)=true:=List.any_eq_true.2 ⟨x,hx,by simp[hs]⟩;rw[HN.out]at h;cases h
   .rfl))
  rw[he];clear HD HN he;have hl:l.length<=256:=by omega
  clear al h1 hg;generalize wr=w2 at*;have bq:=Gf l;have gZ:Hid (lN l=iQ l++if(iQ l).length=0 then[]else[45]):=rfl;obtain⟨H,hH⟩:=eY' ((iQ l).length);have oG:Hid ((lN l).length=H+if H=0 then 0 else 1):=ah (by rw[gZ.out,List.length_append,hH];split<;>rfl);rw[hH]at HO y bq gZ |-;have a0:Hid (∀(V:Option Addr)(N5 W:Nat)(Z:World),OwnB Z w.heap.size V N5 W (lN l)->N5=(lN l).length->Ext w Z->PoS w l V N5 W H 128 0 72 128 0 true [] Z):=ah (λV N5 W Z a1 a2 a3=>⟨by simpa using a1,by simpa using a2,a3,ZH l,y.out,by omega⟩);clear hH y;by_cases h0:H=0
  case' pos=>
   have kR:Hid (PoS w l B H d H 128 0 72 128 0 true [] w2):=ah (a0.out B H d w2 (by rw[gZ.out,if_pos h0,List.append_nil];exact HO.out) (by rw[oG.out,if_pos h0];omega) HB.out);have R:decide ((0:Int)<(H:Int))=false:=dF';have b7:decide (0<H)=false:=dF';clear HO HB a0 oG gZ h0;go_wp2;go_loopg[4,7,8,9,10,11] (l.length - H) (λX s4 s7 s8 s9 S T Y=>Rk w l X s4 s7 s8 s9 S T Y)
   case atStart=>exact⟨B,H,d,H,128,0,72,128,0,true,[],by omega,rfl,rfl,rfl,rfl,rfl,rfl,kR,by omega,by omega,by omega,by omega,by omega,by omega,by omega,by omega,by omega⟩
  case' neg=>
   obtain⟨V,W,Z,E,r,Q,_⟩:=yD HO.out HB.out #[.int .u8 45] [45] 1 rfl rfl (by omega) (by omega);have R:decide ((0:Int)<(H:Int))=true:=dT';have b7:decide (0<H)=true:=dT';have kR:Hid (PoS w l V (H+1) W H 128 0 72 128 0 true [] Z):=ah (a0.out V _ W Z (by rw[gZ.out,if_neg h0];exact r) (by rw[oG.out,if_neg h0]) Q);clear HO r HB Q a0 oG gZ h0;go_wp2_with(at_builtin;refine dH rfl _ _ _ rfl _ _ rfl rfl _ _ E ?_);clear E;go_loopg[4,7,8,9,10,11] (l.length - H) (λX s4 s7 s8 s9 S T Y=>Rk w l X s4 s7 s8 s9 S T Y)
   case atStart=>exact⟨V,H+1,W,H,128,0,72,128,0,true,[],by omega,rfl,rfl,rfl,rfl,rfl,rfl,kR,by omega,by omega,by omega,by omega,by omega,by omega,by omega,by omega,by omega⟩
  all_goals
   clear R b7 kR;obtain⟨A6,N6,c6,h,n,g,b,z,ir,f,j,hg,rfl,rfl,rfl,rfl,rfl,rfl,i,R,I,a6,bA,bB,J,K,L,hN⟩:=hrel;generalize wr=w3 at*;by_cases hh:h<l.length
   .have HM:=ah (aGS n l)
    have HX:Hid (∃q,∃C:q<l.length,128<=l[q]/\n<=l[q]):=ah (by
     have h1:=hh;rw[i.out.cnt]at h1;obtain⟨q,C,hf⟩:=QZ h1;rw[ql C]at hf;simp only[Bool.or_eq_false_iff,aA]at hf
     exact⟨q,C,by omega,by omega⟩)
    go_wp2;go_loopg[12,50] l.length (λX br bs Y=>aGm l n w3 X br bs Y);exact⟨0,by omega,rfl,rfl,rfl⟩;obtain⟨p,bb,rfl,rfl,rfl⟩:=hrel;by_cases O:p<l.length
    .obtain⟨b',o',hA,b5⟩:=(HI.out.ext i.out.ext).at_ O;subst hA;have P:Hid (mnP n (l.take (p+1))=if n<=l[p]then min (mnP n (l.take p)) l[p]else mnP n (l.take p)):=ah (by rw[List.take_succ_eq_append_getElem O,aGY]);generalize l[p]=x at*;generalize mnP n (l.take p)=m at*;by_cases a7:n<=x
     .have bE:decide (n<=x)=true:=(by rw[au];exact a7);by_cases bc:m<=x
      .have U:Hid (mnP n (l.take (p+1))=m):=ah (by rw[P.out,if_pos a7,Int.min_eq_left bc]);go_wp2;go_roundg (l.length - (p+1));exact⟨p+1,by omega,by go_num,by rw[U.out];first|done|rw[Int.min_eq_left bc],rfl⟩;omega
      .have U:Hid (mnP n (l.take (p+1))=x):=ah (by rw[P.out,if_pos a7,Int.min_eq_right (by omega)]);go_wp2;go_roundg (l.length - (p+1));exact⟨p+1,by omega,by go_num,by rw[U.out];first|done|rw[Int.min_eq_right (show x<=m by omega)],rfl⟩;omega
     .have U:Hid (mnP n (l.take (p+1))=m):=ah (by rw[P.out,if_neg a7]);go_wp2;go_roundg (l.length - (p+1));exact⟨p+1,by omega,by go_num,by rw[U.out],rfl⟩;omega
    .have he:l.take p=l:=List.take_of_length_le (by omega);rw[he];obtain⟨m,hm⟩:=eY' (mnP n l);rw[hm]at HM |-;have bd:n<=m/\m<=1114111:=by
      obtain⟨q,C,h1,h2⟩:=HX.out;obtain⟨a1,a2,a3⟩:=HM.out;have h3:=a2 _ (List.getElem_mem C) h2;have h4:=mg.out _ (List.getElem_mem C);refine⟨?_,by omega⟩;rcases a3 with a3|a3
      .omega
      .exact a3.2
     have be:Hid (m∈l):=ah (by
      rcases HM.out.2.2 with a3|a3
      .omega
      .exact a3.1)
     have a8:=Eh (a:=m - n) (h:=h) (by omega) (by omega) (by omega) (by omega);have bt:=Eh (a:=n - z) (h:=h) (by omega) (by omega) (by omega) (by omega);have F:=i.out.del;have ao:g<=286326784:=by omega
     have s:Hid (PiS w l A6 N6 c6 0 h m (g+(m - n)*((h:Int)+1)) b z ir f j wr):=ah (by
      have hj:=QM bd.1 (λc hc hn=>HM.out.2.1 c hc hn);refine⟨i.out.own,i.out.len,i.out.ext,aGX i.out.fw bd.1 (λc hc hn=>HM.out.2.1 c hc hn),by rw[<- hj];exact i.out.cnt,?_⟩;have e1:(m - z)*((h:Int)+1)=(m - n)*((h:Int)+1)+(n - z)*((h:Int)+1):=(by rw[<- Int.add_mul];congr 1;omega);have e2:bU (plc l m 0) 0=0:=rfl;rw[e1,e2]
      omega)
     clear hm HM HX F bt he;go_wp2;go_loopg[4,7,8,10,11,71] l.length (λX s4 s7 s8 S T bu Y=>aGh w l m h X s4 s7 s8 S T bu Y);exact⟨A6,N6,c6,0,h,_,b,z,ir,f,j,by omega,rfl,rfl,rfl,rfl,rfl,rfl,s,by omega,I,by omega,J,K,L,hN,Nat.le_refl _,ah (.inr (λq _ C=>by omega))⟩;clear i s ao a8 R I a6 J K L hN O bb;obtain⟨A7,yX,c7,p,t,g,b,z,ir,f,j,bb,rfl,rfl,rfl,rfl,rfl,rfl,i,R,I,a6,J,K,L,hN,bf,HH⟩:=hrel;have a9:=uZ (plc l m p) l.length;rw[<- i.out.cnt]at a9;have a8:=Eh (a:=m - z) (h:=t) (by omega) (by omega) (by omega) (by omega);have F:=i.out.del;by_cases O:p<l.length
     .have bv:=Nat.le_trans (uZ (plc l m p) p) (Nat.le_of_lt O);have ao:g<=286327100:=(by omega);obtain⟨b',o',hA,b5⟩:=(HI.out.ext i.out.ext).at_ O;subst hA;clear F a8 bv;by_cases G:l[p]<m
      .have av:l[p]≠m:=(by omega);have y:=ah (Qx O av (by omega));have s:Hid (PiS w l A7 yX c7 (p+1) t m (g+1) b z ir f j wr):=ah ⟨i.out.own,i.out.len,i.out.ext,QA i.out.fw O av,by rw[y.out.1];exact i.out.cnt,by rw[y.out.2,if_pos G];have:=i.out.del;omega⟩
       have aw:Hid (h<t\/∀q(C:q<l.length),q<p+1->l[q]≠m):=ah (HH.out.elim .inl (λk=> .inr (λq C h2=>by
        by_cases e:q=p
        .subst e;exact av
        .exact k q C (by omega))))
       clear y;generalize l[p]=x at*;go_wp2;go_roundg (l.length - (p+1));exact⟨A7,yX,c7,p+1,t,_,b,z,ir,f,j,by omega,by go_num,rfl,rfl,rfl,rfl,rfl,s,by omega,I,a6,J,K,L,hN,bf,aw⟩;omega
      by_cases M:l[p]=m
      .have y:=ah (aDn O M (by omega));have bh:=i.out.len;have ax:0<=g/\g<2147483648:=(by omega);have bw: -100000<=b/\b<=100000:=(by omega);have ay:=ah (Zu w wr A7 yX c7 _ g b ax bw i.out.own i.out.ext bh (by omega));have bi:(1:Int)<=((t+1:Nat):Int)/\((t+1:Nat):Int)<=4096:=(by omega);have bj:=ah (λw=>QG g ((t+1:Nat):Int) f ax bi w);have az:=Gg (f:=f) ax.1 bi.1;have bx:=G9 b 64 0 g;have N:=ah (aDv (v:=g) i.out.fw O M (by omega) (by rw[<- i.out.cnt];exact i.out.del));rw[<- i.out.cnt]at N y;rw[show((t:Int)+1)=((t+1:Nat):Int)by omega]at N;obtain⟨b2,bk⟩:=eY' (nJ g ((t+1:Nat):Int) f);rw[bk]at bj az N;obtain⟨ds,bl⟩:=eY' (iP b 64 0 g);rw[bl]at ay bx N;clear bh bk bl;generalize l[p]=x at*;go_wp2_with fail;refine ay.out.mono ?_;rintro e w8⟨A8,n8,c8,rfl,aD,rQ,bm⟩;have bG:n8<=yX+64:=by
        have:=i.out.len;rw[aD,List.length_append,List.length_map];omega
       have s:Hid (PiS w l A8 n8 c8 (p+1) (t+1) m 0 b2 m (bU (plc l m p) p+1) false (j++ds) w8):=ah ⟨by simpa using rQ,by simpa using aD,bm,N.out,y.out.1.symm,by rw[y.out.2];omega⟩;clear aD rQ bm ay N y;go_wp2_with fail;refine(bj.out w8).mono ?_;rintro e w9⟨rfl,rfl⟩;go_wp2;go_roundg (l.length - (p+1));exact⟨A8,n8,c8,p+1,t+1,0,b2,m,_,false,j++ds,by omega,by go_num,rfl,by go_num,rfl,rfl,rfl,s,by omega,by omega,by omega,by omega,az.1,az.2,by omega,by omega,ah (.inl (by omega))⟩;omega
      .have y:=ah (Qx O M (by omega));have s:Hid (PiS w l A7 yX c7 (p+1) t m g b z ir f j wr):=ah ⟨i.out.own,i.out.len,i.out.ext,QA i.out.fw O M,by rw[y.out.1];exact i.out.cnt,by rw[y.out.2,if_neg G];have:=i.out.del;omega⟩
       have aw:Hid (h<t\/∀q(C:q<l.length),q<p+1->l[q]≠m):=ah (HH.out.elim .inl (λk=> .inr (λq C h2=>by
        by_cases e:q=p
        .subst e;exact M
        .exact k q C (by omega))))
       clear y;generalize l[p]=x at*;have bL:(x==m)=false:=(by rw[aP];exact M);go_wp2;go_roundg (l.length - (p+1));exact⟨A7,yX,c7,p+1,t,_,b,z,ir,f,j,by omega,by go_num,rfl,rfl,rfl,rfl,rfl,s,by omega,I,a6,J,K,L,hN,bf,aw⟩;omega
     .have G:h<t:=by
       rcases HH.out with h'|h'
       .exact h'
       .obtain⟨q,C,e⟩:=List.getElem_of_mem be.out;exact absurd e (h' q C (by omega))
      have bn:p=l.length:=by omega
      have s:Hid (PoS w l A7 yX c7 t (m+1) (g+1) b z ir f j wr):=ah (by
       have hj:plc l m l.length=plc l (m+1) 0:=Qu (by omega) (λc _ _ h=>by omega);have hc:=i.out.cnt;have hd:=i.out.del;have hf:=i.out.fw;rw[bn]at hc hd hf;rw[<- hc]at hd;refine⟨i.out.own,i.out.len,i.out.ext,aDp hf (by omega) (λc _ _ h=>by omega),by rw[<- hj];exact hc,?_⟩;rw[show m+1 - z=(m - z)+1 by omega,Int.add_mul]
       omega)
      have ao:g<=286327100:=by
       have:=uZ (plc l m p) p;omega
      clear i HH be F a8 bn;go_wp2;go_roundg (l.length - t);exact⟨A7,yX,c7,t,m+1,g+1,b,z,ir,f,j,by omega,rfl,rfl,rfl,rfl,rfl,rfl,s,by omega,I,by omega,by omega,by omega,J,K,L,hN⟩;omega
   .have a9:=uZ (plc l n 0) l.length;rw[<- i.out.cnt]at a9;have hR:=aDo i.out.fw (Rf (by rw[<- i.out.cnt];omega));have HP:Hid (jZ l=lN l++j.map eF):=ah (by unfold jZ;rw[JW hR]);have bz:=BK (OwnB.Jr i.out.own);have hb:=i.out.ext;rw[<- HP.out]at bz;clear a9 hR i;go_wp2;go_ret2;exact⟨by rw[HF.out];rfl,hb⟩
def je(c:Int)(l:List Int):Nat->Int
 |0=> -1
 |k+1=>if l.getD k 0=c then k else je c l k
theorem Gv(c:Int)(l:List Int):∀k,-1<=je c l k/\je c l k<k
 |0=>by unfold je;omega
 |k+1=>by
  have:=Gv c l k;unfold je;split<;>omega
def aJJ(l:List Int)(c:Int)(w:World)(g:Nat)(s5:Value)(wx:World):Prop:=
 s5= .int .i64 ((g:Int) - 1)/\g<=l.length/\wx=w/\Hid (je c l l.length=je c l g)
theorem aJ9(l:List Int)(h:IsB l)(r:l.length<=1099511627776)(c:Int)(w:World):Calls prog 294 #[.string (sB l),.int .u8 c] w λe w'=>e= .returned (.int .i64 (je c l l.length))/\w=w':=by
 have i:=ah h;clear h;go_enter func294,ntmps294;go_wp2;go_loopg[5] l.length (λj m n=>aJJ l c w j m n);exact⟨rfl,Nat.le_refl _,rfl,rfl⟩;obtain⟨rfl,p,rfl,f⟩:=hrel;rcases Nat.eq_zero_or_pos gk with g|g
 .subst g;have a:Hid (je c l l.length= -1):=ah (by rw[f.out];rfl);go_wp2;go_ret;exact⟨aU a.out.symm,rfl⟩
 .obtain⟨k,rfl⟩:=gS' gk;have q:=ixc i.out (k:=k) (by omega) wr;rw[show((k+1:Nat):Int) - 1=(k:Int)by omega];have b:Hid (je c l (k+1)=if l.getD k 0=c then(k:Int)else je c l k):=rfl;generalize l.getD k 0=y at*;by_cases d:y=c
  .have a:Hid (je c l l.length=k):=ah (by rw[f.out,b.out,if_pos d]);have o:(y==c)=true:=(by rw[beq_iff_eq];exact d);clear d;go_wp2;go_ret;exact⟨aU a.out.symm,rfl⟩
  .have a:Hid (je c l l.length=je c l k):=ah (by rw[f.out,b.out,if_neg d]);have o:(y==c)=false:=(by rw[aP];exact d);go_wp2;go_roundg k;exact⟨rfl,by omega,rfl,a⟩;omega
theorem aJP(l:List Int)(b:IsB l)(d:l.length<=1099511627776)(c:Int)(w:World):Calls prog 274 #[.string (sB l),.int .u8 c] w λe w'=>e= .returned (.int .i64 (je c l l.length))/\w=w':=by
 have a:=ah (aJ9 l b d c w);generalize je c l l.length=V at*;go_enter func274,ntmps274;go_wp2_with(refine a.out.mono ?_;rintro e w'⟨rfl,rfl⟩);go_ret;exact⟨rfl,rfl⟩
def fE(b:Int):Option Int:=if 97<=b/\b<=122 then some (b - 97)else if 65<=b/\b<=90 then some (b - 65)else if 48<=b/\b<=57 then some (b - 22)else none
theorem RN{b d:Int}(h:fE b=some d):0<=d/\d<36:=by
 unfold fE at h
 repeat' split at h
 all_goals(first|(injection h with h;omega)|cases h)
def Kt:Option Int->Value
 |some d=> .tuple #[.int .i64 d,.bool true]
 |none=> .tuple #[.int .i64 0,.bool false]
theorem aJF(b:Int)(h:0<=b/\b<256)(w:World):Calls prog 295 #[.int .u8 b] w λe w'=>e= .returned (Kt (fE b))/\w=w':=by
 have a:Hid (fE b=if 97<=b/\b<=122 then some (b - 97)else if 65<=b/\b<=90 then some (b - 65)else if 48<=b/\b<=57 then some (b - 22)else none):=rfl;generalize fE b=V at*;by_cases c:97<=b/\b<=122
 .rw[if_pos c]at a;rw[a.out];go_enter func295,ntmps295;go_wp2
  all_goals(go_ret2;exact⟨rfl,rfl⟩)
 rw[if_neg c]at a;by_cases d:65<=b/\b<=90
 .rw[if_pos d]at a;rw[a.out];go_enter func295,ntmps295;go_wp2
  all_goals(go_ret2;exact⟨rfl,rfl⟩)
 rw[if_neg d]at a;by_cases f:48<=b/\b<=57
 .rw[if_pos f,show b - 22=b - 48+26 by omega]at a;rw[a.out];go_enter func295,ntmps295;go_wp2
  all_goals(go_ret2;exact⟨rfl,rfl⟩)
 .rw[if_neg f]at a;rw[a.out];go_enter func295,ntmps295;go_wp2
  all_goals(first|omega|(go_ret2;exact⟨rfl,rfl⟩))
def aJr(s:List Int)(b:Int)(e:Ending):Prop:=
 (jl b (s.map fE) 0 0 1=none/\e= .returned (.tuple #[.int .i64 0,.string (sB []),.bool false]))\/
 ∃(v:Int)(m:Nat),jl b (s.map fE) 0 0 1=some (v,(s.drop m).map fE)/\0<m/\m<=s.length/\0<=v/\v<=2147483648/\e= .returned (.tuple #[.int .i64 v,.string (sB (s.drop m)),.bool true])
def aJk(s:List Int)(b:Int)(w:World)(g:Nat)(s7 s8 s9:Value)(wx:World):Prop:=
 ∃(j:Nat)(v x:Int),g+j=s.length/\s9= .int .i64 j/\s7= .int .i64 v/\s8= .int .i64 x/\0<=v/\v<=2147483648/\1<=x/\x<=2147483648/\wx=w/\Hid (jl b (s.map fE) 0 0 1=jl b ((s.drop j).map fE) j v x)
theorem Gw{d x:Int}(b:0<=d)(c:d<=36)(a:0<=x)(f:x<=2147483648):0<=d*x/\d*x<=77309411328:=
 ⟨Int.mul_nonneg b a,Int.le_trans (Int.mul_le_mul_of_nonneg_right c a) (by omega)⟩
theorem aJq(s:List Int)(O:IsB s)(hm:s.length<=4096)(b:Int)(hb: -100000<=b/\b<=100000)(w:World):Calls prog 275 #[.string (sB s),.int .i64 b] w λe w'=>aJr s b e/\Ext w w':=by
 have J:=ah O;clear O;go_enter func275,ntmps275;go_wp2;go_loopg[7,8,9] s.length (λP Q R S T=>aJk s b w P Q R S T);exact⟨0,0,1,by omega,rfl,rfl,rfl,by omega,by omega,by omega,by omega,rfl,rfl⟩;obtain⟨j,v,x,hg,rfl,rfl,rfl,U,V,X,m,rfl,a⟩:=hrel;by_cases C:j<s.length
 .have hx:=ixc J.out C wr;have Y:=wG J.out j;have n:Hid ((s.drop j).map fE=fE (s.getD j 0)::(s.drop (j+1)).map fE):=ah (by rw[drop_at s j C,List.map_cons,getD_lt s j 0 C]);have B:=ah (aJF (s.getD j 0) Y wr);have D:(0:Int)<=(j:Int)/\(j:Int)<=4096:=by omega
  have ht:=AA j b;have K:=ah (λw=>Qb j b D hb w);have o:Hid (gy j b=gy j b):=rfl;cases c:fE (s.getD j 0)with
  |none=>
   rw[c]at n B;have E:Hid (jl b (s.map fE) 0 0 1=none):=ah (by rw[a.out,n.out];rfl);generalize s.getD j 0=y at*;clear K ht o;go_wp2_with fail;refine B.out.mono ?_;rintro e w'⟨rfl,rfl⟩;simp only[Kt];go_wp2;go_ret3;exact⟨.inl ⟨E.out,rfl⟩,Ext.refl _⟩
  |some d=>
   rw[c]at n B;have F:=RN c;have G:=Gw F.1 (by omega) (by omega) m;have L:Hid (jl b (some d::(s.drop (j+1)).map fE) j v x=if d<gy j b then some (min (v+d*x) qJ,(s.drop (j+1)).map fE)else jl b ((s.drop (j+1)).map fE) (j+1) (min (v+d*x) qJ) (min (x*(36 - gy j b)) qJ)):=rfl;rw[n.out,L.out]at a;have h:=BL wr (l:=s) (k:=j+1) (by omega)
   push_cast at h
   generalize s.getD j 0=y at*;generalize gy j b=t at*;clear L n o;have r:=Gw (d:=36 - t) (by omega) (by omega) (by omega) m;rw[Int.mul_comm]at r;obtain⟨p,Z⟩:=eY' (d*x);obtain⟨q,hq⟩:=eY' (x*(36 - t));rw[Z]at G a;rw[hq]at r a;have f:0<=min (v+p) 2147483648/\min (v+p) 2147483648<=2147483648:=(by omega);obtain⟨u,M⟩:=eY' (min (v+p) 2147483648);have HU:Hid (min (v+p) qJ=u):=ah M;rw[M]at f;rw[HU.out]at a;have i:1<=min q 2147483648/\min q 2147483648<=2147483648:=by
    have:x*1<=x*(36 - t):=Int.mul_le_mul_of_nonneg_left (by omega) (by omega);omega
   obtain⟨z,A⟩:=eY' (min q 2147483648);have HQ:Hid (min q qJ=z):=ah A;rw[A]at i;rw[HQ.out]at a;go_wp2_with fail;refine B.out.mono ?_;rintro e w'⟨rfl,rfl⟩;simp only[Kt];go_wp2_with fail;refine(K.out _).mono ?_;rintro e w'⟨rfl,rfl⟩;by_cases g:d<t
   .rw[if_pos g]at a;have H:decide (d<t)=true:=(by rw[au];exact g);have N:∀W,(Instr.slice 9 (.string (sB s)) (some (.int .i64 ((j:Int)+1))) none none).run prog W= .ok (.string (sB (s.drop (j+1)))) W:=λW=>by
     have:=BL W (l:=s) (k:=j+1) (by omega)
     push_cast at this
     exact this
    clear h;go_wp2_with fail;go_quiet (fail);go_wp2;go_ret3;exact⟨.inr ⟨u,j+1,a.out,by omega,by omega,f.1,f.2,rfl⟩,(Ext.refl _).lG _⟩
   .rw[if_neg g]at a;have H:decide (d<t)=false:=(by rw[aA];exact g);have I:Hid (jl b (s.map fE) 0 0 1=jl b ((s.drop (j+1)).map fE) ((j+1:Nat):Int) u z):=a;clear h;go_wp2;go_roundg (s.length - (j+1));exact⟨j+1,u,z,by omega,by go_num,rfl,rfl,f.1,f.2,i.1,i.2,rfl,I⟩;omega
 .have F:s.drop j=[]:=bQ s j (by omega);have E:Hid (jl b (s.map fE) 0 0 1=none):=ah (by rw[a.out,F];rfl);go_wp2;go_ret3;exact⟨.inl ⟨E.out,rfl⟩,Ext.refl _⟩
def resD:Dec->List Int × Int
 | .ok l=>(l,0)
 | .C9=>([],12)
 | .over=>([],8)
def hyB(s:List Int):Nat:=(je 45 s s.length).toNat
def pF(s:List Int):List Int:=if hyB s=0 then s else s.drop (hyB s+1)
def pdU(s:List Int):List Int × Int:=
 if 2048<s.length then([],7)else if(s.take (hyB s)).any (λb=>decide (128<=b))then([],12)
 else resD (decP (pF s).length ((pF s).map fE) (s.take (hyB s)) 128 0 72 true)
def Cc(w:World)(d:List Int × Int)(e:Ending)(w':World):Prop:=∃A n c,e= .returned (.tuple #[.slice A n c,.int .i64 d.2])/\aF w' ⟨A,n,c⟩ d.1/\Ext w w'
def aKB(w1:World)(bs:List Int)(g:Nat)(s4 s28:Value)(wx:World):Prop:=
 ∃(A:Option Addr)(c k:Nat),g+k=bs.length/\s28= .int .i64 k/\s4= .slice A k c/\aN wx w1.heap.size A k c (bs.take k)/\Ext w1 wx/\Hid ((bs.take k).any (λb=>decide (128<=b))=false)
def Gx(w:World)(D:List Int × Int)(g:Nat)(s0 s4 s8 s9 s10 s11:Value)(wx:World):Prop:=
 ∃(A:Option Addr)(N c:Nat)(r o:List Int)(n i b:Int)(f:Bool),s0= .string (sB r)/\s4= .slice A N c/\s8= .bool f/\s9= .int .i64 n/\s10= .int .i64 i/\s11= .int .i64 b/\Hid (N=o.length)/\Hid (IsB r)/\r.length<=g/\N+r.length<=2048/\
  Hid (aN wx w.heap.size A N c o)/\Hid (Ext w wx)/\0<=n/\n<=1114111/\0<=i/\i<=N/\0<=b/\b<=2400/\Hid (D=resD (decP g (r.map fE) o n i b f))
theorem RX{w:World}{b f n c size:Nat}{e:TypeId}{A:Option Addr}{i:List Value}(h:Own w b e size A n c i)(o:f<=b):Own w f e size A n c i:=by
 refine⟨h.1,?_⟩;rcases h.2 with j|⟨g,a,d,k,l,m⟩
 .exact .inl j
 .exact .inr ⟨g,a,d,k,Nat.le_trans o l,m⟩
theorem KE{g:Nat}{a:List (Option Int)}{o:List Int}{n i b:Int}{f:Bool}(h:a≠[]):decP (g+1) a o n i b f=(match jl b a 0 0 1 with
 |none=> .C9
 |some (v,r)=>
  if 2147483647<v\/1114111<n+(v+i) / (o.length+1)then .over
  else if utfLen (n+(v+i) / (o.length+1))=0 then .C9
  else decP g r (nY o ((v+i) % (o.length+1)).toNat (n+(v+i) / (o.length+1))) (n+(v+i) / (o.length+1)) ((v+i) % (o.length+1)+1) (nJ v (o.length+1) f) false):=by
 cases a with
 |nil=>exact absurd rfl h
 |cons d a=>rfl
theorem aJw(s:List Int)(hs:IsB s)(w:World):Calls prog 229 #[.string (sB s)] w (Cc w (pdU s)):=by
 have a:Hid (pdU s=if 2048<s.length then([],7)else if(s.take (hyB s)).any (λb=>decide (128<=b))then([],12)else resD (decP (pF s).length ((pF s).map fE) (s.take (hyB s)) 128 0 72 true)):=rfl;have HL:=ah hs;generalize pdU s=D at*;clear hs;by_cases h1:2048<s.length
 .rw[if_pos h1]at a;go_enter func229,ntmps229;go_wp2;go_ret2;exact⟨none,0,0,by rw[a.out];rfl,by rw[a.out];exact aF.nil_ w,Ext.refl _⟩
 rw[if_neg h1]at a;have d:Hid (pF s=if hyB s=0 then s else s.drop (hyB s+1)):=rfl;have T:=ah (aJP s HL.out (by omega) 45 w);have bp:=Gv 45 s s.length;obtain⟨H,hH⟩:=eY' (hyB s);have U:H=(je 45 s s.length).toNat:=by rw[<- hH];rfl
 rw[hH]at a d;generalize je 45 s s.length=La at*;go_enter func229,ntmps229;go_wp2_with fail;refine T.out.mono ?_;rintro e w'⟨rfl,rfl⟩;clear T hH;by_cases V:H=0
 case' pos=>
  have X:decide (0<La)=false:=dF';rw[V,List.take_zero]at a;rw[if_pos V]at d;rw[d.out]at a;have t:Hid (Gx w D s.length (.string (sB s)) (.slice none 0 0) (.bool true) (.int .i64 128) (.int .i64 0) (.int .i64 72) w):=ah ⟨none,0,0,s,[],128,0,72,true,rfl,rfl,rfl,rfl,rfl,rfl,rfl,HL,Nat.le_refl _,by omega,ah (Own.nil_ _ _ _ _),ah (Ext.refl _),by omega,by omega,by omega,by omega,by omega,by omega,a⟩;clear a d V U;go_wp2;go_loopg[0,4,8,9,10,11] s.length (λY s0 Z s8 s9 F G wx=>Gx w D Y s0 Z s8 s9 F G wx)
  case atStart=>exact t.out
 case' neg=>
  obtain rfl:La=(H:Int):=by omega
  clear U;rw[if_neg V]at d;have X:decide (0<(H:Int))=true:=dT';have aZ:decide (0<H)=true:=dT';have b0:=Aq w (l:=s) (k:=H) (by omega);have gZ:=ah (wX HL.out H);have b3:(s.take H).length=H:=by rw[List.length_take];omega
  obtain⟨cc,w1,b4,a1,I,_⟩:=FN (w:=w) gZ.out (by omega);have bo:∀W,(Instr.slice 9 (.string (sB s)) (some (.int .i64 ((H:Int)+1))) none none).run prog W= .ok (.string (sB (s.drop (H+1)))) W:=λW=>by
   have:=BL W (l:=s) (k:=H+1) (by omega)
   push_cast at this
   exact this
  have a2:Hid ((s.drop (H+1)).length=s.length - (H+1)):=ah (List.length_drop);have b5:=ah (zu HL.out (H+1));rw[d.out]at a;generalize s.drop (H+1)=r at*;generalize s.take H=bs at*;subst b3;have a3:=ah a1;have x:=ah I;go_wp2_with fail;clear b0 b4 a1 I X aZ d V;go_loopg[4,28] bs.length (λY Z b6 wx=>aKB w1 bs Y Z b6 wx)
  case atStart=>exact⟨none,0,0,by omega,rfl,rfl,Own.nil_ _ _ _ _,Ext.refl _,rfl⟩
  case' round=>
   obtain⟨A,c,k,hg,rfl,rfl,B,a4,HN⟩:=hrel;have C:=ah B;have z:=ah a4;clear B a4;by_cases hk:k<bs.length
   case pos=>
    obtain⟨b',o',hA,b8⟩:=(a3.out.ext z.out).at_ hk;injection hA with hA;injection hA with e1 e2;subst e1 e2;rw[Nat.zero_add]at b8;have hr:=gZ.out _ (List.getElem_mem hk);have a7:=ah (xC (f:=λb=>decide (128<=b)) hk);have a8:=ah (anyM (f:=λb=>decide (128<=b)) hk);have HT:Hid (bs.take (k+1)=bs.take k++[bs[k]]):=ah (List.take_succ_eq_append_getElem hk);generalize bs[k]=y at*;have g:=x.out.trans' z.out;by_cases a9:128<=y
    .have E:Hid (D=([],12)):=ah (by rw[a.out,if_pos (a8.out (by simp[a9]))]);go_wp2;go_ret2;exact⟨none,0,0,by rw[E.out];rfl,by rw[E.out];exact aF.nil_ _,g⟩
    .have ba:Hid ((bs.take (k+1)).any (λb=>decide (128<=b))=false):=ah (by rw[a7.out,HN.out];simp;omega);obtain⟨A5,c5,w5,aa,j,ab,pz⟩:=xu C.out z.out y (by omega);have bJ:Hid (aN w5 w1.heap.size A5 (k+1) c5 (bs.take (k+1))):=ah (by rw[HT.out];exact j);have gB:=ah ab;clear j ab HN a7 a8 g pz;go_wp2_with(at_builtin;refine dH rfl _ _ _ rfl _ _ rfl rfl _ _ aa ?_);go_roundg (bs.length - (k+1));exact⟨A5,c5,k+1,by omega,by go_num,rfl,bJ.out,gB.out,ba⟩;omega
   case' neg=>
    have he:bs.take k=bs:=List.take_of_length_le (by omega);rw[he]at C HN;have bc:k=bs.length:=(by omega);subst bc;rw[if_neg (by rw[HN.out];simp)]at a;have bq:=a2.out;have t:Hid (Gx w D r.length (.string (sB r)) (.slice A bs.length c) (.bool true) (.int .i64 128) (.int .i64 0) (.int .i64 72) wr):=ah ⟨A,bs.length,c,r,bs,128,0,72,true,rfl,rfl,rfl,rfl,rfl,rfl,rfl,b5,Nat.le_refl _,by omega,ah (RX C.out x.out.b.size),ah (x.out.trans' z.out),by omega,by omega,by omega,by omega,by omega,by omega,a⟩;clear a HN C z a3 x he a2 gZ;generalize wr=w3 at*;go_wp2;go_loopg[0,4,8,9,10,11] r.length (λY s0 Z s8 s9 F G wx=>Gx w D Y s0 Z s8 s9 F G wx)
    case atStart=>exact t.out
 all_goals
  clear t;obtain⟨A,N,c,q,o,n,i,b,f,rfl,rfl,rfl,rfl,rfl,rfl,ad,ae,br,bt,C,z,bu,bv,bw,bx,bz,I,a⟩:=hrel;have af:=xG q;cases J:q.isEmpty
  .rw[J]at af;have K:q≠[]:=(by intro h;rw[h]at J;cases J);have ag:=List.length_pos_iff.2 K;obtain⟨g',rfl⟩:=gS' gk;rw[KE (by simpa using K)]at a;have be: -100000<=b/\b<=100000:=(by omega);have ai:=ah (aJq q ae.out (by omega) b be wr);have L:=ad.out;subst L;clear J K ad;go_wp2_with fail;refine ai.out.mono ?_;rintro e w4⟨bf,O⟩;have S:=ah (z.out.trans' O);have oP:=ah (Own.ext C.out O);clear ai C z O;rcases bf with⟨hn,rfl⟩|⟨v,m,hn,bA,bB,bC,bE,rfl⟩
   .rw[hn]at a;have E:Hid (D=([],12)):=a;have g:=S.out;clear hn a;go_wp2;go_ret2;exact⟨none,0,0,by rw[E.out];rfl,by rw[E.out];exact aF.nil_ _,g⟩
   .rw[hn]at a;simp only at a;clear hn;by_cases bh:2147483647<v
    .rw[if_pos (.inl bh)]at a;have g:=S.out;go_wp2;go_ret2;exact⟨none,0,0,by rw[a.out];rfl,by rw[a.out];exact aF.nil_ _,g⟩
    have ag:0<=(v+i) / ((o.length:Int)+1):=Int.ediv_nonneg (by omega) (by omega);have bi:(v+i) / ((o.length:Int)+1)<=v+i:=Int.ediv_le_self _ (by omega);have bj:=Int.emod_nonneg (v+i) (b:=(o.length:Int)+1) (by omega);have bk:=Int.emod_lt_of_pos (v+i) (b:=(o.length:Int)+1) (by omega);obtain⟨Q,hQ⟩:=eY' ((v+i) / ((o.length:Int)+1));obtain⟨M,hM⟩:∃M:Nat,(v+i) % ((o.length:Int)+1)=M:=⟨((v+i) % ((o.length:Int)+1)).toNat,by omega⟩;rw[hQ,hM]at a;rw[hQ]at ag bi;rw[hM]at bj bk;by_cases L:1114111<n+Q
    .rw[if_pos (.inr L)]at a;have g:=S.out;have g:∀k,Ext w (w4.drewN k):=λk=>S.out.lG k
     go_wp2_with fail;go_quiet (fail);go_wp2;go_ret2;exact⟨none,0,0,by rw[a.out];rfl,by rw[a.out];exact aF.nil_ _,g _⟩
    rw[if_neg (by omega)]at a;go_wp2_with fail;go_quiet (fail);go_wp2_with fail;rw[hM];rw[Int.toNat_natCast]at a;have gB:Hid (Ext w (w4.drewN nq)):=ah (S.out.lG nq);have bJ:Hid (aN (w4.drewN nq) w.heap.size A o.length c o):=ah (Own.ext oP.out ((Ext.refl _).lG nq));clear hM hQ S oP;generalize w4.drewN nq=w5 at*;refine(xJ _ _).mono ?_;rintro e w'⟨rfl,rfl⟩;by_cases hu:utfLen (n+Q)=0
    .rw[if_pos hu]at a;have e1:(utfLen (n+Q)==0)=true:=(by rw[beq_iff_eq];exact hu);have g:=gB.out;go_wp2;go_ret2;exact⟨none,0,0,by rw[a.out];rfl,by rw[a.out];exact aF.nil_ _,g⟩
    rw[if_neg hu]at a;have e1:(utfLen (n+Q)==0)=false:=(by rw[aP];exact hu);have an:=ah (aJ6 w w5 A c o (n+Q) M bJ.out gB.out (by omega) (by omega));have ao:=ah (zH o M (n+Q) (by omega));have ap:(1:Int)<=(o.length:Int)+1/\(o.length:Int)+1<=4096:=(by omega);have aq:0<=v/\v<2147483648:=(by omega);have ar:=ah (λw=>QG v ((o.length:Int)+1) f aq ap w);have P:=Gg (f:=f) aq.1 ap.1;have jk:=ah (zu ae.out m);have bl:(q.drop m).length=q.length - m:=List.length_drop;have bG:(q.drop m).length<=q.length - m:=(by omega);obtain⟨b2,av⟩:=eY' (nJ v ((o.length:Int)+1) f);rw[av]at ar P a;generalize nY o M (n+Q)=o2 at*;generalize q.drop m=q2 at*;clear hu av bl;go_wp2_with fail;refine an.out.mono ?_;rintro e w6⟨A6,n6,c6,rfl,R,p,aw⟩;have bm:=ah R;have bn:=ah p;have iU:=ah aw;have bL:n6<=o.length+1/\o.length+1<=n6:=(by rw[R,ao.out];omega);clear R p aw an ao bJ gB;go_wp2_with fail;refine(ar.out _).mono ?_;rintro e w'⟨rfl,rfl⟩;go_wp2;go_roundg g';exact⟨A6,n6,c6,q2,o2,n+Q,(M:Int)+1,b2,false,rfl,rfl,rfl,rfl,rfl,rfl,bm,jk,by omega,by omega,bn,iU,by omega,by omega,by omega,by omega,P.1,P.2,a⟩;omega
  .rw[J]at af;have E:Hid (D=(o,0)):=ah (by rw[a.out,List.isEmpty_iff.1 J];cases gk<;>rfl);have g:=z.out;have hi:=aN.ints C.out;clear a J;go_wp2;go_ret2;exact⟨A,N,c,by rw[E.out];rfl,by rw[E.out];exact hi,g⟩
end Go.Proofs.YtlmkgaoakcjlnaaGreatDoor
