/- Part Bw21. -/
import Derived.Test.YtljilcbobhmkgaaGreatDoorBw20
open Go.Proofs.Tryz
namespace Go.Proofs.YtljilcbobhmkgaaGreatDoor
set_option maxHeartbeats 25600000
set_option maxRecDepth 100000
open Go.RowKit
variable (T:ak)(t:TV)(l:List Int)(A:Option Addr)(n c:Nat)(w:World)
def aKo(T:ak)(w1:World)(D V:List Int)(gh:Nat)(s8 s26:Value)(wx:World):Prop:=
 ∃(k:Nat)(A:Option Addr)(n c:Nat)(pre tail:List Int)(st:Option Int),k+gh=D.length/\s26=.int .i64 k/\s8=.slice A n c/\Hid (aK wx w1.heap.size A n c (pre++st.toList++tail))/\Hid (Ext w1 wx)/\Hid (V=dH T pre st tail (D.drop k))/\Hid (st=none->pre=[])/\Hid (n<=k)/\Hid (∀z∈tail,aG T z≠0)/\Hid (∀z,st=some z->aG T z=0)
def TP(w1:World)(A:Option Addr)(n c:Nat)(L:List Int)(b0:Int)(q gh:Nat)(s11:Value)(wx:World):Prop:=
 gh<=q/\((gh=0/\s11=.int .i64 b0)\/(∃r j:Nat,gh=r+1/\s11=.int .i64 j/\Hid ((j:Int)=b0+1+r)))/\Hid (aK wx w1.heap.size A n c L)/\Hid (Ext w1 wx)
theorem Nc(ht:aS w t T)(hi:aC w ⟨A,n,c⟩ l):
 Calls prog 146 #[t.v,.slice A n c] w λe w'=>∃B m d,e=.returned (.tuple #[.slice B m d,.int .i64 (eU T l)])/\Ext w w'/\aC w' ⟨B,m,d⟩ (kU T l):=by
 have ar:=cO w t;have b4:=ah ar;have HT:=ah (ht.aB ar);have HI:=ah (hi.ext ar);clear ht hi ar;go_enter func146,ntmps146;go_wp2_with fail;refine(Ic T t l A n c _ HT.out HI.out).mono ?_;rintro e J⟨B,m,d,rfl,aw,an⟩;have aa:=ah aw;have bU:w.heap.size<J.heap.size:=by have h':=aw.b.size;simp at h';omega
 have hm:=an.len.1;subst hm;clear aw;by_cases f:eU T l=0
 case neg=>
  have bX:(eU T l != 0)=true:=bN' f;have HZ:=ah f;have hb:=b4.out.trans' aa.out;clear f an;go_wp2;go_ret2;exact⟨none,0,0,rfl,hb,by rw[kU,nN' HZ.out];exact aC.nil_ _⟩
 rw[kD,pP' f]at an;have HW:=ah (zY f).1;have HC:=ah (zS (zY f).1);have bq:=ah (WG HC.out l);have b6:=ah (zY f).2;have HE:Hid (eU T l=0):=ah f;have ax:Hid (kU T l=dH T [] none [] ((mX T l).drop 0)):=ah (by rw[kU,pP' f];rfl);have HS:=ah (mG HW.out);rw[kD,pP' f,f];obtain⟨V,hV⟩:=eY' (kU T l);rw[hV]at ax;have bs:=ah hV;clear hV;generalize mX T l=D at*;have bt:=ah an;clear an f;go_wp2;go_loopg[8,26] D.length (λgh s8 bu wx=>aKo T J D V gh s8 bu wx);exact⟨0,none,0,0,[],[],none,by omega,rfl,rfl,ah (Own.nil_ _ _ _ _),ah eR',ax,ah (λ_=>rfl),ah (lr' _),ah (λz f=>by cases f),ah (λz f=>by cases f)⟩;obtain⟨k,A2,n2,c2,pre,tail,st,c0,rfl,rfl,HO,HB,HR,bw,M,a5,lZ⟩:=hrel;clear ax;by_cases az:k<D.length
 case neg=>
  have HF:Hid (V=pre++st.toList++tail):=ah (by rw[HR.out,bM D k (by omega),NS]);have bx:Hid (aC wr ⟨A2,n2,c2⟩ V):=ah (by rw[HF.out];exact aK.ints HO.out);have hx:=(b4.out.trans' aa.out).trans' HB.out;clear HR;go_wp2;go_ret2;exact⟨_,_,_,by rw[HE.out];rfl,hx,by rw[bs.out];exact bx.out⟩
 obtain⟨a2,rfl⟩:=gS' gk;have bb:=ah (bt.out.ext HB.out);obtain⟨b,o,hA,c1⟩:=bb.out.at_ az;subst hA;have HD:=ah (drop_at D k az);have bc:=ah (bq.out _ (gM' az));generalize D[k]=x at*;have c3:=z0' k;have c4:(k:Int)<(D.length:Int):=by omega
 have c6:D.length<=4096:=b6.out;have iw:Hid (V=dH T pre st tail (x::D.drop (k+1))):=ah (by rw[HR.out,HD.out]);have bf:Hid (∀(w':World),Ext J w'->∀k:Nat,w'.cell? ⟨w.heap.size,k,none⟩=t.v.cells[k]?):=ah λw' bz=>aP (aa.out.trans' bz)
 have fZ:Hid (∀(c:Int)(w':World),Ext J w'->cE' 140 #[t.v,.int .i64 c] w' (.int .i64 (aG T c))):=ah (λc w' h=>yR t T c w' (HT.out.aB (aa.out.trans' h)));clear HR HD bb;cases st with
 |none=>
  have bA:pre=[]:=bw.out rfl;subst bA;have ao:Hid (aK wr J.heap.size A2 n2 c2 tail):=ah (by simpa using HO.out);have HN:Hid (n2=tail.length):=ah (by have:=ao.out.len;simp at this;omega);have gZ:Hid (V=if aG T x=0 then dH T ([]++tail) (some x) [] (D.drop (k+1))else dH T [] none (tail++[x]) (D.drop (k+1))):=ah (iw.out.trans (Jd [] tail x _));clear HO iw;have U:=z0' n2;have c7:(n2:Int)<=4096:=by have:=M.out;have:=b6.out;omega
  go_wp2;go_loopg[11] tail.length (λgh aE wx=>TP J A2 n2 c2 tail (-1) tail.length gh aE wx)
  case atStart=>
   refine⟨lr' _,?_,ao,HB⟩;rcases Nat.eq_zero_or_pos tail.length with h0|h0
   .exact .inl ⟨h0,by have:=HN.out;rw[h0]at this;subst this;first|rfl|go_num⟩
   .exact .inr ⟨tail.length-1,n2-1,by omega,by have:=HN.out;first|(congr 1;omega)|go_num,ah (by have:=HN.out;omega)⟩
  case round=>
   obtain⟨bB,hs,K,E⟩:=hrel;rcases hs with⟨rfl,rfl⟩|⟨r,j,rfl,rfl,HJ⟩
   ·
    have hd:decide ((0:Int)<= -1)=false:=rfl;have c8:decide ((-1:Int)<0)=true:=rfl;have Z:∀q:aj wr,∀k:Nat,q.w.cell? ⟨w.heap.size,k,none⟩=t.v.cells[k]? :=λq=>bf.out _ (E.out.trans' q.h)
    go_wp2_with fail;refine rX' ?_
    repeat(go_big_quiet_step(first|(fail)))
    refine wpQuiet_nil ?_;rintro _⟨G,rfl⟩;clear Z;obtain⟨Y,N⟩:=eX' G.w;have F:Hid (aK Y J.heap.size _ _ c2 _):=ah (by rw[N];exact Own.ext K.out G.h);have H:Hid (Ext J Y):=ah (by rw[N];exact E.out.trans' G.h);rw[<- N];clear N K E;have K:=F;have E:=H;clear F H;have Z:∀q:aj Y,∀k:Nat,q.w.cell? ⟨w.heap.size,k,none⟩=t.v.cells[k]? :=λq=>bf.out _ (E.out.trans' q.h)
    go_wp2_with fail;refine rX' ?_
    repeat(go_big_quiet_step(first|(fail)))
    refine wpQuiet_nil ?_;rintro _⟨G,rfl⟩;clear Z;obtain⟨O,P⟩:=eX' G.w;have F:Hid (aK O J.heap.size _ _ c2 _):=ah (by rw[P];exact Own.ext K.out G.h);have H:Hid (Ext J O):=ah (by rw[P];exact E.out.trans' G.h);rw[<- P];clear P K E;by_cases L:aG T x=0
    ·
     have HF:Hid (V=dH T ([]++tail) (some x) ([]) (D.drop (k+1))):=ah (gZ.out.trans (pP' L));have W:Hid (aG T x=0):=ah L;clear L gZ;have C:Ext O (O.alloc (.cells #[.int .i64 x] 3)):=eR'.ay _;have U:=M.out;obtain⟨A5,c5,w5,I,a,i,_⟩:=fQ (Own.ext F.out C) (iJ O x) (by omega) (by have h':=H.out.b.size;simp;omega);have bI:=ah a;have bH:Hid (Ext J w5):=ah (dV (H.out.trans' C) i (λk L=>(Own.lt F.out k L).1));clear a i C U;go_wp2_with(at_builtin;refine dA rfl _ _ _ rfl _ _ rfl rfl _ _ I ?_);go_roundg a2;exact⟨k+1,A5,n2+1,c5,[]++tail,[],some x,by omega,by go_num,rfl,ah (by simpa using bI.out),bH,HF,ah (by intro h;cases h),ah (by have:=M.out;omega),ah (λz f=>by cases f),ah (λz f=>by injection f with f;subst f;exact W.out)⟩;omega
    ·
     have HF:Hid (V=dH T ([]) (none) (tail++[x]) (D.drop (k+1))):=ah (gZ.out.trans (nN' L));have W:Hid (aG T x≠0):=ah L;clear L gZ;have C:Ext O (O.alloc (.cells #[.int .i64 x] 3)):=eR'.ay _;have U:=M.out;obtain⟨A5,c5,w5,I,a,i,_⟩:=fQ (Own.ext F.out C) (iJ O x) (by omega) (by have h':=H.out.b.size;simp;omega);have bI:=ah a;have bH:Hid (Ext J w5):=ah (dV (H.out.trans' C) i (λk L=>(Own.lt F.out k L).1));clear a i C U;go_wp2_with(at_builtin;refine dA rfl _ _ _ rfl _ _ rfl rfl _ _ I ?_);go_roundg a2;exact⟨k+1,A5,n2+1,c5,[],tail++[x],none,by omega,by go_num,rfl,ah (by simpa using bI.out),bH,HF,ah (λ_=>rfl),ah (by have:=M.out;omega),ah (λz f=>by rcases List.mem_append.1 f with f|f;exact a5.out z f;rw[List.mem_singleton]at f;subst f;exact W.out),lZ⟩;omega
   ·
    have hr:r<tail.length:=by omega
    have HY:Hid ((tail)[j]? =some tail[r]):=ah (by
     have hj:=HJ.out
     rw[show j=r from by omega,List.getElem?_eq_getElem hr])
    have aL:=ah (a5.out _ (gM' hr));generalize tail[r]=y at*;have aM:=z0' j;have bC:(j:Int)<(n2:Int):=(by have:=HJ.out;have:=HN.out;omega);have hd:decide ((0:Int)<=(j:Int))=true:=dt' aM;have e1:(aG T y != 0)=true:=(by rw[bne_iff_ne];exact aL.out);obtain⟨g,rfl⟩:=Own.some_ K.out (by omega);have Z:∀q:aj wr,∀k:Nat,q.w.cell? ⟨w.heap.size,k,none⟩=t.v.cells[k]? :=λq=>bf.out _ (E.out.trans' q.h)
    have R:∀q:aj wr,q.w.cell? ⟨g,j,none⟩=some (.int .i64 y):=bY (aK.cell K.out (j) y HY.out);go_wp2_with fail;refine rX' ?_
    repeat(go_big_quiet_step(first|(go_at_call 140;with_reducible exact aQ (fZ.out y _ (E.out.trans' (aj.h _))))))
    refine wpQuiet_nil ?_;rintro _⟨G,rfl⟩;clear Z R;obtain⟨Y,N⟩:=eX' G.w;have F:Hid (aK Y J.heap.size _ _ c2 _):=ah (by rw[N];exact Own.ext K.out G.h);have H:Hid (Ext J Y):=ah (by rw[N];exact E.out.trans' G.h);rw[<- N];clear N K E;go_wp2;go_roundg r
    case measure=>omega
    case rel=>
     refine⟨by omega,?_,F,H⟩;rcases Nat.eq_zero_or_pos r with h0|h0
     .exact .inl ⟨h0,by have:=HJ.out;first|(congr 1;omega)|go_num⟩
     .exact .inr ⟨r-1,j-1,by omega,by have:=HJ.out;first|(congr 1;omega)|go_num,ah (by have:=HJ.out;omega)⟩
 |some s=>
  obtain⟨m,rfl⟩:∃m,n2=m+1:=⟨n2-1,by have:=HO.out.len;simp at this;omega⟩;have ao:Hid (aK wr J.heap.size A2 (m+1) c2 (pre++s::tail)):=ah (by simpa using HO.out);have HN:Hid (m+1=pre.length+1+tail.length):=ah (by have:=ao.out.len;simp at this;omega);have be:=lZ.out s rfl;have bE:=ah be;clear HO be;have bT:((m+1:Nat):Int)-1=(m:Int):=by omega
  have bL:(0:Int)<=(pre.length:Int):=aZ _;have c9:=z0' m;have ca:(m:Int)<((m+1:Nat):Int):=by omega
  have cb:m+1<=4096:=by have:=M.out;omega
  have cc:(pre.length:Int)<((m+1:Nat):Int):=by have:=HN.out;omega
  go_wp2;go_loopg[11] tail.length (λgh aE wx=>TP J A2 (m+1) c2 (pre++s::tail) (pre.length:Int) tail.length gh aE wx)
  case atStart=>
   refine⟨lr' _,?_,ao,HB⟩;rcases Nat.eq_zero_or_pos tail.length with h0|h0
   .exact .inl ⟨h0,by have:=HN.out;first|(congr 1;omega)|go_num⟩
   .exact .inr ⟨tail.length-1,m,by omega,by first|rfl|go_num,ah (by have:=HN.out;omega)⟩
  case round=>
   obtain⟨bB,hs,K,E⟩:=hrel;obtain⟨g,rfl⟩:=Own.some_ K.out (by omega);rcases hs with⟨rfl,rfl⟩|⟨r,j,rfl,rfl,HJ⟩
   ·
    have hd:decide ((0:Int)<=(pre.length:Int))=true:=dt' bL;have cd:decide ((pre.length:Int)<0)=false:=dF';have e0:(aG T s != 0)=false:=(by rw[bE.out];rfl);have Z:∀q:aj wr,∀k:Nat,q.w.cell? ⟨w.heap.size,k,none⟩=t.v.cells[k]? :=λq=>bf.out _ (E.out.trans' q.h)
    have R:∀q:aj wr,q.w.cell? ⟨g,pre.length,none⟩=some (.int .i64 s):=bY (aK.cell K.out (pre.length) s (by simp));go_wp2_with fail;refine rX' ?_
    repeat(go_big_quiet_step(first|(go_at_call 140;with_reducible exact aQ (fZ.out s _ (E.out.trans' (aj.h _))))))
    refine wpQuiet_nil ?_;rintro _⟨G,rfl⟩;clear Z R;obtain⟨Y,N⟩:=eX' G.w;have F:Hid (aK Y J.heap.size _ _ c2 _):=ah (by rw[N];exact Own.ext K.out G.h);have H:Hid (Ext J Y):=ah (by rw[N];exact E.out.trans' G.h);rw[<- N];clear N K E;rcases List.eq_nil_or_concat tail with av|⟨tl,y,av⟩
    ·
     subst av;have ae:m=pre.length:=(by have:=HN.out;simp at this;omega);have bN:decide ((pre.length:Int)<(m:Int))=false:=dF';have bO:decide (pre.length<m)=false:=dF';have bR:=ah ae;clear ae;have K:=F;have E:=H;clear F H;have Z:∀q:aj Y,∀k:Nat,q.w.cell? ⟨w.heap.size,k,none⟩=t.v.cells[k]? :=λq=>bf.out _ (E.out.trans' q.h)
     go_wp2_with fail;refine rX' ?_
     repeat(go_big_quiet_step(first|(fail)))
     refine wpQuiet_nil ?_;rintro _⟨G,rfl⟩;clear Z;obtain⟨O,P⟩:=eX' G.w;have F:Hid (aK O J.heap.size _ _ c2 _):=ah (by rw[P];exact Own.ext K.out G.h);have H:Hid (Ext J O):=ah (by rw[P];exact E.out.trans' G.h);rw[<- P];clear P K E;cases X:pairT T s x with
     |some y2=>
      have HF:Hid (V=dH T pre (some y2) ([]) (D.drop (k+1))):=ah (by rw[iw.out,dH,show tC T [] x=false from rfl,nN' (by simp),X]);have HP:Hid (kC T s x=(y2,true)):=ah (by rw[kC,X]);have aW:=ah (NW HC.out bc.out X).2.1;clear X iw;have K:=F;have E:=H;clear F H
      have af:Hid (∀(w':World),Ext J w'->cE' 202 #[t.v,.int .i64 s,.int .i64 x] w' (.tuple #[.int .i64 y2,.bool true])):=ah (λw' h=>by
       have h':=EN T HW.out t s x w' (HT.out.aB (aa.out.trans' h));rw[HP.out]at h'
       exact h')
      have Z:∀q:aj O,∀k:Nat,q.w.cell? ⟨w.heap.size,k,none⟩=t.v.cells[k]? :=λq=>bf.out _ (E.out.trans' q.h)
      have R:∀q:aj O,q.w.cell? ⟨g,pre.length,none⟩=some (.int .i64 s):=bY (aK.cell K.out (pre.length) s (by simp));go_wp2_with fail;refine rX' ?_
      repeat(go_big_quiet_step(first|(go_at_call 202;with_reducible exact aQ (af.out _ (E.out.trans' (aj.h _))))))
      refine wpQuiet_nil ?_;rintro _⟨G,rfl⟩;clear Z R;obtain⟨S,Q⟩:=eX' G.w;have F:Hid (aK S J.heap.size _ _ c2 _):=ah (by rw[Q];exact Own.ext K.out G.h);have H:Hid (Ext J S):=ah (by rw[Q];exact E.out.trans' G.h);rw[<- Q];clear Q K E;have r0:S.cell? ⟨g,pre.length,none⟩=some (.int .i64 s):=F.out.cell pre.length s (by simp);have f0:S.frozen? ⟨g,pre.length,none⟩=false:=F.out.frozen pre.length;have bI:=ah (F.out.set pre.length y2);have b0:J.heap.size<=g:=(Own.lt F.out g rfl).1;have bH:=ah (H.out.jP (p:=⟨g,pre.length,none⟩) b0 (.int .i64 y2));generalize b1:pre.length=p at*;go_wp2;go_roundg a2;exact⟨k+1,some ⟨g,0,none⟩,m+1,c2,pre,[],some y2,by omega,by go_num,rfl,ah (by have h5:=bI.out;rw[<- b1]at h5 |-;simpa[List.set_append]using h5),bH,HF,ah (by intro h;cases h),ah (by have:=M.out;omega),a5,ah (λz f=>by injection f with f;subst f;exact aW.out)⟩;omega
     |none=>
      have gZ:Hid (V=if aG T x=0 then dH T (pre++s::([])) (some x) [] (D.drop (k+1))else dH T pre (some s) ([]++[x]) (D.drop (k+1))):=ah (by rw[iw.out,dH,show tC T [] x=false from rfl,nN' (by simp),X]);have HP:Hid (kC T s x=(0,false)):=ah (by rw[kC,X]);clear X iw;have K:=F;have E:=H;clear F H
      have af:Hid (∀(w':World),Ext J w'->cE' 202 #[t.v,.int .i64 s,.int .i64 x] w' (.tuple #[.int .i64 0,.bool false])):=ah (λw' h=>by
       have h':=EN T HW.out t s x w' (HT.out.aB (aa.out.trans' h));rw[HP.out]at h'
       exact h')
      have Z:∀q:aj O,∀k:Nat,q.w.cell? ⟨w.heap.size,k,none⟩=t.v.cells[k]? :=λq=>bf.out _ (E.out.trans' q.h)
      have R:∀q:aj O,q.w.cell? ⟨g,pre.length,none⟩=some (.int .i64 s):=bY (aK.cell K.out (pre.length) s (by simp));go_wp2_with fail;refine rX' ?_
      repeat(go_big_quiet_step(first|(go_at_call 202;with_reducible exact aQ (af.out _ (E.out.trans' (aj.h _))))))
      refine wpQuiet_nil ?_;rintro _⟨G,rfl⟩;clear Z R;obtain⟨S,Q⟩:=eX' G.w;have F:Hid (aK S J.heap.size _ _ c2 _):=ah (by rw[Q];exact Own.ext K.out G.h);have H:Hid (Ext J S):=ah (by rw[Q];exact E.out.trans' G.h);rw[<- Q];clear Q K E;by_cases L:aG T x=0
      ·
       have HF:Hid (V=dH T (pre++s::[]) (some x) ([]) (D.drop (k+1))):=ah (gZ.out.trans (pP' L));have W:Hid (aG T x=0):=ah L;clear L gZ;have C:Ext S (S.alloc (.cells #[.int .i64 x] 3)):=eR'.ay _;have U:=M.out;obtain⟨A5,c5,w5,I,a,i,_⟩:=fQ (Own.ext F.out C) (iJ S x) (by omega) (by have h':=H.out.b.size;simp;omega);have bI:=ah a;have bH:Hid (Ext J w5):=ah (dV (H.out.trans' C) i (λk L=>(Own.lt F.out k L).1));clear a i C U;go_wp2_with(at_builtin;refine dA rfl _ _ _ rfl _ _ rfl rfl _ _ I ?_);go_roundg a2;exact⟨k+1,A5,(m+1)+1,c5,pre++s::[],[],some x,by omega,by go_num,rfl,ah (by simpa using bI.out),bH,HF,ah (by intro h;cases h),ah (by have:=M.out;omega),ah (λz f=>by cases f),ah (λz f=>by injection f with f;subst f;exact W.out)⟩;omega
      ·
       have HF:Hid (V=dH T (pre) (some s) ([]++[x]) (D.drop (k+1))):=ah (gZ.out.trans (nN' L));have W:Hid (aG T x≠0):=ah L;clear L gZ;have C:Ext S (S.alloc (.cells #[.int .i64 x] 3)):=eR'.ay _;have U:=M.out;obtain⟨A5,c5,w5,I,a,i,_⟩:=fQ (Own.ext F.out C) (iJ S x) (by omega) (by have h':=H.out.b.size;simp;omega);have bI:=ah a;have bH:Hid (Ext J w5):=ah (dV (H.out.trans' C) i (λk L=>(Own.lt F.out k L).1));clear a i C U;go_wp2_with(at_builtin;refine dA rfl _ _ _ rfl _ _ rfl rfl _ _ I ?_);go_roundg a2;exact⟨k+1,A5,(m+1)+1,c5,pre,[]++[x],some s,by omega,by go_num,rfl,ah (by simpa using bI.out),bH,HF,ah (by intro h;cases h),ah (by have:=M.out;omega),ah (λz f=>by rcases List.mem_append.1 f with f|f;exact a5.out z f;rw[List.mem_singleton]at f;subst f;exact W.out),lZ⟩;omega
    ·
     rw[List.concat_eq_append]at av;subst av;have ae:m=(pre++s::tl).length:=(by have:=HN.out;simp at this |-;omega);have bS:pre.length<m:=(by rw[ae];simp);have bN:decide ((pre.length:Int)<(m:Int))=true:=dT';have bO:decide (pre.length<m)=true:=dT'
     have bi:Hid ((pre++s::(tl++[y]))[m]? =some y):=ah (by
      have e:pre++s::(tl++[y])=(pre++s::tl)++[y]:=by simp
      rw[e,ae,List.getElem?_concat_length])
     have bR:=ah ae;have bj:=a5.out y (by simp);have oD:Hid (tC T (tl++[y]) x=decide (aG T x<=aG T y)):=ah (by rw[P6,df' bj,Bool.false_or]);clear ae bS bj;by_cases h2:aG T x<=aG T y
     ·
      have e2:decide (aG T x<=aG T y)=true:=dt' h2;have gZ:Hid (V=if aG T x=0 then dH T (pre++s::(tl++[y])) (some x) [] (D.drop (k+1))else dH T pre (some s) (tl++[y]++[x]) (D.drop (k+1))):=ah (by rw[iw.out,dH,oD.out,e2,pP' rfl]);clear iw h2;have K:=F;have E:=H;clear F H;have Z:∀q:aj Y,∀k:Nat,q.w.cell? ⟨w.heap.size,k,none⟩=t.v.cells[k]? :=λq=>bf.out _ (E.out.trans' q.h)
      have R:∀q:aj Y,q.w.cell? ⟨g,m,none⟩=some (.int .i64 y):=bY (aK.cell K.out (m) y bi.out);go_wp2_with fail;refine rX' ?_
      repeat(go_big_quiet_step(first|(go_at_call 140;with_reducible exact aQ (fZ.out y _ (E.out.trans' (aj.h _))))|(go_at_call 140;with_reducible exact aQ (fZ.out x _ (E.out.trans' (aj.h _))))))
      refine wpQuiet_nil ?_;rintro _⟨G,rfl⟩;clear Z R;obtain⟨O,P⟩:=eX' G.w;have F:Hid (aK O J.heap.size _ _ c2 _):=ah (by rw[P];exact Own.ext K.out G.h);have H:Hid (Ext J O):=ah (by rw[P];exact E.out.trans' G.h);rw[<- P];clear P K E;by_cases L:aG T x=0
      ·
       have HF:Hid (V=dH T (pre++s::(tl++[y])) (some x) ([]) (D.drop (k+1))):=ah (gZ.out.trans (pP' L));have W:Hid (aG T x=0):=ah L;clear L gZ;have C:Ext O (O.alloc (.cells #[.int .i64 x] 3)):=eR'.ay _;have U:=M.out;obtain⟨A5,c5,w5,I,a,i,_⟩:=fQ (Own.ext F.out C) (iJ O x) (by omega) (by have h':=H.out.b.size;simp;omega);have bI:=ah a;have bH:Hid (Ext J w5):=ah (dV (H.out.trans' C) i (λk L=>(Own.lt F.out k L).1));clear a i C U;go_wp2_with(at_builtin;refine dA rfl _ _ _ rfl _ _ rfl rfl _ _ I ?_);go_roundg a2;exact⟨k+1,A5,(m+1)+1,c5,pre++s::(tl++[y]),[],some x,by omega,by go_num,rfl,ah (by simpa using bI.out),bH,HF,ah (by intro h;cases h),ah (by have:=M.out;omega),ah (λz f=>by cases f),ah (λz f=>by injection f with f;subst f;exact W.out)⟩;omega
      ·
       have HF:Hid (V=dH T (pre) (some s) ((tl++[y])++[x]) (D.drop (k+1))):=ah (gZ.out.trans (nN' L));have W:Hid (aG T x≠0):=ah L;clear L gZ;have C:Ext O (O.alloc (.cells #[.int .i64 x] 3)):=eR'.ay _;have U:=M.out;obtain⟨A5,c5,w5,I,a,i,_⟩:=fQ (Own.ext F.out C) (iJ O x) (by omega) (by have h':=H.out.b.size;simp;omega);have bI:=ah a;have bH:Hid (Ext J w5):=ah (dV (H.out.trans' C) i (λk L=>(Own.lt F.out k L).1));clear a i C U;go_wp2_with(at_builtin;refine dA rfl _ _ _ rfl _ _ rfl rfl _ _ I ?_);go_roundg a2;exact⟨k+1,A5,(m+1)+1,c5,pre,(tl++[y])++[x],some s,by omega,by go_num,rfl,ah (by simpa using bI.out),bH,HF,ah (by intro h;cases h),ah (by have:=M.out;omega),ah (λz f=>by rcases List.mem_append.1 f with f|f;exact a5.out z f;rw[List.mem_singleton]at f;subst f;exact W.out),lZ⟩;omega
     ·
      have e2:decide (aG T x<=aG T y)=false:=df' h2;have bk:Hid (tC T (tl++[y]) x=false):=ah (by rw[oD.out,e2]);clear h2;have K:=F;have E:=H;clear F H;have Z:∀q:aj Y,∀k:Nat,q.w.cell? ⟨w.heap.size,k,none⟩=t.v.cells[k]? :=λq=>bf.out _ (E.out.trans' q.h)
      have R:∀q:aj Y,q.w.cell? ⟨g,m,none⟩=some (.int .i64 y):=bY (aK.cell K.out (m) y bi.out);go_wp2_with fail;refine rX' ?_
      repeat(go_big_quiet_step(first|(go_at_call 140;with_reducible exact aQ (fZ.out y _ (E.out.trans' (aj.h _))))|(go_at_call 140;with_reducible exact aQ (fZ.out x _ (E.out.trans' (aj.h _))))))
      refine wpQuiet_nil ?_;rintro _⟨G,rfl⟩;clear Z R;obtain⟨O,P⟩:=eX' G.w;have F:Hid (aK O J.heap.size _ _ c2 _):=ah (by rw[P];exact Own.ext K.out G.h);have H:Hid (Ext J O):=ah (by rw[P];exact E.out.trans' G.h);rw[<- P];clear P K E;cases X:pairT T s x with
      |some y2=>
       have HF:Hid (V=dH T pre (some y2) ((tl++[y])) (D.drop (k+1))):=ah (by rw[iw.out,dH,bk.out,nN' (by simp),X]);have HP:Hid (kC T s x=(y2,true)):=ah (by rw[kC,X]);have aW:=ah (NW HC.out bc.out X).2.1;clear X iw;have K:=F;have E:=H;clear F H
       have af:Hid (∀(w':World),Ext J w'->cE' 202 #[t.v,.int .i64 s,.int .i64 x] w' (.tuple #[.int .i64 y2,.bool true])):=ah (λw' h=>by
        have h':=EN T HW.out t s x w' (HT.out.aB (aa.out.trans' h));rw[HP.out]at h'
        exact h')
       have Z:∀q:aj O,∀k:Nat,q.w.cell? ⟨w.heap.size,k,none⟩=t.v.cells[k]? :=λq=>bf.out _ (E.out.trans' q.h)
       have R:∀q:aj O,q.w.cell? ⟨g,pre.length,none⟩=some (.int .i64 s):=bY (aK.cell K.out (pre.length) s (by simp));go_wp2_with fail;refine rX' ?_
       repeat(go_big_quiet_step(first|(go_at_call 202;with_reducible exact aQ (af.out _ (E.out.trans' (aj.h _))))))
       refine wpQuiet_nil ?_;rintro _⟨G,rfl⟩;clear Z R;obtain⟨S,Q⟩:=eX' G.w;have F:Hid (aK S J.heap.size _ _ c2 _):=ah (by rw[Q];exact Own.ext K.out G.h);have H:Hid (Ext J S):=ah (by rw[Q];exact E.out.trans' G.h);rw[<- Q];clear Q K E;have r0:S.cell? ⟨g,pre.length,none⟩=some (.int .i64 s):=F.out.cell pre.length s (by simp);have f0:S.frozen? ⟨g,pre.length,none⟩=false:=F.out.frozen pre.length;have bI:=ah (F.out.set pre.length y2);have b0:J.heap.size<=g:=(Own.lt F.out g rfl).1;have bH:=ah (H.out.jP (p:=⟨g,pre.length,none⟩) b0 (.int .i64 y2));generalize b1:pre.length=p at*;go_wp2;go_roundg a2;exact⟨k+1,some ⟨g,0,none⟩,m+1,c2,pre,(tl++[y]),some y2,by omega,by go_num,rfl,ah (by have h5:=bI.out;rw[<- b1]at h5 |-;simpa[List.set_append]using h5),bH,HF,ah (by intro h;cases h),ah (by have:=M.out;omega),a5,ah (λz f=>by injection f with f;subst f;exact aW.out)⟩;omega
      |none=>
       have gZ:Hid (V=if aG T x=0 then dH T (pre++s::((tl++[y]))) (some x) [] (D.drop (k+1))else dH T pre (some s) ((tl++[y])++[x]) (D.drop (k+1))):=ah (by rw[iw.out,dH,bk.out,nN' (by simp),X]);have HP:Hid (kC T s x=(0,false)):=ah (by rw[kC,X]);clear X iw;have K:=F;have E:=H;clear F H
       have af:Hid (∀(w':World),Ext J w'->cE' 202 #[t.v,.int .i64 s,.int .i64 x] w' (.tuple #[.int .i64 0,.bool false])):=ah (λw' h=>by
        have h':=EN T HW.out t s x w' (HT.out.aB (aa.out.trans' h));rw[HP.out]at h'
        exact h')
       have Z:∀q:aj O,∀k:Nat,q.w.cell? ⟨w.heap.size,k,none⟩=t.v.cells[k]? :=λq=>bf.out _ (E.out.trans' q.h)
       have R:∀q:aj O,q.w.cell? ⟨g,pre.length,none⟩=some (.int .i64 s):=bY (aK.cell K.out (pre.length) s (by simp));go_wp2_with fail;refine rX' ?_
       repeat(go_big_quiet_step(first|(go_at_call 202;with_reducible exact aQ (af.out _ (E.out.trans' (aj.h _))))))
       refine wpQuiet_nil ?_;rintro _⟨G,rfl⟩;clear Z R;obtain⟨S,Q⟩:=eX' G.w;have F:Hid (aK S J.heap.size _ _ c2 _):=ah (by rw[Q];exact Own.ext K.out G.h);have H:Hid (Ext J S):=ah (by rw[Q];exact E.out.trans' G.h);rw[<- Q];clear Q K E;by_cases L:aG T x=0
       ·
        have HF:Hid (V=dH T (pre++s::(tl++[y])) (some x) ([]) (D.drop (k+1))):=ah (gZ.out.trans (pP' L));have W:Hid (aG T x=0):=ah L;clear L gZ;have C:Ext S (S.alloc (.cells #[.int .i64 x] 3)):=eR'.ay _;have U:=M.out;obtain⟨A5,c5,w5,I,a,i,_⟩:=fQ (Own.ext F.out C) (iJ S x) (by omega) (by have h':=H.out.b.size;simp;omega);have bI:=ah a;have bH:Hid (Ext J w5):=ah (dV (H.out.trans' C) i (λk L=>(Own.lt F.out k L).1));clear a i C U;go_wp2_with(at_builtin;refine dA rfl _ _ _ rfl _ _ rfl rfl _ _ I ?_);go_roundg a2;exact⟨k+1,A5,(m+1)+1,c5,pre++s::(tl++[y]),[],some x,by omega,by go_num,rfl,ah (by simpa using bI.out),bH,HF,ah (by intro h;cases h),ah (by have:=M.out;omega),ah (λz f=>by cases f),ah (λz f=>by injection f with f;subst f;exact W.out)⟩;omega
       ·
        have HF:Hid (V=dH T (pre) (some s) ((tl++[y])++[x]) (D.drop (k+1))):=ah (gZ.out.trans (nN' L));have W:Hid (aG T x≠0):=ah L;clear L gZ;have C:Ext S (S.alloc (.cells #[.int .i64 x] 3)):=eR'.ay _;have U:=M.out;obtain⟨A5,c5,w5,I,a,i,_⟩:=fQ (Own.ext F.out C) (iJ S x) (by omega) (by have h':=H.out.b.size;simp;omega);have bI:=ah a;have bH:Hid (Ext J w5):=ah (dV (H.out.trans' C) i (λk L=>(Own.lt F.out k L).1));clear a i C U;go_wp2_with(at_builtin;refine dA rfl _ _ _ rfl _ _ rfl rfl _ _ I ?_);go_roundg a2;exact⟨k+1,A5,(m+1)+1,c5,pre,(tl++[y])++[x],some s,by omega,by go_num,rfl,ah (by simpa using bI.out),bH,HF,ah (by intro h;cases h),ah (by have:=M.out;omega),ah (λz f=>by rcases List.mem_append.1 f with f|f;exact a5.out z f;rw[List.mem_singleton]at f;subst f;exact W.out),lZ⟩;omega
   ·
    have hr:r<tail.length:=by omega
    have HY:Hid ((pre++s::tail)[j]? =some tail[r]):=ah (by
     have hj:=HJ.out
     rw[show j=pre.length+(r+1)from by omega,List.getElem?_append_right (by omega),Nat.add_sub_cancel_left,List.getElem?_cons_succ,List.getElem?_eq_getElem hr])
    have aL:=ah (a5.out _ (gM' hr));generalize tail[r]=y at*;have aM:=z0' j;have bC:(j:Int)<((m+1:Nat):Int):=(by have:=HJ.out;have:=HN.out;omega);have hd:decide ((0:Int)<=(j:Int))=true:=dt' aM;have e1:(aG T y != 0)=true:=(by rw[bne_iff_ne];exact aL.out);have Z:∀q:aj wr,∀k:Nat,q.w.cell? ⟨w.heap.size,k,none⟩=t.v.cells[k]? :=λq=>bf.out _ (E.out.trans' q.h)
    have R:∀q:aj wr,q.w.cell? ⟨g,j,none⟩=some (.int .i64 y):=bY (aK.cell K.out (j) y HY.out);go_wp2_with fail;refine rX' ?_
    repeat(go_big_quiet_step(first|(go_at_call 140;with_reducible exact aQ (fZ.out y _ (E.out.trans' (aj.h _))))))
    refine wpQuiet_nil ?_;rintro _⟨G,rfl⟩;clear Z R;obtain⟨Y,N⟩:=eX' G.w;have F:Hid (aK Y J.heap.size _ _ c2 _):=ah (by rw[N];exact Own.ext K.out G.h);have H:Hid (Ext J Y):=ah (by rw[N];exact E.out.trans' G.h);rw[<- N];clear N K E;go_wp2;go_roundg r
    case measure=>omega
    case rel=>
     refine⟨by omega,?_,F,H⟩;rcases Nat.eq_zero_or_pos r with h0|h0
     .exact .inl ⟨h0,by have:=HJ.out;first|(congr 1;omega)|go_num⟩
     .exact .inr ⟨r-1,j-1,by omega,by have:=HJ.out;first|(congr 1;omega)|go_num,ah (by have:=HJ.out;omega)⟩
theorem WU(ht:aS w t T)(r:aC w ⟨A,n,c⟩ l):
 cE' 205 #[t.v,.slice A n c] w (.bool (pR T l)):=by
 have b:=cO w t;have p:=ah (ht.aB b);have i:=ah (r.ext b);clear ht r;cases q:(eU T l==0)
 .have j:Hid (pR T l=false):=ah (by rw[pR,q];rfl);go_enter func205,ntmps205;go_wp2_with fail;refine(Nc T t l A n c _ p.out i.out).mono ?_;rintro e s⟨B,m,d,rfl,a,f⟩;have k:=b.trans' a;clear a f;go_wp2;go_ret;exact⟨aO j.out.symm,k⟩
 .have j:Hid (pR T l=jA (kU T l) l):=ah (by rw[pR,q];rfl);go_enter func205,ntmps205;go_wp2_with fail;refine(Nc T t l A n c _ p.out i.out).mono ?_;rintro e s⟨B,m,d,rfl,a,f⟩;have g:=ah a;have o:=ah f;clear a f;go_wp2_with fail;refine(WR (kU T l) l B m d A n c _ o.out (i.out.ext g.out)).mono ?_;rintro e x⟨rfl,h⟩;have k:=(b.trans' g.out).trans' h;clear h;go_wp2;go_ret;exact⟨aO j.out.symm,k⟩
end Go.Proofs.YtljilcbobhmkgaaGreatDoor
