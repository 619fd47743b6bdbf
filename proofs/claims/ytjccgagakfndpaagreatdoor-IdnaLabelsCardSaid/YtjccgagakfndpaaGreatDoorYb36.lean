/- Part Yb36. -/
import Derived.Test.YtjccgagakfndpaaGreatDoorYb35
open Go.Proofs.Tryz
namespace Go.Proofs.YtjccgagakfndpaaGreatDoor
set_option maxHeartbeats 25600000
set_option maxRecDepth 100000
open Go.RowKit
def aKo (T:bK) (w1:World) (D V:List Int) (gh:Nat) (s8 s26:Value) (wx:World):Prop:=
 ∃ (k:Nat) (A:Option Addr) (n c:Nat) (pre tail:List Int) (st:Option Int),k+gh=D.length∧s26= .int .i64 k∧s8= .slice A n c∧Hid (bJ wx w1.heap.size A n c (pre++st.toList++tail))∧Hid (Ext w1 wx)∧Hid (V=cZ T pre st tail (D.drop k))∧Hid (st=none→pre=[])∧Hid (n≤k)∧Hid (∀ z∈tail,bG T z≠0)∧Hid (∀ z,st=some z→bG T z=0)
def aOJ (w1:World) (A:Option Addr) (n c:Nat) (L:List Int) (b0:Int) (q gh:Nat) (s11:Value) (wx:World):Prop:=
 gh≤q∧((gh=0∧s11= .int .i64 b0)∨(∃ r j:Nat,gh=r+1∧s11= .int .i64 j∧Hid ((j:Int)=b0+1+r)))∧Hid (bJ wx w1.heap.size A n c L)∧Hid (Ext w1 wx)
theorem qC (T:bK) (t:TV) (l:List Int) (A:Option Addr) (n c:Nat) (w:World) (ht:bT w t T) (hi:aX w ⟨A,n,c⟩ l):
 Calls prog 51 #[t.v,.slice A n c] w fun e w'=>∃ B m d,e= .returned (.tuple #[.slice B m d,.int .i64 (gJ T l)])∧Ext w w'∧aX w' ⟨B,m,d⟩ (mF T l):=by
 have ak:=aUt w t;have aA:=aW0 ak;have HT:=aW0 (ht.aQ ak);have HI:=aW0 (hi.ext ak);clear ht hi ak;go_enter func51,ntmps51;go_wp2_with fail;refine (G7 T t l A n c _ HT.out HI.out).mono ?_;rintro e I ⟨B,m,d,rfl,am,ag⟩;have a7:=aW0 am;have br:w.heap.size<I.heap.size:=by have Z:=am.b.size;simp at Z;omega
 have hm:=ag.len.1;subst hm;clear am;by_cases f:gJ T l=0
 case neg=>
  have bs:(gJ T l != 0)=true:=bN' f;have HZ:=aW0 f;have hb:=aA.out.trans' a7.out;clear f ag;go_wp2_with fail;go_ret2;exact ⟨none,0,0,rfl,hb,by rw [mF,if_neg HZ.out];exact aX.nil_ _⟩
 rw [zB,if_pos f] at ag;have HW:=aW0 (I7 f).1;have HC:=aW0 (mG (I7 f).1);have b8:=aW0 (I5 HC.out l);have aE:=aW0 (I7 f).2;have HE:Hid (gJ T l=0):=aW0 f;have an:Hid (mF T l=cZ T [] none [] ((iY T l).drop 0)):=aW0 (by rw [mF,if_pos f];rfl);have HS:=aW0 (oN HW.out);rw [zB,if_pos f,f];obtain ⟨V,hV⟩:∃ V,mF T l=V:=⟨_,rfl⟩;rw [hV] at an;have ba:=aW0 hV;clear hV;generalize iY T l=D at*;have bb:=aW0 ag;clear ag f;go_wp2_with fail;go_loopg [8,26] D.length (fun gh s8 s26 wx=>aKo T I D V gh s8 s26 wx)
 case atStart=>exact ⟨0,none,0,0,[],[],none,by omega,rfl,rfl,aW0 (Own.nil_ _ _ _ _),aW0 (Ext.refl _),an,aW0 (fun _=>rfl),aW0 (Nat.le_refl _),aW0 (fun z f=>by cases f),aW0 (fun z f=>by cases f)⟩
 case round=>
  obtain ⟨k,A2,n2,c2,pre,tail,st,bt,rfl,rfl,HO,HB,HR,bc,L,a3,VI⟩:=hrel;clear an;by_cases ao:k<D.length
  case neg=>
   have HF:Hid (V=pre++st.toList++tail):=aW0 (by rw [HR.out,bH D k (by omega),WH]);have bd:Hid (aX wr ⟨A2,n2,c2⟩ V):=aW0 (by rw [HF.out];exact bJ.ints HO.out);have hx:=(aA.out.trans' a7.out).trans' HB.out;clear HR;go_wp2_with fail;go_ret2;exact ⟨_,_,_,by rw [HE.out];rfl,hx,by rw [ba.out];exact bd.out⟩
  obtain ⟨a1,rfl⟩:∃ g',gk=g'+1:=⟨gk - 1,by omega⟩;have aI:=aW0 (bb.out.ext HB.out);obtain ⟨b,o,hA,bu⟩:=aI.out.at_ ao;subst hA;have HD:=aW0 (drop_at D k ao);have aL:=aW0 (b8.out _ (List.getElem_mem ao));generalize D[k]=x at*;have bv:=z0' k;have bw:(k:Int)<(D.length:Int):=by omega
  have bx:D.length≤4096:=aE.out;have MF:Hid (V=cZ T pre st tail (x::D.drop (k+1))):=aW0 (by rw [HR.out,HD.out]);have iG:Hid (∀ (w':World),Ext I w'→∀ k:Nat,w'.cell? ⟨w.heap.size,k,none⟩=t.v.cells[k]?):=aW0 fun w' hw'=>aO (a7.out.trans' hw')
  have QU:Hid (∀ (c:Int) (w':World),Ext I w'→Calls prog 85 #[t.v,.int .i64 c] w' fun e w''=>e= .returned (.int .i64 (bG T c))∧Ext w' w''):=aW0 (fun c w' h=>lQ t T c w' (HT.out.aQ (a7.out.trans' h)));clear HR HD aI;cases st with
  |none=>
   have be:pre=[]:=bc.out rfl;subst be;have ah:Hid (bJ wr I.heap.size A2 n2 c2 tail):=aW0 (by simpa using HO.out);have HN:Hid (n2=tail.length):=aW0 (by have:=ah.out.len;simp at this;omega);have KG:Hid (V=if bG T x=0 then cZ T ([]++tail) (some x) [] (D.drop (k+1)) else cZ T [] none (tail++[x]) (D.drop (k+1))):=aW0 (MF.out.trans (ZJ [] tail x _));clear HO MF;have S:=z0' n2;have bz:(n2:Int)≤4096:=by have:=L.out;have:=aE.out;omega
   go_wp2_with fail;go_loopg [11] tail.length (fun gh s11 wx=>aOJ I A2 n2 c2 tail (-1) tail.length gh s11 wx)
   case atStart=>
    refine ⟨Nat.le_refl _,?_,ah,HB⟩;rcases Nat.eq_zero_or_pos tail.length with h0|h0
    ·exact .inl ⟨h0,by have:=HN.out;rw [h0] at this;subst this;first|rfl|go_num⟩
    ·exact .inr ⟨tail.length - 1,n2 - 1,by omega,by have:=HN.out;first|(congr 1;omega)|go_num,aW0 (by have:=HN.out;omega)⟩
   case round=>
    obtain ⟨bf,hs,J,C⟩:=hrel;rcases hs with ⟨rfl,rfl⟩|⟨r,j,rfl,rfl,HJ⟩
    ·
     have hd:decide ((0:Int)≤ -1)=false:=rfl;have bA:decide ((-1:Int)<0)=true:=rfl;have Y:∀ yy:aS wr,∀ k:Nat,yy.w.cell? ⟨w.heap.size,k,none⟩=t.v.cells[k]? :=fun yy=>iG.out _ (C.out.trans' yy.h)
     go_wp2_with fail;refine rX' ?_
     repeat (go_big_quiet_step (first|(fail)))
     refine wpQuiet_nil ?_;rintro _ ⟨F,rfl⟩;clear Y;obtain ⟨X,M⟩:∃ X:World,X=F.w:=⟨_,rfl⟩;have E:Hid (bJ X I.heap.size _ _ c2 _):=aW0 (by rw [M];exact Own.ext J.out F.h);have G:Hid (Ext I X):=aW0 (by rw [M];exact C.out.trans' F.h);rw [← M];clear M J C;have J:=E;have C:=G;clear E G;have Y:∀ yy:aS X,∀ k:Nat,yy.w.cell? ⟨w.heap.size,k,none⟩=t.v.cells[k]? :=fun yy=>iG.out _ (C.out.trans' yy.h)
     go_wp2_with fail;refine rX' ?_
     repeat (go_big_quiet_step (first|(fail)))
     refine wpQuiet_nil ?_;rintro _ ⟨F,rfl⟩;clear Y;obtain ⟨N,O⟩:∃ N:World,N=F.w:=⟨_,rfl⟩;have E:Hid (bJ N I.heap.size _ _ c2 _):=aW0 (by rw [O];exact Own.ext J.out F.h);have G:Hid (Ext I N):=aW0 (by rw [O];exact C.out.trans' F.h);rw [← O];clear O J C;by_cases K:bG T x=0
     ·
      have HF:Hid (V=cZ T ([]++tail) (some x) ([]) (D.drop (k+1))):=aW0 (KG.out.trans (if_pos K));have U:Hid (bG T x=0):=aW0 K;clear K KG;have q:Ext N (N.alloc (.cells #[.int .i64 x] 3)):=(Ext.refl _).aB _;have S:=L.out;obtain ⟨A5,c5,w5,H,a,i,_⟩:=aZ (Own.ext E.out q) (dQ N x) (by omega) (by have Z:=G.out.b.size;simp;omega);have kC:=aW0 a;have iJ:Hid (Ext I w5):=aW0 (aP (G.out.trans' q) i (fun k K=>(Own.lt E.out k K).1));clear a i q S;go_wp2_with (at_builtin;refine aF rfl _ _ _ rfl _ _ rfl rfl _ _ H ?_);go_roundg a1
      case measure=>omega
      case rel=>exact ⟨k+1,A5,n2+1,c5,[]++tail,[],some x,by omega,by go_num,rfl,aW0 (by simpa using kC.out),iJ,HF,aW0 (by intro h;cases h),aW0 (by have:=L.out;omega),aW0 (fun z f=>by cases f),aW0 (fun z f=>by injection f with f;subst f;exact U.out)⟩
     ·
      have HF:Hid (V=cZ T ([]) (none) (tail++[x]) (D.drop (k+1))):=aW0 (KG.out.trans (if_neg K));have U:Hid (bG T x≠0):=aW0 K;clear K KG;have q:Ext N (N.alloc (.cells #[.int .i64 x] 3)):=(Ext.refl _).aB _;have S:=L.out;obtain ⟨A5,c5,w5,H,a,i,_⟩:=aZ (Own.ext E.out q) (dQ N x) (by omega) (by have Z:=G.out.b.size;simp;omega);have kC:=aW0 a;have iJ:Hid (Ext I w5):=aW0 (aP (G.out.trans' q) i (fun k K=>(Own.lt E.out k K).1));clear a i q S;go_wp2_with (at_builtin;refine aF rfl _ _ _ rfl _ _ rfl rfl _ _ H ?_);go_roundg a1
      case measure=>omega
      case rel=>exact ⟨k+1,A5,n2+1,c5,[],tail++[x],none,by omega,by go_num,rfl,aW0 (by simpa using kC.out),iJ,HF,aW0 (fun _=>rfl),aW0 (by have:=L.out;omega),aW0 (fun z f=>by rcases List.mem_append.1 f with f|f;exact a3.out z f;rw [List.mem_singleton] at f;subst f;exact U.out),VI⟩
    ·
     have hr:r<tail.length:=by omega
     have HY:Hid ((tail)[j]? =some tail[r]):=aW0 (by
      have hj:=HJ.out
      rw [show j=r from by omega,List.getElem?_eq_getElem hr])
     have aq:=aW0 (a3.out _ (List.getElem_mem hr));generalize tail[r]=y at*;have ar:=z0' j;have bj:(j:Int)<(n2:Int):=by have:=HJ.out;have:=HN.out;omega
     have hd:decide ((0:Int)≤(j:Int))=true:=decide_eq_true ar;have e1:(bG T y != 0)=true:=by rw [bne_iff_ne];exact aq.out
     obtain ⟨g,rfl⟩:=Own.some_ J.out (by omega);have Y:∀ yy:aS wr,∀ k:Nat,yy.w.cell? ⟨w.heap.size,k,none⟩=t.v.cells[k]? :=fun yy=>iG.out _ (C.out.trans' yy.h)
     have Q:∀ yy:aS wr,yy.w.cell? ⟨g,j,none⟩=some (.int .i64 y):=bU (bJ.cell J.out (j) y HY.out);go_wp2_with fail;refine rX' ?_
     repeat (go_big_quiet_step (first|(go_at_call 85;with_reducible exact aC (QU.out y _ (C.out.trans' (aS.h _))))))
     refine wpQuiet_nil ?_;rintro _ ⟨F,rfl⟩;clear Y Q;obtain ⟨X,M⟩:∃ X:World,X=F.w:=⟨_,rfl⟩;have E:Hid (bJ X I.heap.size _ _ c2 _):=aW0 (by rw [M];exact Own.ext J.out F.h);have G:Hid (Ext I X):=aW0 (by rw [M];exact C.out.trans' F.h);rw [← M];clear M J C;go_wp2_with fail;go_roundg r
     case measure=>omega
     case rel=>
      refine ⟨by omega,?_,E,G⟩;rcases Nat.eq_zero_or_pos r with h0|h0
      ·exact .inl ⟨h0,by have:=HJ.out;first|(congr 1;omega)|go_num⟩
      ·exact .inr ⟨r - 1,j - 1,by omega,by have:=HJ.out;first|(congr 1;omega)|go_num,aW0 (by have:=HJ.out;omega)⟩
  |some s=>
   obtain ⟨m,rfl⟩:∃ m,n2=m+1:=⟨n2 - 1,by have:=HO.out.len;simp at this;omega⟩;have ah:Hid (bJ wr I.heap.size A2 (m+1) c2 (pre++s::tail)):=aW0 (by simpa using HO.out);have HN:Hid (m+1=pre.length+1+tail.length):=aW0 (by have:=ah.out.len;simp at this;omega);have aN:=VI.out s rfl;have bk:=aW0 aN;clear HO aN;have bq:((m+1:Nat):Int) - 1=(m:Int):=by omega
   have bl:(0:Int)≤(pre.length:Int):=aYv _;have bB:=z0' m;have bE:(m:Int)<((m+1:Nat):Int):=by omega
   have bI:m+1≤4096:=by have:=L.out;omega
   have bL:(pre.length:Int)<((m+1:Nat):Int):=by have:=HN.out;omega
   go_wp2_with fail;go_loopg [11] tail.length (fun gh s11 wx=>aOJ I A2 (m+1) c2 (pre++s::tail) (pre.length:Int) tail.length gh s11 wx)
   case atStart=>
    refine ⟨Nat.le_refl _,?_,ah,HB⟩;rcases Nat.eq_zero_or_pos tail.length with h0|h0
    ·exact .inl ⟨h0,by have:=HN.out;first|(congr 1;omega)|go_num⟩
    ·exact .inr ⟨tail.length - 1,m,by omega,by first|rfl|go_num,aW0 (by have:=HN.out;omega)⟩
   case round=>
    obtain ⟨bf,hs,J,C⟩:=hrel;obtain ⟨g,rfl⟩:=Own.some_ J.out (by omega);rcases hs with ⟨rfl,rfl⟩|⟨r,j,rfl,rfl,HJ⟩
    ·
     have hd:decide ((0:Int)≤(pre.length:Int))=true:=decide_eq_true bl;have bM:decide ((pre.length:Int)<0)=false:=dF';have e0:(bG T s != 0)=false:=by rw [bk.out];rfl
     have Y:∀ yy:aS wr,∀ k:Nat,yy.w.cell? ⟨w.heap.size,k,none⟩=t.v.cells[k]? :=fun yy=>iG.out _ (C.out.trans' yy.h)
     have Q:∀ yy:aS wr,yy.w.cell? ⟨g,pre.length,none⟩=some (.int .i64 s):=bU (bJ.cell J.out (pre.length) s (by simp));go_wp2_with fail;refine rX' ?_
     repeat (go_big_quiet_step (first|(go_at_call 85;with_reducible exact aC (QU.out s _ (C.out.trans' (aS.h _))))))
     refine wpQuiet_nil ?_;rintro _ ⟨F,rfl⟩;clear Y Q;obtain ⟨X,M⟩:∃ X:World,X=F.w:=⟨_,rfl⟩;have E:Hid (bJ X I.heap.size _ _ c2 _):=aW0 (by rw [M];exact Own.ext J.out F.h);have G:Hid (Ext I X):=aW0 (by rw [M];exact C.out.trans' F.h);rw [← M];clear M J C;rcases List.eq_nil_or_concat tail with al|⟨tl,y,al⟩
     ·
      subst al;have aa:m=pre.length:=by have:=HN.out;simp at this;omega
      have bm:decide ((pre.length:Int)<(m:Int))=false:=dF';have bn:decide (pre.length<m)=false:=dF';have bo:=aW0 aa;clear aa;have J:=E;have C:=G;clear E G;have Y:∀ yy:aS X,∀ k:Nat,yy.w.cell? ⟨w.heap.size,k,none⟩=t.v.cells[k]? :=fun yy=>iG.out _ (C.out.trans' yy.h)
      go_wp2_with fail;refine rX' ?_
      repeat (go_big_quiet_step (first|(fail)))
      refine wpQuiet_nil ?_;rintro _ ⟨F,rfl⟩;clear Y;obtain ⟨N,O⟩:∃ N:World,N=F.w:=⟨_,rfl⟩;have E:Hid (bJ N I.heap.size _ _ c2 _):=aW0 (by rw [O];exact Own.ext J.out F.h);have G:Hid (Ext I N):=aW0 (by rw [O];exact C.out.trans' F.h);rw [← O];clear O J C;cases W:pairT T s x with
      |some y2=>
       have HF:Hid (V=cZ T pre (some y2) ([]) (D.drop (k+1))):=aW0 (by rw [MF.out,cZ,show vV T [] x=false from rfl,if_neg (by simp),W]);have HP:Hid (pF T s x=(y2,true)):=aW0 (by rw [pF,W]);have av:=aW0 (X6 HC.out aL.out W).2.1;clear W MF;have J:=E;have C:=G;clear E G
       have ab:Hid (∀ (w':World),Ext I w'→Calls prog 86 #[t.v,.int .i64 s,.int .i64 x] w' fun e w''=>e= .returned (.tuple #[.int .i64 y2,.bool true])∧Ext w' w''):=aW0 (fun w' h=>by
        have Z:=IC T HW.out t s x w' (HT.out.aQ (a7.out.trans' h));rw [HP.out] at Z
        exact Z)
       have Y:∀ yy:aS N,∀ k:Nat,yy.w.cell? ⟨w.heap.size,k,none⟩=t.v.cells[k]? :=fun yy=>iG.out _ (C.out.trans' yy.h)
       have Q:∀ yy:aS N,yy.w.cell? ⟨g,pre.length,none⟩=some (.int .i64 s):=bU (bJ.cell J.out (pre.length) s (by simp));go_wp2_with fail;refine rX' ?_
       repeat (go_big_quiet_step (first|(go_at_call 86;with_reducible exact aC (ab.out _ (C.out.trans' (aS.h _))))))
       refine wpQuiet_nil ?_;rintro _ ⟨F,rfl⟩;clear Y Q;obtain ⟨R,P⟩:∃ R:World,R=F.w:=⟨_,rfl⟩;have E:Hid (bJ R I.heap.size _ _ c2 _):=aW0 (by rw [P];exact Own.ext J.out F.h);have G:Hid (Ext I R):=aW0 (by rw [P];exact C.out.trans' F.h);rw [← P];clear P J C;have r0:R.cell? ⟨g,pre.length,none⟩=some (.int .i64 s):=E.out.cell pre.length s (by simp);have f0:R.frozen? ⟨g,pre.length,none⟩=false:=E.out.frozen pre.length;have kC:=aW0 (E.out.set pre.length y2);have aw:I.heap.size≤g:=(Own.lt E.out g rfl).1;have iJ:=aW0 (G.out.jS (p:=⟨g,pre.length,none⟩) aw (.int .i64 y2));generalize ax:pre.length=p at*;go_wp2_with fail;go_roundg a1
       case measure=>omega
       case rel=>exact ⟨k+1,some ⟨g,0,none⟩,m+1,c2,pre,[],some y2,by omega,by go_num,rfl,aW0 (by have h5:=kC.out;rw [← ax] at h5 ⊢;simpa [List.set_append] using h5),iJ,HF,aW0 (by intro h;cases h),aW0 (by have:=L.out;omega),a3,aW0 (fun z f=>by injection f with f;subst f;exact av.out)⟩
      |none=>
       have KG:Hid (V=if bG T x=0 then cZ T (pre++s::([])) (some x) [] (D.drop (k+1)) else cZ T pre (some s) ([]++[x]) (D.drop (k+1))):=aW0 (by rw [MF.out,cZ,show vV T [] x=false from rfl,if_neg (by simp),W]);have HP:Hid (pF T s x=(0,false)):=aW0 (by rw [pF,W]);clear W MF;have J:=E;have C:=G;clear E G
       have ab:Hid (∀ (w':World),Ext I w'→Calls prog 86 #[t.v,.int .i64 s,.int .i64 x] w' fun e w''=>e= .returned (.tuple #[.int .i64 0,.bool false])∧Ext w' w''):=aW0 (fun w' h=>by
        have Z:=IC T HW.out t s x w' (HT.out.aQ (a7.out.trans' h));rw [HP.out] at Z
        exact Z)
       have Y:∀ yy:aS N,∀ k:Nat,yy.w.cell? ⟨w.heap.size,k,none⟩=t.v.cells[k]? :=fun yy=>iG.out _ (C.out.trans' yy.h)
       have Q:∀ yy:aS N,yy.w.cell? ⟨g,pre.length,none⟩=some (.int .i64 s):=bU (bJ.cell J.out (pre.length) s (by simp));go_wp2_with fail;refine rX' ?_
       repeat (go_big_quiet_step (first|(go_at_call 86;with_reducible exact aC (ab.out _ (C.out.trans' (aS.h _))))))
       refine wpQuiet_nil ?_;rintro _ ⟨F,rfl⟩;clear Y Q;obtain ⟨R,P⟩:∃ R:World,R=F.w:=⟨_,rfl⟩;have E:Hid (bJ R I.heap.size _ _ c2 _):=aW0 (by rw [P];exact Own.ext J.out F.h);have G:Hid (Ext I R):=aW0 (by rw [P];exact C.out.trans' F.h);rw [← P];clear P J C;by_cases K:bG T x=0
       ·
        have HF:Hid (V=cZ T (pre++s::[]) (some x) ([]) (D.drop (k+1))):=aW0 (KG.out.trans (if_pos K));have U:Hid (bG T x=0):=aW0 K;clear K KG;have q:Ext R (R.alloc (.cells #[.int .i64 x] 3)):=(Ext.refl _).aB _;have S:=L.out;obtain ⟨A5,c5,w5,H,a,i,_⟩:=aZ (Own.ext E.out q) (dQ R x) (by omega) (by have Z:=G.out.b.size;simp;omega);have kC:=aW0 a;have iJ:Hid (Ext I w5):=aW0 (aP (G.out.trans' q) i (fun k K=>(Own.lt E.out k K).1));clear a i q S;go_wp2_with (at_builtin;refine aF rfl _ _ _ rfl _ _ rfl rfl _ _ H ?_);go_roundg a1
        case measure=>omega
        case rel=>exact ⟨k+1,A5,(m+1)+1,c5,pre++s::[],[],some x,by omega,by go_num,rfl,aW0 (by simpa using kC.out),iJ,HF,aW0 (by intro h;cases h),aW0 (by have:=L.out;omega),aW0 (fun z f=>by cases f),aW0 (fun z f=>by injection f with f;subst f;exact U.out)⟩
       ·
        have HF:Hid (V=cZ T (pre) (some s) ([]++[x]) (D.drop (k+1))):=aW0 (KG.out.trans (if_neg K));have U:Hid (bG T x≠0):=aW0 K;clear K KG;have q:Ext R (R.alloc (.cells #[.int .i64 x] 3)):=(Ext.refl _).aB _;have S:=L.out;obtain ⟨A5,c5,w5,H,a,i,_⟩:=aZ (Own.ext E.out q) (dQ R x) (by omega) (by have Z:=G.out.b.size;simp;omega);have kC:=aW0 a;have iJ:Hid (Ext I w5):=aW0 (aP (G.out.trans' q) i (fun k K=>(Own.lt E.out k K).1));clear a i q S;go_wp2_with (at_builtin;refine aF rfl _ _ _ rfl _ _ rfl rfl _ _ H ?_);go_roundg a1
        case measure=>omega
        case rel=>exact ⟨k+1,A5,(m+1)+1,c5,pre,[]++[x],some s,by omega,by go_num,rfl,aW0 (by simpa using kC.out),iJ,HF,aW0 (by intro h;cases h),aW0 (by have:=L.out;omega),aW0 (fun z f=>by rcases List.mem_append.1 f with f|f;exact a3.out z f;rw [List.mem_singleton] at f;subst f;exact U.out),VI⟩
     ·
      rw [List.concat_eq_append] at al;subst al;have aa:m=(pre++s::tl).length:=by have:=HN.out;simp at this ⊢;omega
      have bp:pre.length<m:=by rw [aa];simp
      have bm:decide ((pre.length:Int)<(m:Int))=true:=dT';have bn:decide (pre.length<m)=true:=dT'
      have aV:Hid ((pre++s::(tl++[y]))[m]? =some y):=aW0 (by
       have e:pre++s::(tl++[y])=(pre++s::tl)++[y]:=by simp
       rw [e,aa,List.getElem?_concat_length])
      have bo:=aW0 aa;have b2:=a3.out y (by simp);have XR:Hid (vV T (tl++[y]) x=decide (bG T x≤bG T y)):=aW0 (by rw [a3i,decide_eq_false b2,Bool.false_or]);clear aa bp b2;by_cases h2:bG T x≤bG T y
      ·
       have e2:decide (bG T x≤bG T y)=true:=decide_eq_true h2;have KG:Hid (V=if bG T x=0 then cZ T (pre++s::(tl++[y])) (some x) [] (D.drop (k+1)) else cZ T pre (some s) (tl++[y]++[x]) (D.drop (k+1))):=aW0 (by rw [MF.out,cZ,XR.out,e2,if_pos rfl]);clear MF h2;have J:=E;have C:=G;clear E G;have Y:∀ yy:aS X,∀ k:Nat,yy.w.cell? ⟨w.heap.size,k,none⟩=t.v.cells[k]? :=fun yy=>iG.out _ (C.out.trans' yy.h)
       have Q:∀ yy:aS X,yy.w.cell? ⟨g,m,none⟩=some (.int .i64 y):=bU (bJ.cell J.out (m) y aV.out);go_wp2_with fail;refine rX' ?_
       repeat (go_big_quiet_step (first|(go_at_call 85;with_reducible exact aC (QU.out y _ (C.out.trans' (aS.h _))))|(go_at_call 85;with_reducible exact aC (QU.out x _ (C.out.trans' (aS.h _))))))
       refine wpQuiet_nil ?_;rintro _ ⟨F,rfl⟩;clear Y Q;obtain ⟨N,O⟩:∃ N:World,N=F.w:=⟨_,rfl⟩;have E:Hid (bJ N I.heap.size _ _ c2 _):=aW0 (by rw [O];exact Own.ext J.out F.h);have G:Hid (Ext I N):=aW0 (by rw [O];exact C.out.trans' F.h);rw [← O];clear O J C;by_cases K:bG T x=0
       ·
        have HF:Hid (V=cZ T (pre++s::(tl++[y])) (some x) ([]) (D.drop (k+1))):=aW0 (KG.out.trans (if_pos K));have U:Hid (bG T x=0):=aW0 K;clear K KG;have q:Ext N (N.alloc (.cells #[.int .i64 x] 3)):=(Ext.refl _).aB _;have S:=L.out;obtain ⟨A5,c5,w5,H,a,i,_⟩:=aZ (Own.ext E.out q) (dQ N x) (by omega) (by have Z:=G.out.b.size;simp;omega);have kC:=aW0 a;have iJ:Hid (Ext I w5):=aW0 (aP (G.out.trans' q) i (fun k K=>(Own.lt E.out k K).1));clear a i q S;go_wp2_with (at_builtin;refine aF rfl _ _ _ rfl _ _ rfl rfl _ _ H ?_);go_roundg a1
        case measure=>omega
        case rel=>exact ⟨k+1,A5,(m+1)+1,c5,pre++s::(tl++[y]),[],some x,by omega,by go_num,rfl,aW0 (by simpa using kC.out),iJ,HF,aW0 (by intro h;cases h),aW0 (by have:=L.out;omega),aW0 (fun z f=>by cases f),aW0 (fun z f=>by injection f with f;subst f;exact U.out)⟩
       ·
        have HF:Hid (V=cZ T (pre) (some s) ((tl++[y])++[x]) (D.drop (k+1))):=aW0 (KG.out.trans (if_neg K));have U:Hid (bG T x≠0):=aW0 K;clear K KG;have q:Ext N (N.alloc (.cells #[.int .i64 x] 3)):=(Ext.refl _).aB _;have S:=L.out;obtain ⟨A5,c5,w5,H,a,i,_⟩:=aZ (Own.ext E.out q) (dQ N x) (by omega) (by have Z:=G.out.b.size;simp;omega);have kC:=aW0 a;have iJ:Hid (Ext I w5):=aW0 (aP (G.out.trans' q) i (fun k K=>(Own.lt E.out k K).1));clear a i q S;go_wp2_with (at_builtin;refine aF rfl _ _ _ rfl _ _ rfl rfl _ _ H ?_);go_roundg a1
        case measure=>omega
        case rel=>exact ⟨k+1,A5,(m+1)+1,c5,pre,(tl++[y])++[x],some s,by omega,by go_num,rfl,aW0 (by simpa using kC.out),iJ,HF,aW0 (by intro h;cases h),aW0 (by have:=L.out;omega),aW0 (fun z f=>by rcases List.mem_append.1 f with f|f;exact a3.out z f;rw [List.mem_singleton] at f;subst f;exact U.out),VI⟩
      ·
       have e2:decide (bG T x≤bG T y)=false:=decide_eq_false h2;have b3:Hid (vV T (tl++[y]) x=false):=aW0 (by rw [XR.out,e2]);clear h2;have J:=E;have C:=G;clear E G;have Y:∀ yy:aS X,∀ k:Nat,yy.w.cell? ⟨w.heap.size,k,none⟩=t.v.cells[k]? :=fun yy=>iG.out _ (C.out.trans' yy.h)
       have Q:∀ yy:aS X,yy.w.cell? ⟨g,m,none⟩=some (.int .i64 y):=bU (bJ.cell J.out (m) y aV.out);go_wp2_with fail;refine rX' ?_
       repeat (go_big_quiet_step (first|(go_at_call 85;with_reducible exact aC (QU.out y _ (C.out.trans' (aS.h _))))|(go_at_call 85;with_reducible exact aC (QU.out x _ (C.out.trans' (aS.h _))))))
       refine wpQuiet_nil ?_;rintro _ ⟨F,rfl⟩;clear Y Q;obtain ⟨N,O⟩:∃ N:World,N=F.w:=⟨_,rfl⟩;have E:Hid (bJ N I.heap.size _ _ c2 _):=aW0 (by rw [O];exact Own.ext J.out F.h);have G:Hid (Ext I N):=aW0 (by rw [O];exact C.out.trans' F.h);rw [← O];clear O J C;cases W:pairT T s x with
       |some y2=>
        have HF:Hid (V=cZ T pre (some y2) ((tl++[y])) (D.drop (k+1))):=aW0 (by rw [MF.out,cZ,b3.out,if_neg (by simp),W]);have HP:Hid (pF T s x=(y2,true)):=aW0 (by rw [pF,W]);have av:=aW0 (X6 HC.out aL.out W).2.1;clear W MF;have J:=E;have C:=G;clear E G
        have ab:Hid (∀ (w':World),Ext I w'→Calls prog 86 #[t.v,.int .i64 s,.int .i64 x] w' fun e w''=>e= .returned (.tuple #[.int .i64 y2,.bool true])∧Ext w' w''):=aW0 (fun w' h=>by
         have Z:=IC T HW.out t s x w' (HT.out.aQ (a7.out.trans' h));rw [HP.out] at Z
         exact Z)
        have Y:∀ yy:aS N,∀ k:Nat,yy.w.cell? ⟨w.heap.size,k,none⟩=t.v.cells[k]? :=fun yy=>iG.out _ (C.out.trans' yy.h)
        have Q:∀ yy:aS N,yy.w.cell? ⟨g,pre.length,none⟩=some (.int .i64 s):=bU (bJ.cell J.out (pre.length) s (by simp));go_wp2_with fail;refine rX' ?_
        repeat (go_big_quiet_step (first|(go_at_call 86;with_reducible exact aC (ab.out _ (C.out.trans' (aS.h _))))))
        refine wpQuiet_nil ?_;rintro _ ⟨F,rfl⟩;clear Y Q;obtain ⟨R,P⟩:∃ R:World,R=F.w:=⟨_,rfl⟩;have E:Hid (bJ R I.heap.size _ _ c2 _):=aW0 (by rw [P];exact Own.ext J.out F.h);have G:Hid (Ext I R):=aW0 (by rw [P];exact C.out.trans' F.h);rw [← P];clear P J C;have r0:R.cell? ⟨g,pre.length,none⟩=some (.int .i64 s):=E.out.cell pre.length s (by simp);have f0:R.frozen? ⟨g,pre.length,none⟩=false:=E.out.frozen pre.length;have kC:=aW0 (E.out.set pre.length y2);have aw:I.heap.size≤g:=(Own.lt E.out g rfl).1;have iJ:=aW0 (G.out.jS (p:=⟨g,pre.length,none⟩) aw (.int .i64 y2));generalize ax:pre.length=p at*;go_wp2_with fail;go_roundg a1
        case measure=>omega
        case rel=>exact ⟨k+1,some ⟨g,0,none⟩,m+1,c2,pre,(tl++[y]),some y2,by omega,by go_num,rfl,aW0 (by have h5:=kC.out;rw [← ax] at h5 ⊢;simpa [List.set_append] using h5),iJ,HF,aW0 (by intro h;cases h),aW0 (by have:=L.out;omega),a3,aW0 (fun z f=>by injection f with f;subst f;exact av.out)⟩
       |none=>
        have KG:Hid (V=if bG T x=0 then cZ T (pre++s::((tl++[y]))) (some x) [] (D.drop (k+1)) else cZ T pre (some s) ((tl++[y])++[x]) (D.drop (k+1))):=aW0 (by rw [MF.out,cZ,b3.out,if_neg (by simp),W]);have HP:Hid (pF T s x=(0,false)):=aW0 (by rw [pF,W]);clear W MF;have J:=E;have C:=G;clear E G
        have ab:Hid (∀ (w':World),Ext I w'→Calls prog 86 #[t.v,.int .i64 s,.int .i64 x] w' fun e w''=>e= .returned (.tuple #[.int .i64 0,.bool false])∧Ext w' w''):=aW0 (fun w' h=>by
         have Z:=IC T HW.out t s x w' (HT.out.aQ (a7.out.trans' h));rw [HP.out] at Z
         exact Z)
        have Y:∀ yy:aS N,∀ k:Nat,yy.w.cell? ⟨w.heap.size,k,none⟩=t.v.cells[k]? :=fun yy=>iG.out _ (C.out.trans' yy.h)
        have Q:∀ yy:aS N,yy.w.cell? ⟨g,pre.length,none⟩=some (.int .i64 s):=bU (bJ.cell J.out (pre.length) s (by simp));go_wp2_with fail;refine rX' ?_
        repeat (go_big_quiet_step (first|(go_at_call 86;with_reducible exact aC (ab.out _ (C.out.trans' (aS.h _))))))
        refine wpQuiet_nil ?_;rintro _ ⟨F,rfl⟩;clear Y Q;obtain ⟨R,P⟩:∃ R:World,R=F.w:=⟨_,rfl⟩;have E:Hid (bJ R I.heap.size _ _ c2 _):=aW0 (by rw [P];exact Own.ext J.out F.h);have G:Hid (Ext I R):=aW0 (by rw [P];exact C.out.trans' F.h);rw [← P];clear P J C;by_cases K:bG T x=0
        ·
         have HF:Hid (V=cZ T (pre++s::(tl++[y])) (some x) ([]) (D.drop (k+1))):=aW0 (KG.out.trans (if_pos K));have U:Hid (bG T x=0):=aW0 K;clear K KG;have q:Ext R (R.alloc (.cells #[.int .i64 x] 3)):=(Ext.refl _).aB _;have S:=L.out;obtain ⟨A5,c5,w5,H,a,i,_⟩:=aZ (Own.ext E.out q) (dQ R x) (by omega) (by have Z:=G.out.b.size;simp;omega);have kC:=aW0 a;have iJ:Hid (Ext I w5):=aW0 (aP (G.out.trans' q) i (fun k K=>(Own.lt E.out k K).1));clear a i q S;go_wp2_with (at_builtin;refine aF rfl _ _ _ rfl _ _ rfl rfl _ _ H ?_);go_roundg a1
         case measure=>omega
         case rel=>exact ⟨k+1,A5,(m+1)+1,c5,pre++s::(tl++[y]),[],some x,by omega,by go_num,rfl,aW0 (by simpa using kC.out),iJ,HF,aW0 (by intro h;cases h),aW0 (by have:=L.out;omega),aW0 (fun z f=>by cases f),aW0 (fun z f=>by injection f with f;subst f;exact U.out)⟩
        ·
         have HF:Hid (V=cZ T (pre) (some s) ((tl++[y])++[x]) (D.drop (k+1))):=aW0 (KG.out.trans (if_neg K));have U:Hid (bG T x≠0):=aW0 K;clear K KG;have q:Ext R (R.alloc (.cells #[.int .i64 x] 3)):=(Ext.refl _).aB _;have S:=L.out;obtain ⟨A5,c5,w5,H,a,i,_⟩:=aZ (Own.ext E.out q) (dQ R x) (by omega) (by have Z:=G.out.b.size;simp;omega);have kC:=aW0 a;have iJ:Hid (Ext I w5):=aW0 (aP (G.out.trans' q) i (fun k K=>(Own.lt E.out k K).1));clear a i q S;go_wp2_with (at_builtin;refine aF rfl _ _ _ rfl _ _ rfl rfl _ _ H ?_);go_roundg a1
         case measure=>omega
         case rel=>exact ⟨k+1,A5,(m+1)+1,c5,pre,(tl++[y])++[x],some s,by omega,by go_num,rfl,aW0 (by simpa using kC.out),iJ,HF,aW0 (by intro h;cases h),aW0 (by have:=L.out;omega),aW0 (fun z f=>by rcases List.mem_append.1 f with f|f;exact a3.out z f;rw [List.mem_singleton] at f;subst f;exact U.out),VI⟩
    ·
     have hr:r<tail.length:=by omega
     have HY:Hid ((pre++s::tail)[j]? =some tail[r]):=aW0 (by
      have hj:=HJ.out
      rw [show j=pre.length+(r+1) from by omega,List.getElem?_append_right (by omega),Nat.add_sub_cancel_left,List.getElem?_cons_succ,List.getElem?_eq_getElem hr])
     have aq:=aW0 (a3.out _ (List.getElem_mem hr));generalize tail[r]=y at*;have ar:=z0' j;have bj:(j:Int)<((m+1:Nat):Int):=by have:=HJ.out;have:=HN.out;omega
     have hd:decide ((0:Int)≤(j:Int))=true:=decide_eq_true ar;have e1:(bG T y != 0)=true:=by rw [bne_iff_ne];exact aq.out
     have Y:∀ yy:aS wr,∀ k:Nat,yy.w.cell? ⟨w.heap.size,k,none⟩=t.v.cells[k]? :=fun yy=>iG.out _ (C.out.trans' yy.h)
     have Q:∀ yy:aS wr,yy.w.cell? ⟨g,j,none⟩=some (.int .i64 y):=bU (bJ.cell J.out (j) y HY.out);go_wp2_with fail;refine rX' ?_
     repeat (go_big_quiet_step (first|(go_at_call 85;with_reducible exact aC (QU.out y _ (C.out.trans' (aS.h _))))))
     refine wpQuiet_nil ?_;rintro _ ⟨F,rfl⟩;clear Y Q;obtain ⟨X,M⟩:∃ X:World,X=F.w:=⟨_,rfl⟩;have E:Hid (bJ X I.heap.size _ _ c2 _):=aW0 (by rw [M];exact Own.ext J.out F.h);have G:Hid (Ext I X):=aW0 (by rw [M];exact C.out.trans' F.h);rw [← M];clear M J C;go_wp2_with fail;go_roundg r
     case measure=>omega
     case rel=>
      refine ⟨by omega,?_,E,G⟩;rcases Nat.eq_zero_or_pos r with h0|h0
      ·exact .inl ⟨h0,by have:=HJ.out;first|(congr 1;omega)|go_num⟩
      ·exact .inr ⟨r - 1,j - 1,by omega,by have:=HJ.out;first|(congr 1;omega)|go_num,aW0 (by have:=HJ.out;omega)⟩
theorem QA (T:bK) (t:TV) (l:List Int) (A:Option Addr) (n c:Nat) (w:World) (ht:bT w t T) (hi:aX w ⟨A,n,c⟩ l):
 Calls prog 88 #[t.v,.slice A n c] w fun e w'=>e= .returned (.bool (nV T l))∧Ext w w':=by
 have b:=aUt w t;have p:=aW0 (ht.aQ b);have i:=aW0 (hi.ext b);clear ht hi;cases q:(gJ T l==0)
 ·have j:Hid (nV T l=false):=aW0 (by rw [nV,q];rfl);go_enter func88,ntmps88;go_wp2_with fail;refine (qC T t l A n c _ p.out i.out).mono ?_;rintro e r ⟨B,m,d,rfl,a,f⟩;have k:=b.trans' a;clear a f;go_wp2_with fail;go_ret;exact ⟨aK j.out.symm,k⟩
 ·have j:Hid (nV T l=kE (mF T l) l):=aW0 (by rw [nV,q];rfl);go_enter func88,ntmps88;go_wp2_with fail;refine (qC T t l A n c _ p.out i.out).mono ?_;rintro e r ⟨B,m,d,rfl,a,f⟩;have g:=aW0 a;have o:=aW0 f;clear a f;go_wp2_with fail;refine (NP (mF T l) l B m d A n c _ o.out (i.out.ext g.out)).mono ?_;rintro e s ⟨rfl,h⟩;have k:=(b.trans' g.out).trans' h;clear h;go_wp2_with fail;go_ret;exact ⟨aK j.out.symm,k⟩
end Go.Proofs.YtjccgagakfndpaaGreatDoor
