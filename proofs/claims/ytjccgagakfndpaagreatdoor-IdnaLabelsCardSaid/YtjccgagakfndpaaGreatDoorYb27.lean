/- Part Yb27. -/
import Derived.Test.YtjccgagakfndpaaGreatDoorYb21
open Go.Proofs.Tryz
namespace Go.Proofs.YtjccgagakfndpaaGreatDoor
set_option maxHeartbeats 25600000
set_option maxRecDepth 100000
open Go.RowKit
def stV (pre:List Int):Option Int→Int
 |none=> -1
 |some _=>pre.length
def aJe (T:bK) (w1:World) (l V:List Int) (gh:Nat) (s6 s7 s20:Value) (wx:World):Prop:=
 ∃ (k:Nat) (A:Option Addr) (n c:Nat) (pre tail:List Int) (st:Option Int),k+gh=l.length∧s20= .int .i64 k∧s6= .slice A n c∧s7= .int .i64 (stV pre st)∧Hid (bJ wx w1.heap.size A n c (pre++st.toList++tail))∧Hid (Ext w1 wx)∧Hid (V=cZ T pre st tail (l.drop k))∧Hid (st=none→pre=[])∧Hid (n≤k)
theorem a3i {T:bK} {tail:List Int} {y c:Int}:vV T (tail++[y]) c=(decide (bG T y=0)||decide (bG T c≤bG T y)):=by
 simp [vV]
theorem a3k (T:bK) (hw:lV T=true) (t:TV) (l:List Int) (A:Option Addr) (n c:Nat) (w:World) (ht:bT w t T) (hi:aX w ⟨A,n,c⟩ l) (hl:l.length≤1000000000):
 Calls prog 142 #[t.v,.slice A n c] w fun e w'=>∃ B m d,e= .returned (.slice B m d)∧aX w' ⟨B,m,d⟩ (MZ T l)∧Ext w w'∧∀ b,aT B=some b→w.heap.size≤b:=by
 have ai:=aUt w t;have HT:=aW0 (ht.aQ ai);have HI:=aW0 (hi.ext ai);have HW:=aW0 hw;have HS:=aW0 (oN hw);have hn:=hi.len.1;subst hn;have HV:Hid (MZ T l=cZ T [] none [] (l.drop 0)):=aW0 rfl;generalize MZ T l=V at*;clear ht hi hw;go_enter func142,ntmps142;go_wp2_with fail;refine (F8 t T _ HT.out HW.out).mono ?_;rintro e J ⟨r,rfl,be,ay,ar⟩;have ab:=aW0 ay;have H:=aW0 ar;have bf:w.heap.size<J.heap.size:=by have h':=ar.b.size;simp at h';omega
 clear ay ar;go_wp2_with fail;go_loopg [6,7,20] l.length (fun gh s6 s7 s20 wx=>aJe T J l V gh s6 s7 s20 wx)
 case atStart=>exact ⟨0,none,0,0,[],[],none,by omega,rfl,rfl,rfl,aW0 (Own.nil_ _ _ _ _),aW0 (Ext.refl _),HV,aW0 (fun _=>rfl),aW0 (Nat.le_refl _)⟩
 case round=>
  obtain ⟨k,A2,n2,c2,pre,tail,st,bg,rfl,rfl,rfl,HO,HB,HR,aI,aL⟩:=hrel;have U6:=aW0 (H.out.trans' HB.out);have aM:=aW0 (HI.out.ext U6.out);have bh:J.heap.size≤wr.heap.size:=HB.out.b.size;by_cases az:k<l.length
  ·obtain ⟨U,rfl⟩:∃ g',gk=g'+1:=⟨gk - 1,by omega⟩;obtain ⟨b,o,hA,W⟩:=aM.out.at_ az;subst hA;have HD:=aW0 (drop_at l k az);generalize l[k]=x at*;have bi:=z0' k;have bj:(k:Int)<(l.length:Int):=by omega
   have bk:=aL.out;have R:∀ k:Nat,wr.cell? ⟨w.heap.size,k,none⟩=t.v.cells[k]? :=aO U6.out;have QU:=aW0 (dH t T x wr (HT.out.aQ U6.out) HS.out);have HN:Hid (n2=(pre++st.toList++tail).length):=aW0 (by have:=HO.out.len;simp at this ⊢;omega);have MF:Hid (V=cZ T pre st tail (x::l.drop (k+1))):=aW0 (by rw [HR.out,HD.out]);clear HR HD HV;cases st with
   |none=>
    have au:pre=[]:=aI.out rfl;have bl:Hid (n2=tail.length):=aW0 (by rw [HN.out,au];simp);have aN:=aW0 au;clear au;have hd:decide ((-1:Int)<0)=true:=rfl;by_cases F:bG T x=0
    ·
     have X:Hid (V=cZ T (pre++tail) (some x) ([]) (l.drop (k+1))):=aW0 (MF.out.trans ((ZJ pre (tail) x (l.drop (k+1))).trans (if_pos F)));have a2:(bG T x==0)=true:=by rw [beq_iff_eq];exact F
     clear F MF;generalize bG T x=kx at*;go_wp2_with fail;refine QU.out.mono ?_;rintro e E ⟨rfl,a⟩;have q:=aW0 (HB.out.trans' a);have K:Hid (bJ E _ _ _ _ _):=aW0 (Own.ext HO.out a);have Y:wr.heap.size≤E.heap.size:=a.b.size;have iG:Hid (∀ (w':World),Ext J w'→∀ k:Nat,w'.cell? ⟨w.heap.size,k,none⟩=t.v.cells[k]?):=aW0 fun w' hw'=>aO (H.out.trans' hw')
     clear a R W;have I:=K;have L:=q;have j:Ext E (E.alloc (.cells #[.int .i64 x] 3)):=(Ext.refl _).aB _;obtain ⟨A5,c5,w5,C,f,i,_⟩:=aZ (Own.ext I.out j) (dQ E x) (by omega) (by have h':=L.out.b.size;simp;omega);have Z:=aW0 f;have iJ:Hid (Ext J w5):=aW0 (aP (L.out.trans' j) i (fun k F=>(Own.lt I.out k F).1));clear f i j;go_wp2_with (at_builtin;refine aF rfl _ _ _ rfl _ _ rfl rfl _ _ C ?_);go_roundg U
     case measure=>omega
     case rel=>exact ⟨k+1,A5,n2+1,c5,pre++tail,[],some x,by omega,by go_num,rfl,(by show Value.int .i64 (((n2:Nat)):Int)=Value.int .i64 (((pre++tail).length:Nat):Int);rw [HN.out];simp),aW0 (by simpa using Z.out),iJ,X,aW0 (by intro h;cases h),aW0 (by omega)⟩
    ·
     have X:Hid (V=cZ T (pre) (none) (tail++[x]) (l.drop (k+1))):=aW0 (MF.out.trans ((ZJ pre (tail) x (l.drop (k+1))).trans (if_neg F)));have a2:(bG T x==0)=false:=by rw [aYs];exact F
     clear F MF;generalize bG T x=kx at*;go_wp2_with fail;refine QU.out.mono ?_;rintro e E ⟨rfl,a⟩;have q:=aW0 (HB.out.trans' a);have K:Hid (bJ E _ _ _ _ _):=aW0 (Own.ext HO.out a);have Y:wr.heap.size≤E.heap.size:=a.b.size;have iG:Hid (∀ (w':World),Ext J w'→∀ k:Nat,w'.cell? ⟨w.heap.size,k,none⟩=t.v.cells[k]?):=aW0 fun w' hw'=>aO (H.out.trans' hw')
     clear a R W;have I:=K;have L:=q;have j:Ext E (E.alloc (.cells #[.int .i64 x] 3)):=(Ext.refl _).aB _;obtain ⟨A5,c5,w5,C,f,i,_⟩:=aZ (Own.ext I.out j) (dQ E x) (by omega) (by have h':=L.out.b.size;simp;omega);have Z:=aW0 f;have iJ:Hid (Ext J w5):=aW0 (aP (L.out.trans' j) i (fun k F=>(Own.lt I.out k F).1));clear f i j;go_wp2_with (at_builtin;refine aF rfl _ _ _ rfl _ _ rfl rfl _ _ C ?_);go_roundg U
     case measure=>omega
     case rel=>exact ⟨k+1,A5,n2+1,c5,pre,tail++[x],none,by omega,by go_num,rfl,rfl,aW0 (by simpa using Z.out),iJ,X,aW0 (fun _=>aN.out),aW0 (by omega)⟩
   |some s=>
    obtain ⟨m,rfl⟩:∃ m,n2=m+1:=⟨n2 - 1,by have:=HN.out;simp at this;omega⟩;obtain ⟨g,rfl⟩:=HO.out.some_ (by omega);have ba:((m+1:Nat):Int) - 1=(m:Int):=by omega
    have bm:(0:Int)≤(pre.length:Int):=aYv _;have hd:decide ((pre.length:Int)<0)=false:=dF';have bn:decide ((0:Int)≤(pre.length:Int))=true:=dT';have aA:stV pre (some s)=(pre.length:Int):=rfl;rw [aA];clear aA;have bo:(pre.length:Int)<((m+1:Nat):Int):=by have:=HN.out;simp at this;omega
    have bp:(m:Int)<((m+1:Nat):Int):=by omega
    have bq:=z0' m;rcases List.eq_nil_or_concat tail with ak|⟨M,y,ak⟩
    ·
     subst ak;have a8:m=pre.length:=by have:=HN.out;simp at this;omega
     have aR:decide ((pre.length:Int)<(m:Int))=false:=dF';have aV:decide (pre.length<m)=false:=dF';have b2:=aW0 a8;clear a8;cases O:pairT T s x with
     |some y2=>
      have X:Hid (V=cZ T pre (some y2) ([]) (l.drop (k+1))):=aW0 (by rw [MF.out,cZ,show vV T [] x=false from rfl,if_neg (by simp),O]);have HP:Hid (pF T s x=(y2,true)):=aW0 (by rw [pF,O]);clear O MF;go_wp2_with fail;refine QU.out.mono ?_;rintro e E ⟨rfl,a⟩;have q:=aW0 (HB.out.trans' a);have K:Hid (bJ E _ _ _ _ _):=aW0 (Own.ext HO.out a);have Y:wr.heap.size≤E.heap.size:=a.b.size;have iG:Hid (∀ (w':World),Ext J w'→∀ k:Nat,w'.cell? ⟨w.heap.size,k,none⟩=t.v.cells[k]?):=aW0 fun w' hw'=>aO (H.out.trans' hw')
      clear a R W;have S:=K;have N:=q;have r3:E.cell? ⟨g,pre.length,none⟩=some (.int .i64 s):=bJ.cell K.out pre.length s (by simp);go_wp2_with fail;refine (CZ T r s x _ (ab.out.ext N.out)).mono ?_;rintro e P ⟨rfl,D⟩;have I:Hid (bJ P _ _ _ _ _):=aW0 (Own.ext S.out D);have L:=aW0 (N.out.trans' D);have LX:=D.b.size;clear D;rw [HP.out];have r0:P.cell? ⟨g,pre.length,none⟩=some (.int .i64 s):=I.out.cell pre.length s (by simp);have f0:P.frozen? ⟨g,pre.length,none⟩=false:=I.out.frozen pre.length;have Z:=aW0 (I.out.set pre.length y2);have av:J.heap.size≤g:=(Own.lt I.out g rfl).1;have iJ:=aW0 (L.out.jS (p:=⟨g,pre.length,none⟩) av (.int .i64 y2));generalize af:pre.length=p at*;go_wp2_with fail;go_roundg U
      case measure=>omega
      case rel=>exact ⟨k+1,some ⟨g,0,none⟩,m+1,c2,pre,[],some y2,by omega,by go_num,rfl,(by rw [← af];rfl),aW0 (by have h5:=Z.out;rw [← af] at h5 ⊢;simpa [List.set_append] using h5),iJ,X,aW0 (by intro h;cases h),aW0 (by omega)⟩
     |none=>
      have KG:Hid (V=if bG T x=0 then cZ T (pre++s::([])) (some x) [] (l.drop (k+1)) else cZ T pre (some s) ([]++[x]) (l.drop (k+1))):=aW0 (by rw [MF.out,cZ,show vV T [] x=false from rfl,if_neg (by simp),O]);have HP:Hid (pF T s x=(0,false)):=aW0 (by rw [pF,O]);clear O;by_cases F:bG T x=0
      ·
       have X:Hid (V=cZ T (pre++s::[]) (some x) ([]) (l.drop (k+1))):=aW0 (KG.out.trans (if_pos F));have a2:(bG T x==0)=true:=by rw [beq_iff_eq];exact F
       clear F MF KG;generalize bG T x=kx at*;go_wp2_with fail;refine QU.out.mono ?_;rintro e E ⟨rfl,a⟩;have q:=aW0 (HB.out.trans' a);have K:Hid (bJ E _ _ _ _ _):=aW0 (Own.ext HO.out a);have Y:wr.heap.size≤E.heap.size:=a.b.size;have iG:Hid (∀ (w':World),Ext J w'→∀ k:Nat,w'.cell? ⟨w.heap.size,k,none⟩=t.v.cells[k]?):=aW0 fun w' hw'=>aO (H.out.trans' hw')
       clear a R W;have S:=K;have N:=q;have r3:E.cell? ⟨g,pre.length,none⟩=some (.int .i64 s):=bJ.cell K.out pre.length s (by simp);go_wp2_with fail;refine (CZ T r s x _ (ab.out.ext N.out)).mono ?_;rintro e P ⟨rfl,D⟩;have I:Hid (bJ P _ _ _ _ _):=aW0 (Own.ext S.out D);have L:=aW0 (N.out.trans' D);have LX:=D.b.size;clear D;rw [HP.out];have j:Ext P (P.alloc (.cells #[.int .i64 x] 3)):=(Ext.refl _).aB _;obtain ⟨A5,c5,w5,C,f,i,_⟩:=aZ (Own.ext I.out j) (dQ P x) (by omega) (by have h':=L.out.b.size;simp;omega);have Z:=aW0 f;have iJ:Hid (Ext J w5):=aW0 (aP (L.out.trans' j) i (fun k F=>(Own.lt I.out k F).1));clear f i j;go_wp2_with (at_builtin;refine aF rfl _ _ _ rfl _ _ rfl rfl _ _ C ?_);go_roundg U
       case measure=>omega
       case rel=>exact ⟨k+1,A5,(m+1)+1,c5,pre++s::[],[],some x,by omega,by go_num,rfl,(by show Value.int .i64 ((((m+1):Nat)):Int)=Value.int .i64 (((pre++s::[]).length:Nat):Int);rw [HN.out];simp),aW0 (by simpa using Z.out),iJ,X,aW0 (by intro h;cases h),aW0 (by omega)⟩
      ·
       have X:Hid (V=cZ T (pre) (some s) ([]++[x]) (l.drop (k+1))):=aW0 (KG.out.trans (if_neg F));have a2:(bG T x==0)=false:=by rw [aYs];exact F
       clear F MF KG;generalize bG T x=kx at*;go_wp2_with fail;refine QU.out.mono ?_;rintro e E ⟨rfl,a⟩;have q:=aW0 (HB.out.trans' a);have K:Hid (bJ E _ _ _ _ _):=aW0 (Own.ext HO.out a);have Y:wr.heap.size≤E.heap.size:=a.b.size;have iG:Hid (∀ (w':World),Ext J w'→∀ k:Nat,w'.cell? ⟨w.heap.size,k,none⟩=t.v.cells[k]?):=aW0 fun w' hw'=>aO (H.out.trans' hw')
       clear a R W;have S:=K;have N:=q;have r3:E.cell? ⟨g,pre.length,none⟩=some (.int .i64 s):=bJ.cell K.out pre.length s (by simp);go_wp2_with fail;refine (CZ T r s x _ (ab.out.ext N.out)).mono ?_;rintro e P ⟨rfl,D⟩;have I:Hid (bJ P _ _ _ _ _):=aW0 (Own.ext S.out D);have L:=aW0 (N.out.trans' D);have LX:=D.b.size;clear D;rw [HP.out];have j:Ext P (P.alloc (.cells #[.int .i64 x] 3)):=(Ext.refl _).aB _;obtain ⟨A5,c5,w5,C,f,i,_⟩:=aZ (Own.ext I.out j) (dQ P x) (by omega) (by have h':=L.out.b.size;simp;omega);have Z:=aW0 f;have iJ:Hid (Ext J w5):=aW0 (aP (L.out.trans' j) i (fun k F=>(Own.lt I.out k F).1));clear f i j;go_wp2_with (at_builtin;refine aF rfl _ _ _ rfl _ _ rfl rfl _ _ C ?_);go_roundg U
       case measure=>omega
       case rel=>exact ⟨k+1,A5,(m+1)+1,c5,pre,[]++[x],some s,by omega,by go_num,rfl,rfl,aW0 (by simpa using Z.out),iJ,X,aW0 (by intro h;cases h),aW0 (by omega)⟩
    ·
     rw [List.concat_eq_append] at ak;subst ak;have a8:m=(pre++s::M).length:=by have:=HN.out;simp at this ⊢;omega
     have b3:pre.length<m:=by rw [a8];simp
     have aR:decide ((pre.length:Int)<(m:Int))=true:=dT';have aV:decide (pre.length<m)=true:=dT'
     have a9:Hid ((pre++(some s).toList++(M++[y]))[m]? =some y):=aW0 (by
      have e:pre++(some s).toList++(M++[y])=(pre++s::M)++[y]:=by simp
      rw [e,a8,List.getElem?_concat_length])
     have b2:=aW0 a8;clear a8 b3;have XR:Hid (vV T (M++[y]) x=(decide (bG T y=0)||decide (bG T x≤bG T y))):=aW0 a3i;by_cases h1:bG T y=0
     ·
      have ag:vV T (M++[y]) x=true:=by rw [XR.out,decide_eq_true h1];rfl
      have e1:(bG T y==0)=true:=by rw [beq_iff_eq];exact h1
      clear h1 XR;have KG:Hid (V=if bG T x=0 then cZ T (pre++s::(M++[y])) (some x) [] (l.drop (k+1)) else cZ T pre (some s) (M++[y]++[x]) (l.drop (k+1))):=aW0 (by rw [MF.out,cZ,ag,if_pos rfl]);clear ag;by_cases F:bG T x=0
      ·
       have X:Hid (V=cZ T (pre++s::(M++[y])) (some x) ([]) (l.drop (k+1))):=aW0 (KG.out.trans (if_pos F));have a2:(bG T x==0)=true:=by rw [beq_iff_eq];exact F
       clear F MF KG;generalize bG T x=kx at*;go_wp2_with fail;refine QU.out.mono ?_;rintro e E ⟨rfl,a⟩;have q:=aW0 (HB.out.trans' a);have K:Hid (bJ E _ _ _ _ _):=aW0 (Own.ext HO.out a);have Y:wr.heap.size≤E.heap.size:=a.b.size;have iG:Hid (∀ (w':World),Ext J w'→∀ k:Nat,w'.cell? ⟨w.heap.size,k,none⟩=t.v.cells[k]?):=aW0 fun w' hw'=>aO (H.out.trans' hw')
       clear a R W;have R:∀ yy:aS E,∀ k:Nat,yy.w.cell? ⟨w.heap.size,k,none⟩=t.v.cells[k]? :=fun yy=>iG.out _ (q.out.trans' yy.h)
       have rX:∀ yy:aS E,yy.w.cell? ⟨g,m,none⟩=some (.int .i64 y):=bU (bJ.cell K.out m y a9.out);go_wp2_with fail;refine rX' ?_
       repeat (go_big_quiet_step ((go_at_call 187;exact aC (dH t T y _ (HT.out.aQ (H.out.trans' (q.out.trans' (aS.h _)))) HS.out))))
       refine wpQuiet_nil ?_;rintro _ ⟨Q,rfl⟩;obtain ⟨G,z⟩:∃ G:World,G=Q.w:=⟨_,rfl⟩;have S:Hid (bJ G _ _ _ _ _):=aW0 (by rw [z];exact Own.ext K.out Q.h);have N:Hid (Ext J G):=aW0 (by rw [z];exact q.out.trans' Q.h);rw [← z];clear z R rX;have r3:G.cell? ⟨g,pre.length,none⟩=some (.int .i64 s):=bJ.cell S.out pre.length s (by simp);have I:=S;have L:=N;have LX:=N.out.b.size;have j:Ext G (G.alloc (.cells #[.int .i64 x] 3)):=(Ext.refl _).aB _;obtain ⟨A5,c5,w5,C,f,i,_⟩:=aZ (Own.ext I.out j) (dQ G x) (by omega) (by have h':=L.out.b.size;simp;omega);have Z:=aW0 f;have iJ:Hid (Ext J w5):=aW0 (aP (L.out.trans' j) i (fun k F=>(Own.lt I.out k F).1));clear f i j;go_wp2_with (at_builtin;refine aF rfl _ _ _ rfl _ _ rfl rfl _ _ C ?_);go_roundg U
       case measure=>omega
       case rel=>exact ⟨k+1,A5,(m+1)+1,c5,pre++s::(M++[y]),[],some x,by omega,by go_num,rfl,(by show Value.int .i64 ((((m+1):Nat)):Int)=Value.int .i64 (((pre++s::(M++[y])).length:Nat):Int);rw [HN.out];simp),aW0 (by simpa using Z.out),iJ,X,aW0 (by intro h;cases h),aW0 (by omega)⟩
      ·
       have X:Hid (V=cZ T (pre) (some s) ((M++[y])++[x]) (l.drop (k+1))):=aW0 (KG.out.trans (if_neg F));have a2:(bG T x==0)=false:=by rw [aYs];exact F
       clear F MF KG;generalize bG T x=kx at*;go_wp2_with fail;refine QU.out.mono ?_;rintro e E ⟨rfl,a⟩;have q:=aW0 (HB.out.trans' a);have K:Hid (bJ E _ _ _ _ _):=aW0 (Own.ext HO.out a);have Y:wr.heap.size≤E.heap.size:=a.b.size;have iG:Hid (∀ (w':World),Ext J w'→∀ k:Nat,w'.cell? ⟨w.heap.size,k,none⟩=t.v.cells[k]?):=aW0 fun w' hw'=>aO (H.out.trans' hw')
       clear a R W;have R:∀ yy:aS E,∀ k:Nat,yy.w.cell? ⟨w.heap.size,k,none⟩=t.v.cells[k]? :=fun yy=>iG.out _ (q.out.trans' yy.h)
       have rX:∀ yy:aS E,yy.w.cell? ⟨g,m,none⟩=some (.int .i64 y):=bU (bJ.cell K.out m y a9.out);go_wp2_with fail;refine rX' ?_
       repeat (go_big_quiet_step ((go_at_call 187;exact aC (dH t T y _ (HT.out.aQ (H.out.trans' (q.out.trans' (aS.h _)))) HS.out))))
       refine wpQuiet_nil ?_;rintro _ ⟨Q,rfl⟩;obtain ⟨G,z⟩:∃ G:World,G=Q.w:=⟨_,rfl⟩;have S:Hid (bJ G _ _ _ _ _):=aW0 (by rw [z];exact Own.ext K.out Q.h);have N:Hid (Ext J G):=aW0 (by rw [z];exact q.out.trans' Q.h);rw [← z];clear z R rX;have r3:G.cell? ⟨g,pre.length,none⟩=some (.int .i64 s):=bJ.cell S.out pre.length s (by simp);have I:=S;have L:=N;have LX:=N.out.b.size;have j:Ext G (G.alloc (.cells #[.int .i64 x] 3)):=(Ext.refl _).aB _;obtain ⟨A5,c5,w5,C,f,i,_⟩:=aZ (Own.ext I.out j) (dQ G x) (by omega) (by have h':=L.out.b.size;simp;omega);have Z:=aW0 f;have iJ:Hid (Ext J w5):=aW0 (aP (L.out.trans' j) i (fun k F=>(Own.lt I.out k F).1));clear f i j;go_wp2_with (at_builtin;refine aF rfl _ _ _ rfl _ _ rfl rfl _ _ C ?_);go_roundg U
       case measure=>omega
       case rel=>exact ⟨k+1,A5,(m+1)+1,c5,pre,(M++[y])++[x],some s,by omega,by go_num,rfl,rfl,aW0 (by simpa using Z.out),iJ,X,aW0 (by intro h;cases h),aW0 (by omega)⟩
     ·
      have e1:(bG T y==0)=false:=by rw [aYs];exact h1
      by_cases h2:bG T x≤bG T y
      ·
       have ag:vV T (M++[y]) x=true:=by rw [XR.out,decide_eq_true h2,Bool.or_true]
       have e2:decide (bG T x≤bG T y)=true:=decide_eq_true h2;clear h1 h2 XR;have KG:Hid (V=if bG T x=0 then cZ T (pre++s::(M++[y])) (some x) [] (l.drop (k+1)) else cZ T pre (some s) (M++[y]++[x]) (l.drop (k+1))):=aW0 (by rw [MF.out,cZ,ag,if_pos rfl]);clear ag;by_cases F:bG T x=0
       ·
        have X:Hid (V=cZ T (pre++s::(M++[y])) (some x) ([]) (l.drop (k+1))):=aW0 (KG.out.trans (if_pos F));have a2:(bG T x==0)=true:=by rw [beq_iff_eq];exact F
        clear F MF KG;generalize bG T x=kx at*;go_wp2_with fail;refine QU.out.mono ?_;rintro e E ⟨rfl,a⟩;have q:=aW0 (HB.out.trans' a);have K:Hid (bJ E _ _ _ _ _):=aW0 (Own.ext HO.out a);have Y:wr.heap.size≤E.heap.size:=a.b.size;have iG:Hid (∀ (w':World),Ext J w'→∀ k:Nat,w'.cell? ⟨w.heap.size,k,none⟩=t.v.cells[k]?):=aW0 fun w' hw'=>aO (H.out.trans' hw')
        clear a R W;have R:∀ yy:aS E,∀ k:Nat,yy.w.cell? ⟨w.heap.size,k,none⟩=t.v.cells[k]? :=fun yy=>iG.out _ (q.out.trans' yy.h)
        have rX:∀ yy:aS E,yy.w.cell? ⟨g,m,none⟩=some (.int .i64 y):=bU (bJ.cell K.out m y a9.out);go_wp2_with fail;refine rX' ?_
        repeat (go_big_quiet_step ((go_at_call 187;exact aC (dH t T y _ (HT.out.aQ (H.out.trans' (q.out.trans' (aS.h _)))) HS.out))))
        refine wpQuiet_nil ?_;rintro _ ⟨Q,rfl⟩;obtain ⟨G,z⟩:∃ G:World,G=Q.w:=⟨_,rfl⟩;have S:Hid (bJ G _ _ _ _ _):=aW0 (by rw [z];exact Own.ext K.out Q.h);have N:Hid (Ext J G):=aW0 (by rw [z];exact q.out.trans' Q.h);rw [← z];clear z R rX;have r3:G.cell? ⟨g,pre.length,none⟩=some (.int .i64 s):=bJ.cell S.out pre.length s (by simp);have I:=S;have L:=N;have LX:=N.out.b.size;have j:Ext G (G.alloc (.cells #[.int .i64 x] 3)):=(Ext.refl _).aB _;obtain ⟨A5,c5,w5,C,f,i,_⟩:=aZ (Own.ext I.out j) (dQ G x) (by omega) (by have h':=L.out.b.size;simp;omega);have Z:=aW0 f;have iJ:Hid (Ext J w5):=aW0 (aP (L.out.trans' j) i (fun k F=>(Own.lt I.out k F).1));clear f i j;go_wp2_with (at_builtin;refine aF rfl _ _ _ rfl _ _ rfl rfl _ _ C ?_);go_roundg U
        case measure=>omega
        case rel=>exact ⟨k+1,A5,(m+1)+1,c5,pre++s::(M++[y]),[],some x,by omega,by go_num,rfl,(by show Value.int .i64 ((((m+1):Nat)):Int)=Value.int .i64 (((pre++s::(M++[y])).length:Nat):Int);rw [HN.out];simp),aW0 (by simpa using Z.out),iJ,X,aW0 (by intro h;cases h),aW0 (by omega)⟩
       ·
        have X:Hid (V=cZ T (pre) (some s) ((M++[y])++[x]) (l.drop (k+1))):=aW0 (KG.out.trans (if_neg F));have a2:(bG T x==0)=false:=by rw [aYs];exact F
        clear F MF KG;generalize bG T x=kx at*;go_wp2_with fail;refine QU.out.mono ?_;rintro e E ⟨rfl,a⟩;have q:=aW0 (HB.out.trans' a);have K:Hid (bJ E _ _ _ _ _):=aW0 (Own.ext HO.out a);have Y:wr.heap.size≤E.heap.size:=a.b.size;have iG:Hid (∀ (w':World),Ext J w'→∀ k:Nat,w'.cell? ⟨w.heap.size,k,none⟩=t.v.cells[k]?):=aW0 fun w' hw'=>aO (H.out.trans' hw')
        clear a R W;have R:∀ yy:aS E,∀ k:Nat,yy.w.cell? ⟨w.heap.size,k,none⟩=t.v.cells[k]? :=fun yy=>iG.out _ (q.out.trans' yy.h)
        have rX:∀ yy:aS E,yy.w.cell? ⟨g,m,none⟩=some (.int .i64 y):=bU (bJ.cell K.out m y a9.out);go_wp2_with fail;refine rX' ?_
        repeat (go_big_quiet_step ((go_at_call 187;exact aC (dH t T y _ (HT.out.aQ (H.out.trans' (q.out.trans' (aS.h _)))) HS.out))))
        refine wpQuiet_nil ?_;rintro _ ⟨Q,rfl⟩;obtain ⟨G,z⟩:∃ G:World,G=Q.w:=⟨_,rfl⟩;have S:Hid (bJ G _ _ _ _ _):=aW0 (by rw [z];exact Own.ext K.out Q.h);have N:Hid (Ext J G):=aW0 (by rw [z];exact q.out.trans' Q.h);rw [← z];clear z R rX;have r3:G.cell? ⟨g,pre.length,none⟩=some (.int .i64 s):=bJ.cell S.out pre.length s (by simp);have I:=S;have L:=N;have LX:=N.out.b.size;have j:Ext G (G.alloc (.cells #[.int .i64 x] 3)):=(Ext.refl _).aB _;obtain ⟨A5,c5,w5,C,f,i,_⟩:=aZ (Own.ext I.out j) (dQ G x) (by omega) (by have h':=L.out.b.size;simp;omega);have Z:=aW0 f;have iJ:Hid (Ext J w5):=aW0 (aP (L.out.trans' j) i (fun k F=>(Own.lt I.out k F).1));clear f i j;go_wp2_with (at_builtin;refine aF rfl _ _ _ rfl _ _ rfl rfl _ _ C ?_);go_roundg U
        case measure=>omega
        case rel=>exact ⟨k+1,A5,(m+1)+1,c5,pre,(M++[y])++[x],some s,by omega,by go_num,rfl,rfl,aW0 (by simpa using Z.out),iJ,X,aW0 (by intro h;cases h),aW0 (by omega)⟩
      ·
       have aE:Hid (vV T (M++[y]) x=false):=aW0 (by rw [XR.out,decide_eq_false h1,decide_eq_false h2];rfl);have e2:decide (bG T x≤bG T y)=false:=decide_eq_false h2;clear h1 h2 XR;cases O:pairT T s x with
       |some y2=>
        have X:Hid (V=cZ T pre (some y2) ((M++[y])) (l.drop (k+1))):=aW0 (by rw [MF.out,cZ,aE.out,if_neg (by simp),O]);have HP:Hid (pF T s x=(y2,true)):=aW0 (by rw [pF,O]);clear O MF;go_wp2_with fail;refine QU.out.mono ?_;rintro e E ⟨rfl,a⟩;have q:=aW0 (HB.out.trans' a);have K:Hid (bJ E _ _ _ _ _):=aW0 (Own.ext HO.out a);have Y:wr.heap.size≤E.heap.size:=a.b.size;have iG:Hid (∀ (w':World),Ext J w'→∀ k:Nat,w'.cell? ⟨w.heap.size,k,none⟩=t.v.cells[k]?):=aW0 fun w' hw'=>aO (H.out.trans' hw')
        clear a R W;have R:∀ yy:aS E,∀ k:Nat,yy.w.cell? ⟨w.heap.size,k,none⟩=t.v.cells[k]? :=fun yy=>iG.out _ (q.out.trans' yy.h)
        have rX:∀ yy:aS E,yy.w.cell? ⟨g,m,none⟩=some (.int .i64 y):=bU (bJ.cell K.out m y a9.out);go_wp2_with fail;refine rX' ?_
        repeat (go_big_quiet_step ((go_at_call 187;exact aC (dH t T y _ (HT.out.aQ (H.out.trans' (q.out.trans' (aS.h _)))) HS.out))))
        refine wpQuiet_nil ?_;rintro _ ⟨Q,rfl⟩;obtain ⟨G,z⟩:∃ G:World,G=Q.w:=⟨_,rfl⟩;have S:Hid (bJ G _ _ _ _ _):=aW0 (by rw [z];exact Own.ext K.out Q.h);have N:Hid (Ext J G):=aW0 (by rw [z];exact q.out.trans' Q.h);rw [← z];clear z R rX;have r3:G.cell? ⟨g,pre.length,none⟩=some (.int .i64 s):=bJ.cell S.out pre.length s (by simp);go_wp2_with fail;refine (CZ T r s x _ (ab.out.ext N.out)).mono ?_;rintro e P ⟨rfl,D⟩;have I:Hid (bJ P _ _ _ _ _):=aW0 (Own.ext S.out D);have L:=aW0 (N.out.trans' D);have LX:=D.b.size;clear D;rw [HP.out];have r0:P.cell? ⟨g,pre.length,none⟩=some (.int .i64 s):=I.out.cell pre.length s (by simp);have f0:P.frozen? ⟨g,pre.length,none⟩=false:=I.out.frozen pre.length;have Z:=aW0 (I.out.set pre.length y2);have av:J.heap.size≤g:=(Own.lt I.out g rfl).1;have iJ:=aW0 (L.out.jS (p:=⟨g,pre.length,none⟩) av (.int .i64 y2));generalize af:pre.length=p at*;go_wp2_with fail;go_roundg U
        case measure=>omega
        case rel=>exact ⟨k+1,some ⟨g,0,none⟩,m+1,c2,pre,(M++[y]),some y2,by omega,by go_num,rfl,(by rw [← af];rfl),aW0 (by have h5:=Z.out;rw [← af] at h5 ⊢;simpa [List.set_append] using h5),iJ,X,aW0 (by intro h;cases h),aW0 (by omega)⟩
       |none=>
        have KG:Hid (V=if bG T x=0 then cZ T (pre++s::((M++[y]))) (some x) [] (l.drop (k+1)) else cZ T pre (some s) ((M++[y])++[x]) (l.drop (k+1))):=aW0 (by rw [MF.out,cZ,aE.out,if_neg (by simp),O]);have HP:Hid (pF T s x=(0,false)):=aW0 (by rw [pF,O]);clear O;by_cases F:bG T x=0
        ·
         have X:Hid (V=cZ T (pre++s::(M++[y])) (some x) ([]) (l.drop (k+1))):=aW0 (KG.out.trans (if_pos F));have a2:(bG T x==0)=true:=by rw [beq_iff_eq];exact F
         clear F MF KG;generalize bG T x=kx at*;go_wp2_with fail;refine QU.out.mono ?_;rintro e E ⟨rfl,a⟩;have q:=aW0 (HB.out.trans' a);have K:Hid (bJ E _ _ _ _ _):=aW0 (Own.ext HO.out a);have Y:wr.heap.size≤E.heap.size:=a.b.size;have iG:Hid (∀ (w':World),Ext J w'→∀ k:Nat,w'.cell? ⟨w.heap.size,k,none⟩=t.v.cells[k]?):=aW0 fun w' hw'=>aO (H.out.trans' hw')
         clear a R W;have R:∀ yy:aS E,∀ k:Nat,yy.w.cell? ⟨w.heap.size,k,none⟩=t.v.cells[k]? :=fun yy=>iG.out _ (q.out.trans' yy.h)
         have rX:∀ yy:aS E,yy.w.cell? ⟨g,m,none⟩=some (.int .i64 y):=bU (bJ.cell K.out m y a9.out);go_wp2_with fail;refine rX' ?_
         repeat (go_big_quiet_step ((go_at_call 187;exact aC (dH t T y _ (HT.out.aQ (H.out.trans' (q.out.trans' (aS.h _)))) HS.out))))
         refine wpQuiet_nil ?_;rintro _ ⟨Q,rfl⟩;obtain ⟨G,z⟩:∃ G:World,G=Q.w:=⟨_,rfl⟩;have S:Hid (bJ G _ _ _ _ _):=aW0 (by rw [z];exact Own.ext K.out Q.h);have N:Hid (Ext J G):=aW0 (by rw [z];exact q.out.trans' Q.h);rw [← z];clear z R rX;have r3:G.cell? ⟨g,pre.length,none⟩=some (.int .i64 s):=bJ.cell S.out pre.length s (by simp);go_wp2_with fail;refine (CZ T r s x _ (ab.out.ext N.out)).mono ?_;rintro e P ⟨rfl,D⟩;have I:Hid (bJ P _ _ _ _ _):=aW0 (Own.ext S.out D);have L:=aW0 (N.out.trans' D);have LX:=D.b.size;clear D;rw [HP.out];have j:Ext P (P.alloc (.cells #[.int .i64 x] 3)):=(Ext.refl _).aB _;obtain ⟨A5,c5,w5,C,f,i,_⟩:=aZ (Own.ext I.out j) (dQ P x) (by omega) (by have h':=L.out.b.size;simp;omega);have Z:=aW0 f;have iJ:Hid (Ext J w5):=aW0 (aP (L.out.trans' j) i (fun k F=>(Own.lt I.out k F).1));clear f i j;go_wp2_with (at_builtin;refine aF rfl _ _ _ rfl _ _ rfl rfl _ _ C ?_);go_roundg U
         case measure=>omega
         case rel=>exact ⟨k+1,A5,(m+1)+1,c5,pre++s::(M++[y]),[],some x,by omega,by go_num,rfl,(by show Value.int .i64 ((((m+1):Nat)):Int)=Value.int .i64 (((pre++s::(M++[y])).length:Nat):Int);rw [HN.out];simp),aW0 (by simpa using Z.out),iJ,X,aW0 (by intro h;cases h),aW0 (by omega)⟩
        ·
         have X:Hid (V=cZ T (pre) (some s) ((M++[y])++[x]) (l.drop (k+1))):=aW0 (KG.out.trans (if_neg F));have a2:(bG T x==0)=false:=by rw [aYs];exact F
         clear F MF KG;generalize bG T x=kx at*;go_wp2_with fail;refine QU.out.mono ?_;rintro e E ⟨rfl,a⟩;have q:=aW0 (HB.out.trans' a);have K:Hid (bJ E _ _ _ _ _):=aW0 (Own.ext HO.out a);have Y:wr.heap.size≤E.heap.size:=a.b.size;have iG:Hid (∀ (w':World),Ext J w'→∀ k:Nat,w'.cell? ⟨w.heap.size,k,none⟩=t.v.cells[k]?):=aW0 fun w' hw'=>aO (H.out.trans' hw')
         clear a R W;have R:∀ yy:aS E,∀ k:Nat,yy.w.cell? ⟨w.heap.size,k,none⟩=t.v.cells[k]? :=fun yy=>iG.out _ (q.out.trans' yy.h)
         have rX:∀ yy:aS E,yy.w.cell? ⟨g,m,none⟩=some (.int .i64 y):=bU (bJ.cell K.out m y a9.out);go_wp2_with fail;refine rX' ?_
         repeat (go_big_quiet_step ((go_at_call 187;exact aC (dH t T y _ (HT.out.aQ (H.out.trans' (q.out.trans' (aS.h _)))) HS.out))))
         refine wpQuiet_nil ?_;rintro _ ⟨Q,rfl⟩;obtain ⟨G,z⟩:∃ G:World,G=Q.w:=⟨_,rfl⟩;have S:Hid (bJ G _ _ _ _ _):=aW0 (by rw [z];exact Own.ext K.out Q.h);have N:Hid (Ext J G):=aW0 (by rw [z];exact q.out.trans' Q.h);rw [← z];clear z R rX;have r3:G.cell? ⟨g,pre.length,none⟩=some (.int .i64 s):=bJ.cell S.out pre.length s (by simp);go_wp2_with fail;refine (CZ T r s x _ (ab.out.ext N.out)).mono ?_;rintro e P ⟨rfl,D⟩;have I:Hid (bJ P _ _ _ _ _):=aW0 (Own.ext S.out D);have L:=aW0 (N.out.trans' D);have LX:=D.b.size;clear D;rw [HP.out];have j:Ext P (P.alloc (.cells #[.int .i64 x] 3)):=(Ext.refl _).aB _;obtain ⟨A5,c5,w5,C,f,i,_⟩:=aZ (Own.ext I.out j) (dQ P x) (by omega) (by have h':=L.out.b.size;simp;omega);have Z:=aW0 f;have iJ:Hid (Ext J w5):=aW0 (aP (L.out.trans' j) i (fun k F=>(Own.lt I.out k F).1));clear f i j;go_wp2_with (at_builtin;refine aF rfl _ _ _ rfl _ _ rfl rfl _ _ C ?_);go_roundg U
         case measure=>omega
         case rel=>exact ⟨k+1,A5,(m+1)+1,c5,pre,(M++[y])++[x],some s,by omega,by go_num,rfl,rfl,aW0 (by simpa using Z.out),iJ,X,aW0 (by intro h;cases h),aW0 (by omega)⟩
  ·have X:Hid (V=pre++st.toList++tail):=aW0 (by rw [HR.out,bH l k (by omega),WH]);have b4:Hid (aX wr ⟨A2,n2,c2⟩ V):=aW0 (by rw [X.out];exact bJ.ints HO.out);have hx:=ai.trans' U6.out;have b5:Hid (∀ b,aT A2=some b→w.heap.size≤b):=aW0 (fun b hb=>by have h1:=(HO.out.lt b hb).1;have h2:=(ai.trans' H.out).b.size;omega);go_wp2_with fail;go_ret;exact ⟨_,_,_,rfl,b4.out,hx,b5.out⟩
end Go.Proofs.YtjccgagakfndpaaGreatDoor
