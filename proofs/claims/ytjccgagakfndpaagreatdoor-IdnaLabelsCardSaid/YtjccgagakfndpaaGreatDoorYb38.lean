/- Part Yb38. -/
import Derived.Test.YtjccgagakfndpaaGreatDoorYb24
open Go.Proofs.Tryz
namespace Go.Proofs.YtjccgagakfndpaaGreatDoor
set_option maxHeartbeats 25600000
set_option maxRecDepth 100000
open Go.RowKit
theorem a1f {T:bK} {l:List Int} {i s:Int} (h:i<0):fP T l i s=false:=by rw [fP,if_pos h]
theorem D8 (t:TV) (T:bK) (l:List Int) (A:Option Addr) (n c:Nat) (i:Int) (w:World) (ht:bT w t T) (h:aX w ⟨A,n,c⟩ l):
 Calls prog 125 #[t.v,.slice A n c,.int .i64 i] w fun e w'=>e= .returned (.bool (nK T l i))∧Ext w w':=by
 obtain ⟨hn,bm,br⟩:=h.len;subst hn;have B:=aUt w t;have HI:=aW0 h;have HT:=aW0 ht;by_cases c1:i<0
 ·have m:Hid (nK T l i=false):=aW0 (by rw [nK,MX c1];rfl);have d1:decide (i<0)=true:=kU c1;clear ht h;go_enter func125,ntmps125;go_wp2_with fail;go_ret;exact ⟨aK m.out.symm,B⟩
 have d1:decide (i<0)=false:=lU c1;obtain ⟨i,rfl⟩:∃ k:Nat,i=(k:Int):=⟨i.toNat,by omega⟩;by_cases c2:l.length≤i
 ·have m:Hid (nK T l i=false):=aW0 (by rw [nK,MW (by omega)];rfl);have d2:decide (l.length≤i)=true:=kU c2;have d3:decide ((l.length:Int)≤(i:Int))=true:=kU (by omega);clear ht h;go_enter func125,ntmps125;go_wp2_with fail;go_ret;exact ⟨aK m.out.symm,B⟩
 have d2:decide (l.length≤i)=false:=lU c2;have d3:decide ((l.length:Int)≤(i:Int))=false:=lU (by omega);have Q:=aW0 (rJ t T l A l.length c _ (ht.aQ B) (h.ext B));by_cases c3:bF T l=0
 case neg=>
  have m:Hid (nK T l i=false):=aW0 (by rw [nK,J9 c3];rfl);have e1:(bF T l != 0)=true:=bN' c3;generalize bF T l=oe at*;clear c3 ht h;go_enter func125,ntmps125;go_wp2_with fail;refine (Q.out).mono ?_;rintro e r ⟨rfl,d⟩;go_wp2_with fail;go_ret;exact ⟨aK m.out.symm,B.trans' d⟩
 have hi:i<l.length:=by omega
 have bs:=z0' i;have bt:(i:Int)<(l.length:Int):=by omega
 have N:=WZ T l i hi false;have O:=WZ T l i hi true;have ab:Hid (kJ T l i=true):=aW0 (zO c3 hi);have HB:Hid (nK T l i=pO T l i):=aW0 (by rw [nK,ab.out];rfl);rw [c3] at Q;obtain ⟨b,o,ha,R⟩:=h.at_ hi;subst ha;have HD:Hid (l.getD i 0=l[i]):=aW0 (getD_lt l i 0 hi)
 have F:Hid (∀ j,j<l.length→∃ y,l.getD j 0=y∧w.cell? ⟨b,o+j,none⟩=some (.int .i64 y)):=aW0 (fun j hj=>by
  obtain ⟨b',o',yG,h2⟩:=HI.out.at_ hj;injection yG with yG;injection yG with e1 e2;subst e1 e2
  exact ⟨_,getD_lt l j 0 hj,h2⟩)
 have aA:Hid (∀ a,lF T l i false=a→∀ w',Ext w w'→Calls prog 159 #[t.v,.slice (some ⟨b,o,none⟩) l.length c,.int .i64 i] w' fun e w''=>e= .returned (.int .i64 a)∧Ext w' w''):=aW0 (fun a ha w' hw'=>by
  have G:=a2B t T l (some ⟨b,o,none⟩) l.length c i w' (HT.out.aQ hw') (HI.out.ext hw');rw [show leftV T l i=a from by rw [leftV,if_pos ab.out,← ha];rfl] at G
  exact G)
 have aD:Hid (∀ a,lF T l i true=a→∀ w',Ext w w'→Calls prog 160 #[t.v,.slice (some ⟨b,o,none⟩) l.length c,.int .i64 i] w' fun e w''=>e= .returned (.int .i64 a)∧Ext w' w''):=aW0 (fun a ha w' hw'=>by
  have G:=ZY t T l (some ⟨b,o,none⟩) l.length c i w' (HT.out.aQ hw') (HI.out.ext hw');rw [show oC T l i=a from by rw [oC,if_pos ab.out,← ha];rfl] at G
  exact G)
 obtain ⟨D,ac⟩:∃ a,lF T l i false=a:=⟨_,rfl⟩;obtain ⟨E,ad⟩:∃ a,lF T l i true=a:=⟨_,rfl⟩;rw [ac] at N;rw [ad] at O;have QW:=aW0 (aA.out D ac);have J:=aW0 (aD.out E ad);obtain ⟨V,hV⟩:∃ V,V=nK T l i:=⟨_,rfl⟩
 have HV:Hid (V=if (!(l[i]==8204)&& !(l[i]==8205))=true then true else if (decide (0<i)&&bG T (l.getD (i - 1) 0)==9)=true then true else (l[i]==8204&&fP T l D 1&&fP T l E 2)):=aW0 (by
  rw [hV,HB.out,pO,HD.out,ac,ad])
 rw [← hV];clear hV ac ad HB aA aD ab ht h c1 c2 c3 HD;generalize l[i]=x at*;by_cases hx:x=8205∨x=8204
 case neg=>
  simp only [not_or] at hx;have e1:(x != 8205)=true:=by rw [bne_iff_ne];exact hx.1
  have e2:(x != 8204)=true:=by rw [bne_iff_ne];exact hx.2
  have m:Hid (V=true):=aW0 (by
   have f1:(x==8205)=false:=by rw [aYs];exact hx.1
   have f2:(x==8204)=false:=by rw [aYs];exact hx.2
   rw [HV.out,f1,f2];rfl)
  clear HV hx F QW J;go_enter func125,ntmps125;go_wp2_with fail;refine (Q.out).mono ?_;rintro e r ⟨rfl,d⟩;have C:=aW0 d;have s:=aW0 (B.trans' d);clear d Q;have rT:∀ z:aS r,∀ p:Nat,z.w.cell? ⟨w.heap.size,p,none⟩=t.v.cells[p]? :=fun z=>aO (C.out.trans' z.h)
  have rX:∀ z:aS r,z.w.cell? ⟨b,o+i,none⟩=some (.int .i64 x):=fun z=>aW (bC (s.out.trans' z.h)) R
  go_wp2_with fail;refine rX' ?_
  repeat (go_big_quiet_step (fail))
  refine wpQuiet_nil ?_;rintro _ ⟨z,rfl⟩;clear rT rX;go_wp2_with fail;go_ret;exact ⟨aK m.out.symm,s.out.trans' z.h⟩
 rcases hx with rfl|rfl
 case inl=>
  have K:Hid (V=if (decide (0<i)&&bG T (l.getD (i - 1) 0)==9)=true then true else ((8205:Int)==8204&&fP T l D 1&&fP T l E 2)):=HV;clear HV;rcases Nat.eq_zero_or_pos i with hz|P
  case inl=>
   have S:decide (0<i)=false:=lU (by omega);have L:Hid (V=((8205:Int)==8204&&fP T l D 1&&fP T l E 2)):=aW0 (by rw [K.out,S];rfl);clear K hz;go_enter func125,ntmps125;go_wp2_with fail;refine (Q.out).mono ?_;rintro e r ⟨rfl,d⟩;have C:=aW0 d;have s:=aW0 (B.trans' d);clear d Q;have rT:∀ z:aS r,∀ p:Nat,z.w.cell? ⟨w.heap.size,p,none⟩=t.v.cells[p]? :=fun z=>aO (C.out.trans' z.h)
   have rX:∀ z:aS r,z.w.cell? ⟨b,o+i,none⟩=some (.int .i64 8205):=fun z=>aW (bC (s.out.trans' z.h)) R
   go_wp2_with fail;refine rX' ?_
   repeat (go_big_quiet_step (fail))
   refine wpQuiet_nil ?_;rintro _ ⟨z,rfl⟩;have U:=aW0 z.h;have f:=aW0 (s.out.trans' z.h);have BJ:∀ y:aS z.w,∀ p:Nat,y.w.cell? ⟨w.heap.size,p,none⟩=t.v.cells[p]? :=fun y=>aO (C.out.trans' (U.out.trans' y.h))
   have H:Hid (∀ y:aS z.w,Calls prog 159 #[t.v,.slice (some ⟨b,o,none⟩) l.length c,.int .i64 i] y.w fun e w''=>e= .returned (.int .i64 D)∧Ext y.w w''):=aW0 (fun y=>QW.out y.w (f.out.trans' y.h));have I:Hid (∀ y:aS z.w,Calls prog 160 #[t.v,.slice (some ⟨b,o,none⟩) l.length c,.int .i64 i] y.w fun e w''=>e= .returned (.int .i64 E)∧Ext y.w w''):=aW0 (fun y=>J.out y.w (f.out.trans' y.h));clear rT rX QW J;have m:Hid (V=false):=aW0 (by rw [L.out];rfl);clear L;go_wp2_with fail;refine rX' ?_
   repeat (go_big_quiet_step (first|(go_at_call 159;with_reducible exact aC (H.out _))|(go_at_call 160;with_reducible exact aC (I.out _))))
   refine wpQuiet_nil ?_;rintro _ ⟨y,rfl⟩;have g:=aW0 (f.out.trans' y.h);have M:=aW0 (C.out.trans' (U.out.trans' y.h));have gX:y.w.cell? ⟨b,o+i,none⟩=some (.int .i64 8205):=aW (bC g.out) R;clear BJ;go_wp2_with fail;go_ret;exact ⟨aK m.out.symm,g.out⟩
  obtain ⟨j,hj⟩:∃ j,i=j+1:=⟨i - 1,by omega⟩;obtain ⟨W,hy,a6⟩:=F.out j (by omega);have S:decide (0<i)=true:=kU P;have aG:(i:Int) - 1=(j:Int):=by omega
  have ba:=z0' j;have aH:(j:Int)<(l.length:Int):=by omega
  obtain ⟨cy,X⟩:∃ v,bG T W=v:=⟨_,rfl⟩;obtain ⟨v9,am⟩:∃ v,(cy==9)=v:=⟨_,rfl⟩;have O4:Hid (V=if v9=true then true else ((8205:Int)==8204&&fP T l D 1&&fP T l E 2)):=aW0 (by rw [K.out,S,show i - 1=j from by omega,hy,X,am];rfl);have HC:Hid (∀ w',Ext w w'→Calls prog 85 #[t.v,.int .i64 W] w' fun e w''=>e= .returned (.int .i64 cy)∧Ext w' w''):=aW0 (fun w' hw'=>by have G:=lQ t T W w' (HT.out.aQ hw');rw [X] at G;exact G);clear K P hj hy X;cases v9
  case true=>
   have m:Hid (V=true):=aW0 (by rw [O4.out];rfl);clear O4 F;go_enter func125,ntmps125;go_wp2_with fail;refine (Q.out).mono ?_;rintro e r ⟨rfl,d⟩;have C:=aW0 d;have s:=aW0 (B.trans' d);clear d Q;have rT:∀ z:aS r,∀ p:Nat,z.w.cell? ⟨w.heap.size,p,none⟩=t.v.cells[p]? :=fun z=>aO (C.out.trans' z.h)
   have rX:∀ z:aS r,z.w.cell? ⟨b,o+i,none⟩=some (.int .i64 8205):=fun z=>aW (bC (s.out.trans' z.h)) R
   have rY:∀ z:aS r,z.w.cell? ⟨b,o+j,none⟩=some (.int .i64 W):=fun z=>aW (bC (s.out.trans' z.h)) a6
   have Y:Hid (∀ z:aS r,Calls prog 85 #[t.v,.int .i64 W] z.w fun e w''=>e= .returned (.int .i64 cy)∧Ext z.w w''):=aW0 (fun z=>HC.out z.w (s.out.trans' z.h));go_wp2_with fail;refine rX' ?_
   repeat (go_big_quiet_step (first|(go_at_call 85;with_reducible exact aC (Y.out _))))
   refine wpQuiet_nil ?_;rintro _ ⟨z,rfl⟩;clear rT rX rY;go_wp2_with fail;go_ret;exact ⟨aK m.out.symm,s.out.trans' z.h⟩
  have L:Hid (V=((8205:Int)==8204&&fP T l D 1&&fP T l E 2)):=aW0 (by rw [O4.out];rfl);clear O4;go_enter func125,ntmps125;go_wp2_with fail;refine (Q.out).mono ?_;rintro e r ⟨rfl,d⟩;have C:=aW0 d;have s:=aW0 (B.trans' d);clear d Q;have rT:∀ z:aS r,∀ p:Nat,z.w.cell? ⟨w.heap.size,p,none⟩=t.v.cells[p]? :=fun z=>aO (C.out.trans' z.h)
  have rX:∀ z:aS r,z.w.cell? ⟨b,o+i,none⟩=some (.int .i64 8205):=fun z=>aW (bC (s.out.trans' z.h)) R
  have rY:∀ z:aS r,z.w.cell? ⟨b,o+j,none⟩=some (.int .i64 W):=fun z=>aW (bC (s.out.trans' z.h)) a6
  have Y:Hid (∀ z:aS r,Calls prog 85 #[t.v,.int .i64 W] z.w fun e w''=>e= .returned (.int .i64 cy)∧Ext z.w w''):=aW0 (fun z=>HC.out z.w (s.out.trans' z.h));go_wp2_with fail;refine rX' ?_
  repeat (go_big_quiet_step (first|(go_at_call 85;with_reducible exact aC (Y.out _))))
  refine wpQuiet_nil ?_;rintro _ ⟨z,rfl⟩;clear rY;have U:=aW0 z.h;have f:=aW0 (s.out.trans' z.h);have BJ:∀ y:aS z.w,∀ p:Nat,y.w.cell? ⟨w.heap.size,p,none⟩=t.v.cells[p]? :=fun y=>aO (C.out.trans' (U.out.trans' y.h))
  have H:Hid (∀ y:aS z.w,Calls prog 159 #[t.v,.slice (some ⟨b,o,none⟩) l.length c,.int .i64 i] y.w fun e w''=>e= .returned (.int .i64 D)∧Ext y.w w''):=aW0 (fun y=>QW.out y.w (f.out.trans' y.h));have I:Hid (∀ y:aS z.w,Calls prog 160 #[t.v,.slice (some ⟨b,o,none⟩) l.length c,.int .i64 i] y.w fun e w''=>e= .returned (.int .i64 E)∧Ext y.w w''):=aW0 (fun y=>J.out y.w (f.out.trans' y.h));clear rT rX QW J;have m:Hid (V=false):=aW0 (by rw [L.out];rfl);clear L;go_wp2_with fail;refine rX' ?_
  repeat (go_big_quiet_step (first|(go_at_call 159;with_reducible exact aC (H.out _))|(go_at_call 160;with_reducible exact aC (I.out _))))
  refine wpQuiet_nil ?_;rintro _ ⟨y,rfl⟩;have g:=aW0 (f.out.trans' y.h);have M:=aW0 (C.out.trans' (U.out.trans' y.h));have gX:y.w.cell? ⟨b,o+i,none⟩=some (.int .i64 8205):=aW (bC g.out) R;clear BJ;go_wp2_with fail;go_ret;exact ⟨aK m.out.symm,g.out⟩
 have K:Hid (V=if (decide (0<i)&&bG T (l.getD (i - 1) 0)==9)=true then true else ((8204:Int)==8204&&fP T l D 1&&fP T l E 2)):=HV;clear HV;rcases Nat.eq_zero_or_pos i with hz|P
 case inl=>
  have S:decide (0<i)=false:=lU (by omega);have L:Hid (V=((8204:Int)==8204&&fP T l D 1&&fP T l E 2)):=aW0 (by rw [K.out,S];rfl);clear K hz;go_enter func125,ntmps125;go_wp2_with fail;refine (Q.out).mono ?_;rintro e r ⟨rfl,d⟩;have C:=aW0 d;have s:=aW0 (B.trans' d);clear d Q;have rT:∀ z:aS r,∀ p:Nat,z.w.cell? ⟨w.heap.size,p,none⟩=t.v.cells[p]? :=fun z=>aO (C.out.trans' z.h)
  have rX:∀ z:aS r,z.w.cell? ⟨b,o+i,none⟩=some (.int .i64 8204):=fun z=>aW (bC (s.out.trans' z.h)) R
  go_wp2_with fail;refine rX' ?_
  repeat (go_big_quiet_step (fail))
  refine wpQuiet_nil ?_;rintro _ ⟨z,rfl⟩;have U:=aW0 z.h;have f:=aW0 (s.out.trans' z.h);have BJ:∀ y:aS z.w,∀ p:Nat,y.w.cell? ⟨w.heap.size,p,none⟩=t.v.cells[p]? :=fun y=>aO (C.out.trans' (U.out.trans' y.h))
  have H:Hid (∀ y:aS z.w,Calls prog 159 #[t.v,.slice (some ⟨b,o,none⟩) l.length c,.int .i64 i] y.w fun e w''=>e= .returned (.int .i64 D)∧Ext y.w w''):=aW0 (fun y=>QW.out y.w (f.out.trans' y.h));have I:Hid (∀ y:aS z.w,Calls prog 160 #[t.v,.slice (some ⟨b,o,none⟩) l.length c,.int .i64 i] y.w fun e w''=>e= .returned (.int .i64 E)∧Ext y.w w''):=aW0 (fun y=>J.out y.w (f.out.trans' y.h));clear rT rX QW J;by_cases ca:D<0
  case pos=>
   have da:decide (D<0)=true:=kU ca;have m:Hid (V=false):=aW0 (by rw [L.out,fP,if_pos ca];rfl);clear L;go_wp2_with fail;refine rX' ?_
   repeat (go_big_quiet_step (first|(go_at_call 159;with_reducible exact aC (H.out _))|(go_at_call 160;with_reducible exact aC (I.out _))))
   refine wpQuiet_nil ?_;rintro _ ⟨y,rfl⟩;have g:=aW0 (f.out.trans' y.h);have M:=aW0 (C.out.trans' (U.out.trans' y.h));have gX:y.w.cell? ⟨b,o+i,none⟩=some (.int .i64 8204):=aW (bC g.out) R;clear BJ;go_wp2_with fail;go_ret;exact ⟨aK m.out.symm,g.out⟩
  have da:decide (D<0)=false:=lU ca;by_cases cb:E<0
  case pos=>
   have db:decide (E<0)=true:=kU cb;have m:Hid (V=false):=aW0 (by rw [L.out,a1f cb];simp);clear L;go_wp2_with fail;refine rX' ?_
   repeat (go_big_quiet_step (first|(go_at_call 159;with_reducible exact aC (H.out _))|(go_at_call 160;with_reducible exact aC (I.out _))))
   refine wpQuiet_nil ?_;rintro _ ⟨y,rfl⟩;have g:=aW0 (f.out.trans' y.h);have M:=aW0 (C.out.trans' (U.out.trans' y.h));have gX:y.w.cell? ⟨b,o+i,none⟩=some (.int .i64 8204):=aW (bC g.out) R;clear BJ;go_wp2_with fail;go_ret;exact ⟨aK m.out.symm,g.out⟩
  have db:decide (E<0)=false:=lU cb;obtain ⟨na,rfl⟩:∃ k:Nat,D=(k:Int):=⟨D.toNat,by omega⟩;obtain ⟨nb,rfl⟩:∃ k:Nat,E=(k:Int):=⟨E.toNat,by omega⟩;obtain ⟨u,hu,a9⟩:=F.out na (by omega);obtain ⟨v,hv,aa⟩:=F.out nb (by omega);obtain ⟨ju,Z⟩:∃ j,pX T u=j:=⟨_,rfl⟩;obtain ⟨jv,a0⟩:∃ j,pX T v=j:=⟨_,rfl⟩
  have m:Hid (V=((ju==1||ju==3)&&(jv==2||jv==3))):=aW0 (by
   rw [L.out,fP,if_neg ca,fP,if_neg cb,Int.toNat_natCast,Int.toNat_natCast,hu,hv,Z,a0];rfl)
  have ao:Hid (∀ w',Ext w w'→Calls prog 161 #[t.v,.int .i64 u] w' fun e w''=>e= .returned (.int .i64 ju)∧Ext w' w''):=aW0 (fun w' hw'=>by have G:=kH t T u w' (HT.out.aQ hw');rw [Z] at G;exact G);have ap:Hid (∀ w',Ext w w'→Calls prog 161 #[t.v,.int .i64 v] w' fun e w''=>e= .returned (.int .i64 jv)∧Ext w' w''):=aW0 (fun w' hw'=>by have G:=kH t T v w' (HT.out.aQ hw');rw [a0] at G;exact G);have bd:(na:Int)<(l.length:Int):=N.1;have be:(nb:Int)<(l.length:Int):=O.1;have bf:=z0' na;have bg:=z0' nb;clear L hu hv Z a0 F N O ca cb;go_wp2_with fail;refine rX' ?_
  repeat (go_big_quiet_step (first|(go_at_call 159;with_reducible exact aC (H.out _))|(go_at_call 160;with_reducible exact aC (I.out _))))
  refine wpQuiet_nil ?_;rintro _ ⟨y,rfl⟩;have g:=aW0 (f.out.trans' y.h);have M:=aW0 (C.out.trans' (U.out.trans' y.h));have gX:y.w.cell? ⟨b,o+i,none⟩=some (.int .i64 8204):=aW (bC g.out) R;clear BJ;go_wp2_with fail;have zJ:∀ q:aS y.w,∀ p:Nat,q.w.cell? ⟨w.heap.size,p,none⟩=t.v.cells[p]? :=fun q=>aO (M.out.trans' q.h)
  have aq:∀ q:aS y.w,q.w.cell? ⟨b,o+na,none⟩=some (.int .i64 u):=fun q=>aW (bC (g.out.trans' q.h)) a9
  have ar:∀ q:aS y.w,q.w.cell? ⟨b,o+nb,none⟩=some (.int .i64 v):=fun q=>aW (bC (g.out.trans' q.h)) aa
  have au:Hid (∀ q:aS y.w,Calls prog 161 #[t.v,.int .i64 u] q.w fun e w''=>e= .returned (.int .i64 ju)∧Ext q.w w''):=aW0 (fun q=>ao.out q.w (g.out.trans' q.h));have av:Hid (∀ q:aS y.w,Calls prog 161 #[t.v,.int .i64 v] q.w fun e w''=>e= .returned (.int .i64 jv)∧Ext q.w w''):=aW0 (fun q=>ap.out q.w (g.out.trans' q.h));clear gX a9 aa;refine rX' ?_
  repeat (go_big_quiet_step (first|(go_at_call 161;with_reducible exact aC (au.out _))|(go_at_call 161;with_reducible exact aC (av.out _))))
  refine wpQuiet_nil ?_;rintro _ ⟨q,rfl⟩;clear zJ aq ar;obtain ⟨b1,k1⟩:∃ v,(ju==1)=v:=⟨_,rfl⟩;obtain ⟨b2,k2⟩:∃ v,(ju==3)=v:=⟨_,rfl⟩;obtain ⟨b3,k3⟩:∃ v,(jv==2)=v:=⟨_,rfl⟩;obtain ⟨b4,k4⟩:∃ v,(jv==3)=v:=⟨_,rfl⟩;have aw:Hid (V=((b1||b2)&&(b3||b4))):=aW0 (by rw [m.out,k1,k2,k3,k4]);clear m;cases b1<;>cases b2<;>cases b3<;>cases b4
  all_goals
   go_wp2_with fail;go_ret;exact ⟨aK aw.out.symm,g.out.trans' q.h⟩
 obtain ⟨j,hj⟩:∃ j,i=j+1:=⟨i - 1,by omega⟩;obtain ⟨W,hy,a6⟩:=F.out j (by omega);have S:decide (0<i)=true:=kU P;have aG:(i:Int) - 1=(j:Int):=by omega
 have ba:=z0' j;have aH:(j:Int)<(l.length:Int):=by omega
 obtain ⟨cy,X⟩:∃ v,bG T W=v:=⟨_,rfl⟩;obtain ⟨v9,am⟩:∃ v,(cy==9)=v:=⟨_,rfl⟩;have O4:Hid (V=if v9=true then true else ((8204:Int)==8204&&fP T l D 1&&fP T l E 2)):=aW0 (by rw [K.out,S,show i - 1=j from by omega,hy,X,am];rfl);have HC:Hid (∀ w',Ext w w'→Calls prog 85 #[t.v,.int .i64 W] w' fun e w''=>e= .returned (.int .i64 cy)∧Ext w' w''):=aW0 (fun w' hw'=>by have G:=lQ t T W w' (HT.out.aQ hw');rw [X] at G;exact G);clear K P hj hy X;cases v9
 case true=>
  have m:Hid (V=true):=aW0 (by rw [O4.out];rfl);clear O4 F;go_enter func125,ntmps125;go_wp2_with fail;refine (Q.out).mono ?_;rintro e r ⟨rfl,d⟩;have C:=aW0 d;have s:=aW0 (B.trans' d);clear d Q;have rT:∀ z:aS r,∀ p:Nat,z.w.cell? ⟨w.heap.size,p,none⟩=t.v.cells[p]? :=fun z=>aO (C.out.trans' z.h)
  have rX:∀ z:aS r,z.w.cell? ⟨b,o+i,none⟩=some (.int .i64 8204):=fun z=>aW (bC (s.out.trans' z.h)) R
  have rY:∀ z:aS r,z.w.cell? ⟨b,o+j,none⟩=some (.int .i64 W):=fun z=>aW (bC (s.out.trans' z.h)) a6
  have Y:Hid (∀ z:aS r,Calls prog 85 #[t.v,.int .i64 W] z.w fun e w''=>e= .returned (.int .i64 cy)∧Ext z.w w''):=aW0 (fun z=>HC.out z.w (s.out.trans' z.h));go_wp2_with fail;refine rX' ?_
  repeat (go_big_quiet_step (first|(go_at_call 85;with_reducible exact aC (Y.out _))))
  refine wpQuiet_nil ?_;rintro _ ⟨z,rfl⟩;clear rT rX rY;go_wp2_with fail;go_ret;exact ⟨aK m.out.symm,s.out.trans' z.h⟩
 have L:Hid (V=((8204:Int)==8204&&fP T l D 1&&fP T l E 2)):=aW0 (by rw [O4.out];rfl);clear O4;go_enter func125,ntmps125;go_wp2_with fail;refine (Q.out).mono ?_;rintro e r ⟨rfl,d⟩;have C:=aW0 d;have s:=aW0 (B.trans' d);clear d Q;have rT:∀ z:aS r,∀ p:Nat,z.w.cell? ⟨w.heap.size,p,none⟩=t.v.cells[p]? :=fun z=>aO (C.out.trans' z.h)
 have rX:∀ z:aS r,z.w.cell? ⟨b,o+i,none⟩=some (.int .i64 8204):=fun z=>aW (bC (s.out.trans' z.h)) R
 have rY:∀ z:aS r,z.w.cell? ⟨b,o+j,none⟩=some (.int .i64 W):=fun z=>aW (bC (s.out.trans' z.h)) a6
 have Y:Hid (∀ z:aS r,Calls prog 85 #[t.v,.int .i64 W] z.w fun e w''=>e= .returned (.int .i64 cy)∧Ext z.w w''):=aW0 (fun z=>HC.out z.w (s.out.trans' z.h));go_wp2_with fail;refine rX' ?_
 repeat (go_big_quiet_step (first|(go_at_call 85;with_reducible exact aC (Y.out _))))
 refine wpQuiet_nil ?_;rintro _ ⟨z,rfl⟩;clear rY;have U:=aW0 z.h;have f:=aW0 (s.out.trans' z.h);have BJ:∀ y:aS z.w,∀ p:Nat,y.w.cell? ⟨w.heap.size,p,none⟩=t.v.cells[p]? :=fun y=>aO (C.out.trans' (U.out.trans' y.h))
 have H:Hid (∀ y:aS z.w,Calls prog 159 #[t.v,.slice (some ⟨b,o,none⟩) l.length c,.int .i64 i] y.w fun e w''=>e= .returned (.int .i64 D)∧Ext y.w w''):=aW0 (fun y=>QW.out y.w (f.out.trans' y.h));have I:Hid (∀ y:aS z.w,Calls prog 160 #[t.v,.slice (some ⟨b,o,none⟩) l.length c,.int .i64 i] y.w fun e w''=>e= .returned (.int .i64 E)∧Ext y.w w''):=aW0 (fun y=>J.out y.w (f.out.trans' y.h));clear rT rX QW J;by_cases ca:D<0
 case pos=>
  have da:decide (D<0)=true:=kU ca;have m:Hid (V=false):=aW0 (by rw [L.out,fP,if_pos ca];rfl);clear L;go_wp2_with fail;refine rX' ?_
  repeat (go_big_quiet_step (first|(go_at_call 159;with_reducible exact aC (H.out _))|(go_at_call 160;with_reducible exact aC (I.out _))))
  refine wpQuiet_nil ?_;rintro _ ⟨y,rfl⟩;have g:=aW0 (f.out.trans' y.h);have M:=aW0 (C.out.trans' (U.out.trans' y.h));have gX:y.w.cell? ⟨b,o+i,none⟩=some (.int .i64 8204):=aW (bC g.out) R;clear BJ;go_wp2_with fail;go_ret;exact ⟨aK m.out.symm,g.out⟩
 have da:decide (D<0)=false:=lU ca;by_cases cb:E<0
 case pos=>
  have db:decide (E<0)=true:=kU cb;have m:Hid (V=false):=aW0 (by rw [L.out,a1f cb];simp);clear L;go_wp2_with fail;refine rX' ?_
  repeat (go_big_quiet_step (first|(go_at_call 159;with_reducible exact aC (H.out _))|(go_at_call 160;with_reducible exact aC (I.out _))))
  refine wpQuiet_nil ?_;rintro _ ⟨y,rfl⟩;have g:=aW0 (f.out.trans' y.h);have M:=aW0 (C.out.trans' (U.out.trans' y.h));have gX:y.w.cell? ⟨b,o+i,none⟩=some (.int .i64 8204):=aW (bC g.out) R;clear BJ;go_wp2_with fail;go_ret;exact ⟨aK m.out.symm,g.out⟩
 have db:decide (E<0)=false:=lU cb;obtain ⟨na,rfl⟩:∃ k:Nat,D=(k:Int):=⟨D.toNat,by omega⟩;obtain ⟨nb,rfl⟩:∃ k:Nat,E=(k:Int):=⟨E.toNat,by omega⟩;obtain ⟨u,hu,a9⟩:=F.out na (by omega);obtain ⟨v,hv,aa⟩:=F.out nb (by omega);obtain ⟨ju,Z⟩:∃ j,pX T u=j:=⟨_,rfl⟩;obtain ⟨jv,a0⟩:∃ j,pX T v=j:=⟨_,rfl⟩
 have m:Hid (V=((ju==1||ju==3)&&(jv==2||jv==3))):=aW0 (by
  rw [L.out,fP,if_neg ca,fP,if_neg cb,Int.toNat_natCast,Int.toNat_natCast,hu,hv,Z,a0];rfl)
 have ao:Hid (∀ w',Ext w w'→Calls prog 161 #[t.v,.int .i64 u] w' fun e w''=>e= .returned (.int .i64 ju)∧Ext w' w''):=aW0 (fun w' hw'=>by have G:=kH t T u w' (HT.out.aQ hw');rw [Z] at G;exact G);have ap:Hid (∀ w',Ext w w'→Calls prog 161 #[t.v,.int .i64 v] w' fun e w''=>e= .returned (.int .i64 jv)∧Ext w' w''):=aW0 (fun w' hw'=>by have G:=kH t T v w' (HT.out.aQ hw');rw [a0] at G;exact G);have bd:(na:Int)<(l.length:Int):=N.1;have be:(nb:Int)<(l.length:Int):=O.1;have bf:=z0' na;have bg:=z0' nb;clear L hu hv Z a0 F N O ca cb;go_wp2_with fail;refine rX' ?_
 repeat (go_big_quiet_step (first|(go_at_call 159;with_reducible exact aC (H.out _))|(go_at_call 160;with_reducible exact aC (I.out _))))
 refine wpQuiet_nil ?_;rintro _ ⟨y,rfl⟩;have g:=aW0 (f.out.trans' y.h);have M:=aW0 (C.out.trans' (U.out.trans' y.h));have gX:y.w.cell? ⟨b,o+i,none⟩=some (.int .i64 8204):=aW (bC g.out) R;clear BJ;go_wp2_with fail;have zJ:∀ q:aS y.w,∀ p:Nat,q.w.cell? ⟨w.heap.size,p,none⟩=t.v.cells[p]? :=fun q=>aO (M.out.trans' q.h)
 have aq:∀ q:aS y.w,q.w.cell? ⟨b,o+na,none⟩=some (.int .i64 u):=fun q=>aW (bC (g.out.trans' q.h)) a9
 have ar:∀ q:aS y.w,q.w.cell? ⟨b,o+nb,none⟩=some (.int .i64 v):=fun q=>aW (bC (g.out.trans' q.h)) aa
 have au:Hid (∀ q:aS y.w,Calls prog 161 #[t.v,.int .i64 u] q.w fun e w''=>e= .returned (.int .i64 ju)∧Ext q.w w''):=aW0 (fun q=>ao.out q.w (g.out.trans' q.h));have av:Hid (∀ q:aS y.w,Calls prog 161 #[t.v,.int .i64 v] q.w fun e w''=>e= .returned (.int .i64 jv)∧Ext q.w w''):=aW0 (fun q=>ap.out q.w (g.out.trans' q.h));clear gX a9 aa;refine rX' ?_
 repeat (go_big_quiet_step (first|(go_at_call 161;with_reducible exact aC (au.out _))|(go_at_call 161;with_reducible exact aC (av.out _))))
 refine wpQuiet_nil ?_;rintro _ ⟨q,rfl⟩;clear zJ aq ar;obtain ⟨b1,k1⟩:∃ v,(ju==1)=v:=⟨_,rfl⟩;obtain ⟨b2,k2⟩:∃ v,(ju==3)=v:=⟨_,rfl⟩;obtain ⟨b3,k3⟩:∃ v,(jv==2)=v:=⟨_,rfl⟩;obtain ⟨b4,k4⟩:∃ v,(jv==3)=v:=⟨_,rfl⟩;have aw:Hid (V=((b1||b2)&&(b3||b4))):=aW0 (by rw [m.out,k1,k2,k3,k4]);clear m;cases b1<;>cases b2<;>cases b3<;>cases b4
 all_goals
  go_wp2_with fail;go_ret;exact ⟨aK aw.out.symm,g.out.trans' q.h⟩
theorem XB (t:TV) (T:bK) (l:List Int) (A:Option Addr) (n c:Nat) (w:World) (ht:bT w t T) (h:aX w ⟨A,n,c⟩ l):
 Calls prog 91 #[t.v,.slice A n c] w fun e w'=>e= .returned (.tuple #[.int .i64 (fO T l).1,.int .i64 (fO T l).2])∧Ext w w':=by
 obtain ⟨E,_,_⟩:=h.len;subst E;have s:=aW0 ht;have x:=aW0 h;have b:=aUt w t;go_enter func91,ntmps91;go_wp2_with fail;refine (rJ t T l A _ c _ (s.out.aQ b) (x.out.ext b)).mono ?_;rintro e J ⟨rfl,p⟩;have F:=b.trans' p;by_cases f:bF T l=0
 ·have y:Hid (∀ k,k<l.length→nK T l (k:Int)=pO T l k):=aW0 (fun k D=>by rw [nK,zO f D];rfl);have z:Hid (fO T l=PV T l (l.length - 0) 0):=aW0 (by simp [fO,f]);rw [f];clear f;go_wp2_with fail;go_loopw [16] (fun j wr=>∃ (k:Nat),k≤l.length∧j= .int .i64 k∧Hid (fO T l=PV T l (l.length - k) k)∧Ext (tW' w t) wr) (fun j _=>l.length - (intOf j).toNat)
  case atStart=>exact ⟨0,Nat.zero_le _,rfl,z,p⟩
  case round=>
   obtain ⟨k,D,rfl,q,g⟩:=hrel;have a:=b.trans' g;have K:∀ k:Nat,wr.cell? ⟨w.heap.size,k,none⟩=t.v.cells[k]? :=aO g;by_cases B:k<l.length
   ·have r:=aJ q (show _=if pO T l k=true then PV T l (l.length - (k+1)) (k+1) else ((k:Int),(17:Int)) from by
     rw [show l.length - k=(l.length - (k+1))+1 from by omega];rfl)
    have d:=y.out k B;clear q z;cases o:pO T l k
    ·have i:=aJ r (show _=((k:Int),(17:Int)) from by rw [o];simp);have C:=aW0 (d.trans o);clear r o d;go_wp2_with (go_at_call 125;refine (D8 t T l A _ c k _ (s.out.aQ a) (x.out.ext a)).mono ?_;rintro e G ⟨rfl,m⟩;rw [C.out]);go_ret2;exact ⟨by rw [i.out];rfl,a.trans' m⟩
    ·have i:=aJ r (show _=PV T l (l.length - (k+1)) (k+1) from by rw [o];simp);have C:=aW0 (d.trans o);clear r o d;go_wp2_with (go_at_call 125;refine (D8 t T l A _ c k _ (s.out.aQ a) (x.out.ext a)).mono ?_;rintro e G ⟨rfl,m⟩;rw [C.out]);go_roundw
     case rel=>exact ⟨k+1,by omega,by go_num,i,g.trans' m⟩
     case measure=>simp [intOf];omega
   ·have i:=aJ q (show _=((0:Int),(0:Int)) from by rw [show l.length - k=0 from by omega];rfl);clear q z;go_wp2_with fail;go_ret2;exact ⟨by rw [i.out];rfl,a⟩
 ·have H:(bF T l==0)=false:=by rw [aYs];exact f
  have I:(bF T l != 0)=true:=bN' f;have i:Hid (fO T l=(0,bF T l)):=aW0 (by simp [fO,f]);generalize bF T l=oe at*;clear f;go_wp2_with fail;go_ret2;exact ⟨by rw [i.out];rfl,F⟩
end Go.Proofs.YtjccgagakfndpaaGreatDoor
