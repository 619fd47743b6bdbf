/- Part Yb34. -/
import Derived.Test.YtjccgagakfndpaaGreatDoorYb33
open Go.Proofs.Tryz
namespace Go.Proofs.YtjccgagakfndpaaGreatDoor
set_option maxHeartbeats 25600000
set_option maxRecDepth 100000
open Go.RowKit
def J6 (l:List Int) (i:Int):Int:=if i<0 then -1 else if (l.length:Int)≤i then -1 else l.getD i.toNat 0
theorem a1w (l:List Int) (A:Option Addr) (n c:Nat) (i:Int) (w:World) (h:aX w ⟨A,n,c⟩ l):
 Calls prog 124 #[.slice A n c,.int .i64 i] w fun e w'=>e= .returned (.int .i64 (J6 l i))∧w=w':=by
 obtain ⟨f,d,g⟩:=h.len;subst f;by_cases c1:i<0
 ·have a:Hid (J6 l i= -1):=aW0 (by rw [J6,if_pos c1]);have d1:decide (i<0)=true:=kU c1;go_enter func124,ntmps124;go_wp2_with fail;go_ret;exact ⟨aY a.out.symm,rfl⟩
 have d1:decide (i<0)=false:=lU c1;obtain ⟨i,rfl⟩:∃ k:Nat,i=(k:Int):=⟨i.toNat,by omega⟩;by_cases c2:l.length≤i
 ·have a:Hid (J6 l i= -1):=aW0 (by rw [J6,if_neg c1,if_pos (by omega)]);have d2:decide (l.length≤i)=true:=kU c2;have d3:decide ((l.length:Int)≤(i:Int))=true:=kU (by omega);go_enter func124,ntmps124;go_wp2_with fail;go_ret;exact ⟨aY a.out.symm,rfl⟩
 have d2:decide (l.length≤i)=false:=lU c2;have d3:decide ((l.length:Int)≤(i:Int))=false:=lU (by omega);have hi:i<l.length:=by omega
 have j:=z0' i;have m:(i:Int)<(l.length:Int):=by omega
 obtain ⟨b,o,p,q⟩:=h.at_ hi;subst p;have a:Hid (J6 l i=l[i]):=aW0 (by rw [J6,if_neg c1,if_neg (by omega),Int.toNat_natCast,getD_lt l i 0 hi]);generalize l[i]=x at*;go_enter func124,ntmps124;go_wp2_with fail;go_ret;exact ⟨aY a.out.symm,rfl⟩
theorem LH (c lo hi:Int) (w:World):Calls prog 164 #[.int .i64 c,.int .i64 lo,.int .i64 hi] w fun e w'=>e= .returned (.bool (decide (lo≤c)&&decide (c≤hi)))∧w=w':=by
 obtain ⟨b1,d⟩:∃ b,decide (lo≤c)=b:=⟨_,rfl⟩;obtain ⟨a,f⟩:∃ b,decide (c≤hi)=b:=⟨_,rfl⟩;have g:Hid ((decide (lo≤c)&&decide (c≤hi))=(b1&&a)):=aW0 (by rw [d,f]);cases b1<;>cases a
 all_goals
  go_enter func164,ntmps164;go_wp2_with fail;go_ret;exact ⟨aK g.out.symm,rfl⟩
def inB (lo hi c:Int):Bool:=decide (lo≤c)&&decide (c≤hi)
theorem aAt (l:List Int) (A:Option Addr) (n c:Nat) (lo hi:Int) (w:World) (h:aX w ⟨A,n,c⟩ l):
 Calls prog 165 #[.slice A n c,.int .i64 lo,.int .i64 hi] w fun e w'=>e= .returned (.bool (l.any (inB lo hi)))∧Ext w w':=by
 obtain ⟨y,r,z⟩:=h.len;subst y;have B:=aW0 h;obtain ⟨V,q⟩:∃ V,V=l.any (inB lo hi):=⟨_,rfl⟩;have s:Hid (V=(l.drop 0).any (inB lo hi)):=q;rw [← q];clear q h;go_enter func165,ntmps165;go_wp2_with fail;go_loopw [11] (fun i wr=>∃ (k:Nat),k≤l.length∧i= .int .i64 k∧Hid (V=(l.drop k).any (inB lo hi))∧Ext w wr) (fun i _=>l.length - (intOf i).toNat)
 case atStart=>exact ⟨0,Nat.zero_le _,rfl,s,Ext.refl _⟩
 case round=>
  obtain ⟨k,D,rfl,j,a⟩:=hrel;clear s;by_cases f:k<l.length
  ·obtain ⟨b,o,C,E⟩:=(B.out.ext a).at_ f;subst C;have t:=aW0 (drop_at l k f);generalize l[k]=x at*;have m:=aJ j (show _=(inB lo hi x||(l.drop (k+1)).any (inB lo hi)) from by rw [t.out];rfl);clear j t;cases p:inB lo hi x
   ·have g:Hid (V=(l.drop (k+1)).any (inB lo hi)):=aW0 (by rw [m.out,p];rfl);have d:(decide (lo≤x)&&decide (x≤hi))=false:=p;clear m;go_wp2_with (go_at_call 164;refine (LH _ _ _ _).mono ?_;rintro e w' ⟨rfl,rfl⟩;rw [d]);go_roundw
    case rel=>exact ⟨k+1,by omega,by go_num,g,a⟩
    case measure=>simp [intOf];omega
   ·have g:Hid (V=true):=aW0 (by rw [m.out,p];rfl);have d:(decide (lo≤x)&&decide (x≤hi))=true:=p;clear m;go_wp2_with (go_at_call 164;refine (LH _ _ _ _).mono ?_;rintro e w' ⟨rfl,rfl⟩;rw [d]);go_ret;exact ⟨aK g.out.symm,a⟩
  ·have g:Hid (V=false):=aW0 (by rw [j.out,bH l k (by omega)];rfl);clear j;go_wp2_with fail;go_ret;exact ⟨aK g.out.symm,a⟩
theorem aAq (t:TV) (T:bK) (l:List Int) (A:Option Addr) (n c:Nat) (w:World) (ht:bT w t T) (z:P8 T.scr) (h:aX w ⟨A,n,c⟩ l):
 Calls prog 163 #[t.v,.slice A n c] w fun e w'=>e= .returned (.bool (l.any (JX T)))∧Ext w w':=by
 obtain ⟨J,B,K⟩:=h.len;subst J;have r:=aUt w t;have L:=aW0 h;have M:=aW0 ht;obtain ⟨V,y⟩:∃ V,V=l.any (JX T):=⟨_,rfl⟩;have C:Hid (V=(l.drop 0).any (JX T)):=y;rw [← y];clear y h ht;go_enter func163,ntmps163;go_wp2_with fail;go_loopw [10] (fun i wr=>∃ (k:Nat),k≤l.length∧i= .int .i64 k∧Hid (V=(l.drop k).any (JX T))∧Ext (tW' w t) wr) (fun i _=>l.length - (intOf i).toNat)
 case atStart=>exact ⟨0,Nat.zero_le _,rfl,C,Ext.refl _⟩
 case round=>
  obtain ⟨k,S,rfl,m,d⟩:=hrel;have q:=aW0 (r.trans' d);have U:∀ p:Nat,wr.cell? ⟨w.heap.size,p,none⟩=t.v.cells[p]? :=aO d;clear C;by_cases g:k<l.length
  ·obtain ⟨b,o,N,W⟩:=(L.out.ext q.out).at_ g;subst N;have D:=aW0 (drop_at l k g);generalize l[k]=x at*;have E:=aJ m (show _=(JX T x||(l.drop (k+1)).any (JX T)) from by rw [D.out];rfl);have F:Hid (Calls prog 162 #[t.v,.int .i64 x] wr fun e w''=>e= .returned (.int .i64 (vF T x))∧Ext wr w''):=aW0 (NS t T x wr (M.out.aQ q.out) z);obtain ⟨b1,O⟩:∃ v,(vF T x==7)=v:=⟨_,rfl⟩;obtain ⟨G,P⟩:∃ v,(vF T x==8)=v:=⟨_,rfl⟩;obtain ⟨H,Q⟩:∃ v,(vF T x==6)=v:=⟨_,rfl⟩;have a:Hid (V=(b1||G||H||(l.drop (k+1)).any (JX T))):=aW0 (by rw [E.out,JX,O,P,Q]);generalize vF T x=s at*;clear m D E;obtain ⟨I,rfl⟩:∃ I:World,I=wr:=⟨_,rfl⟩;cases b1<;>cases G<;>cases H
   case false.false.false=>
    have j:Hid (V=(l.drop (k+1)).any (JX T)):=aW0 (by rw [a.out];rfl);clear a;go_wp2_with fail;refine (F.out).mono ?_;rintro e R ⟨rfl,f⟩;go_wp2_with fail;go_roundw
    case rel=>exact ⟨k+1,by omega,by go_num,j,d.trans' f⟩
    case measure=>simp [intOf];omega
   all_goals
    have j:Hid (V=true):=aW0 (by rw [a.out];rfl);clear a;go_wp2_with fail;refine (F.out).mono ?_;rintro e R ⟨rfl,f⟩;go_wp2_with fail;go_ret;exact ⟨aK j.out.symm,q.out.trans' f⟩
  ·have j:Hid (V=false):=aW0 (by rw [m.out,bH l k (by omega)];rfl);clear m;go_wp2_with fail;go_ret;exact ⟨aK j.out.symm,q.out⟩
theorem LP {T:bK} (h:lV T=true):dS T=true:=by
 simp only [lV,aYr] at h;exact h.1.1.1.1.1.1.1.2
theorem D7 (t:TV) (T:bK) (l:List Int) (A:Option Addr) (n c:Nat) (i:Int) (w:World) (ht:bT w t T) (h:aX w ⟨A,n,c⟩ l):
 Calls prog 126 #[t.v,.slice A n c,.int .i64 i] w fun e w'=>e= .returned (.bool (qM T l i))∧Ext w w':=by
 obtain ⟨hn,al,az⟩:=h.len;subst hn;have g:=aUt w t;have HI:=aW0 h;have HT:=aW0 ht;by_cases c1:i<0
 ·have D:Hid (qM T l i=false):=aW0 (by rw [qM,MX c1];rfl);have d1:decide (i<0)=true:=kU c1;clear ht h;go_enter func126,ntmps126;go_wp2_with fail;go_ret;exact ⟨aK D.out.symm,g⟩
 have d1:decide (i<0)=false:=lU c1;obtain ⟨i,rfl⟩:∃ k:Nat,i=(k:Int):=⟨i.toNat,by omega⟩;by_cases c2:l.length≤i
 ·have D:Hid (qM T l i=false):=aW0 (by rw [qM,MW (by omega)];rfl);have d2:decide (l.length≤i)=true:=kU c2;have d3:decide ((l.length:Int)≤(i:Int))=true:=kU (by omega);clear ht h;go_enter func126,ntmps126;go_wp2_with fail;go_ret;exact ⟨aK D.out.symm,g⟩
 have d2:decide (l.length≤i)=false:=lU c2;have d3:decide ((l.length:Int)≤(i:Int))=false:=lU (by omega);have E:=aW0 (rJ t T l A l.length c _ (ht.aQ g) (h.ext g));by_cases c3:bF T l=0
 case neg=>
  have D:Hid (qM T l i=false):=aW0 (by rw [qM,J9 c3];rfl);have e1:(bF T l != 0)=true:=bN' c3;generalize bF T l=oe at*;clear c3 ht h;go_enter func126,ntmps126;go_wp2_with fail;refine (E.out).mono ?_;rintro e f ⟨rfl,a⟩;go_wp2_with fail;go_ret;exact ⟨aK D.out.symm,g.trans' a⟩
 have hi:i<l.length:=by omega
 have aA:=z0' i;have aD:(i:Int)<(l.length:Int):=by omega
 have a4:P8 T.scr:=a8z (LP (a5W c3).1);have HB:Hid (qM T l i=pV T l i):=aW0 (by rw [qM,zO c3 hi];rfl);rw [c3] at E;obtain ⟨b,o,ha,M⟩:=h.at_ hi;subst ha;have HD:Hid (l.getD i 0=l[i]):=aW0 (getD_lt l i 0 hi)
 have m:Hid (∀ j,j<l.length→∃ y,l.getD j 0=y∧w.cell? ⟨b,o+j,none⟩=some (.int .i64 y)):=aW0 (fun j hj=>by
  obtain ⟨b',o',yG,h2⟩:=HI.out.at_ hj;injection yG with yG;injection yG with e1 e2;subst e1 e2
  exact ⟨_,getD_lt l j 0 hj,h2⟩)
 have r:Hid (∀ y v,vF T y=v→∀ w',Ext w w'→Calls prog 162 #[t.v,.int .i64 y] w' fun e w''=>e= .returned (.int .i64 v)∧Ext w' w''):=aW0 (fun y v hv w' hw'=>by
  have H:=NS t T y w' (HT.out.aQ hw') a4;rw [hv] at H
  exact H)
 generalize l[i]=x at*;obtain ⟨V,hV⟩:∃ V,V=qM T l i:=⟨_,rfl⟩
 have D:Hid (V=if (x==183)=true then a2y l i else if (x==885)=true then hasB T l ((i:Int)+1) 4 else if (x==1523||x==1524)=true then hasB T l ((i:Int) - 1) 11
  else if (x==12539)=true then l.any (JX T) else if kR x=true then !l.any lC else if lC x=true then !l.any kR else true):=aW0 (by rw [hV,HB.out];unfold pV;rw [HD.out])
 rw [← hV];have a5:∀ (q:Int),J6 l q=if (decide (0≤q)&&decide (q<(l.length:Int)))=true then l.getD q.toNat 0 else -1:=fun q=>by
  unfold J6;by_cases h1:q<0
  ·rw [if_pos h1,lU (p:=0≤q) (by omega)];rfl
  ·rw [if_neg h1,kU (p:=0≤q) (by omega)];by_cases h2:(l.length:Int)≤q
   ·rw [if_pos h2,lU (p:=q<(l.length:Int)) (by omega)];rfl
   ·rw [if_neg h2,kU (p:=q<(l.length:Int)) (by omega)];rfl
 have F:=aW0 a5;clear hV HB HD ht h c1 c2 c3 a5;by_cases x1:x=183
 ·subst x1;have C:Hid (V=a2y l i):=D
  have I:Hid (V=(J6 l ((i:Int) - 1)==108&&J6 l ((i:Int)+1)==108)):=aW0 (by
   rw [C.out,a2y,F.out,F.out];by_cases p1:0<i
   ·rw [kU p1,kU (p:=(0:Int)≤(i:Int) - 1) (by omega),kU (p:=(i:Int) - 1<(l.length:Int)) (by omega),show ((i:Int) - 1).toNat=i - 1 from by omega];by_cases Z:i+1<l.length
    ·rw [kU Z,kU (p:=(0:Int)≤(i:Int)+1) (by omega),kU (p:=(i:Int)+1<(l.length:Int)) (by omega),show ((i:Int)+1).toNat=i+1 from by omega];simp
    ·rw [lU Z,lU (p:=(i:Int)+1<(l.length:Int)) (by omega)];simp
   ·rw [lU p1,lU (p:=(0:Int)≤(i:Int) - 1) (by omega)];simp)
  obtain ⟨y1,N⟩:∃ y,J6 l ((i:Int) - 1)=y:=⟨_,rfl⟩;obtain ⟨y2,O⟩:∃ y,J6 l ((i:Int)+1)=y:=⟨_,rfl⟩;have ae:Hid (∀ w',Ext w w'→Calls prog 124 #[.slice (some ⟨b,o,none⟩) l.length c,.int .i64 ((i:Int) - 1)] w' fun e w''=>e= .returned (.int .i64 y1)∧w'=w''):=aW0 (fun w' hw'=>by have H:=a1w l (some ⟨b,o,none⟩) l.length c ((i:Int) - 1) w' (HI.out.ext hw');rw [N] at H;exact H);have af:Hid (∀ w',Ext w w'→Calls prog 124 #[.slice (some ⟨b,o,none⟩) l.length c,.int .i64 ((i:Int)+1)] w' fun e w''=>e= .returned (.int .i64 y2)∧w'=w''):=aW0 (fun w' hw'=>by have H:=a1w l (some ⟨b,o,none⟩) l.length c ((i:Int)+1) w' (HI.out.ext hw');rw [O] at H;exact H);obtain ⟨b1,J⟩:∃ v,(y1==108)=v:=⟨_,rfl⟩;obtain ⟨b2,k2⟩:∃ v,(y2==108)=v:=⟨_,rfl⟩;have B:Hid (V=(b1&&b2)):=aW0 (by rw [I.out,N,O,J,k2]);clear D C I N O F m r;cases b1<;>cases b2
  all_goals
   go_enter func126,ntmps126;go_wp2_with fail;refine (E.out).mono ?_;rintro e f ⟨rfl,a⟩;have G:=aW0 a;have d:=aW0 (g.trans' a);clear a E;have gX:f.cell? ⟨b,o+i,none⟩=some (.int .i64 183):=aW (bC d.out) M;have X9:∀ p:Nat,f.cell? ⟨w.heap.size,p,none⟩=t.v.cells[p]? :=aO G.out
   go_wp2_with (first
    |(go_at_call 124;with_reducible refine (ae.out _ d.out).mono ?_;rintro e w' ⟨rfl,rfl⟩)
    |(go_at_call 124;with_reducible refine (af.out _ d.out).mono ?_;rintro e w' ⟨rfl,rfl⟩))
   go_ret;exact ⟨aK B.out.symm,d.out⟩
 by_cases x2:x=885
 ·subst x2;have C:Hid (V=hasB T l ((i:Int)+1) 4):=D;clear D x1 F;by_cases Z:i+1<l.length
  ·obtain ⟨y,hy,P⟩:=m.out (i+1) Z;obtain ⟨s,Q⟩:∃ s,vF T y=s:=⟨_,rfl⟩;obtain ⟨b1,J⟩:∃ v,(s==4)=v:=⟨_,rfl⟩
   have B:Hid (V=b1):=aW0 (by
    rw [C.out,hasB,kU (p:=(0:Int)≤(i:Int)+1) (by omega),kU (p:=(i:Int)+1<(l.length:Int)) (by omega),show ((i:Int)+1).toNat=i+1 from by omega,hy,Q,J];rfl)
   have d5:decide ((i:Int)+1<(l.length:Int))=true:=kU (by omega);have aG:(0:Int)≤(i:Int)+1:=by omega
   have aH:(i:Int)+1<(l.length:Int):=by omega
   have R:=aW0 (r.out y s Q);clear C hy Q Z m r;go_enter func126,ntmps126;go_wp2_with fail;refine (E.out).mono ?_;rintro e f ⟨rfl,a⟩;have G:=aW0 a;have d:=aW0 (g.trans' a);clear a E;have gX:f.cell? ⟨b,o+i,none⟩=some (.int .i64 885):=aW (bC d.out) M;have X9:∀ p:Nat,f.cell? ⟨w.heap.size,p,none⟩=t.v.cells[p]? :=aO G.out;have rT:∀ z:aS f,∀ p:Nat,z.w.cell? ⟨w.heap.size,p,none⟩=t.v.cells[p]? :=fun z=>aO (G.out.trans' z.h)
   have rY:∀ z:aS f,z.w.cell? ⟨b,o+(i+1),none⟩=some (.int .i64 y):=fun z=>aW (bC (d.out.trans' z.h)) P
   have S:Hid (∀ z:aS f,Calls prog 162 #[t.v,.int .i64 y] z.w fun e w''=>e= .returned (.int .i64 s)∧Ext z.w w''):=aW0 (fun z=>R.out z.w (d.out.trans' z.h));cases b1
   all_goals
    go_wp2_with fail;refine rX' ?_
    repeat (go_big_quiet_step (first|(go_at_call 162;with_reducible exact aC (S.out _))))
    refine wpQuiet_nil ?_;rintro _ ⟨z,rfl⟩;clear rT rY;go_wp2_with fail;go_ret;exact ⟨aK B.out.symm,d.out.trans' z.h⟩
  ·have B:Hid (V=false):=aW0 (by rw [C.out,hasB,lU (p:=(i:Int)+1<(l.length:Int)) (by omega)];simp);have d5:decide ((i:Int)+1<(l.length:Int))=false:=lU (by omega);clear C Z m r;go_enter func126,ntmps126;go_wp2_with fail;refine (E.out).mono ?_;rintro e f ⟨rfl,a⟩;have G:=aW0 a;have d:=aW0 (g.trans' a);clear a E;have gX:f.cell? ⟨b,o+i,none⟩=some (.int .i64 885):=aW (bC d.out) M;have X9:∀ p:Nat,f.cell? ⟨w.heap.size,p,none⟩=t.v.cells[p]? :=aO G.out;go_wp2_with fail;refine rX' ?_
   repeat (go_big_quiet_step (fail))
   refine wpQuiet_nil ?_;rintro _ ⟨z,rfl⟩;go_wp2_with fail;go_ret;exact ⟨aK B.out.symm,d.out.trans' z.h⟩
 by_cases U:x=1523∨x=1524
 ·have C:Hid (V=hasB T l ((i:Int) - 1) 11):=aW0 (by rw [D.out];rcases U with rfl|rfl<;>rfl);clear D x1 x2 F;rcases Nat.eq_zero_or_pos i with hz|L
  ·have B:Hid (V=false):=aW0 (by rw [C.out,hasB,lU (p:=(0:Int)≤(i:Int) - 1) (by omega)];rfl);have d5:decide (0<i)=false:=lU (by omega);clear C hz m r;rcases U with rfl|rfl
   all_goals
    go_enter func126,ntmps126;go_wp2_with fail;refine (E.out).mono ?_;rintro e f ⟨rfl,a⟩;have G:=aW0 a;have d:=aW0 (g.trans' a);clear a E;have gX:f.cell? ⟨b,o+i,none⟩=some (.int .i64 _):=aW (bC d.out) M;have X9:∀ p:Nat,f.cell? ⟨w.heap.size,p,none⟩=t.v.cells[p]? :=aO G.out;go_wp2_with fail;refine rX' ?_
    repeat (go_big_quiet_step (fail))
    refine wpQuiet_nil ?_;rintro _ ⟨z,rfl⟩;go_wp2_with fail;go_ret;exact ⟨aK B.out.symm,d.out.trans' z.h⟩
  ·obtain ⟨j,hj⟩:∃ j,i=j+1:=⟨i - 1,by omega⟩;obtain ⟨y,hy,P⟩:=m.out j (by omega);obtain ⟨s,Q⟩:∃ s,vF T y=s:=⟨_,rfl⟩;obtain ⟨b1,J⟩:∃ v,(s==11)=v:=⟨_,rfl⟩
   have B:Hid (V=b1):=aW0 (by
    rw [C.out,hasB,kU (p:=(0:Int)≤(i:Int) - 1) (by omega),kU (p:=(i:Int) - 1<(l.length:Int)) (by omega),show ((i:Int) - 1).toNat=j from by omega,hy,Q,J];rfl)
   have d5:decide (0<i)=true:=kU L;have av:(i:Int) - 1=(j:Int):=by omega
   have aL:=z0' j;have aw:(j:Int)<(l.length:Int):=by omega
   have R:=aW0 (r.out y s Q);clear C hy Q L hj m r;rcases U with rfl|rfl
   all_goals
    go_enter func126,ntmps126;go_wp2_with fail;refine (E.out).mono ?_;rintro e f ⟨rfl,a⟩;have G:=aW0 a;have d:=aW0 (g.trans' a);clear a E;have gX:f.cell? ⟨b,o+i,none⟩=some (.int .i64 _):=aW (bC d.out) M;have X9:∀ p:Nat,f.cell? ⟨w.heap.size,p,none⟩=t.v.cells[p]? :=aO G.out;have rT:∀ z:aS f,∀ p:Nat,z.w.cell? ⟨w.heap.size,p,none⟩=t.v.cells[p]? :=fun z=>aO (G.out.trans' z.h)
    have rY:∀ z:aS f,z.w.cell? ⟨b,o+j,none⟩=some (.int .i64 y):=fun z=>aW (bC (d.out.trans' z.h)) P
    have S:Hid (∀ z:aS f,Calls prog 162 #[t.v,.int .i64 y] z.w fun e w''=>e= .returned (.int .i64 s)∧Ext z.w w''):=aW0 (fun z=>R.out z.w (d.out.trans' z.h));cases b1
    all_goals
     go_wp2_with fail;refine rX' ?_
     repeat (go_big_quiet_step (first|(go_at_call 162;with_reducible exact aC (S.out _))))
     refine wpQuiet_nil ?_;rintro _ ⟨z,rfl⟩;clear rT rY;go_wp2_with fail;go_ret;exact ⟨aK B.out.symm,d.out.trans' z.h⟩
 by_cases x4:x=12539
 ·subst x4;have C:Hid (V=l.any (JX T)):=D;have HK:Hid (∀ w',Ext w w'→Calls prog 163 #[t.v,.slice (some ⟨b,o,none⟩) l.length c] w' fun e w''=>e= .returned (.bool (l.any (JX T)))∧Ext w' w''):=aW0 (fun w' hw'=>aAq t T l (some ⟨b,o,none⟩) l.length c w' (HT.out.aQ hw') a4 (HI.out.ext hw'));clear D x1 x2 U F m r;go_enter func126,ntmps126;go_wp2_with fail;refine (E.out).mono ?_;rintro e f ⟨rfl,a⟩;have G:=aW0 a;have d:=aW0 (g.trans' a);clear a E;have gX:f.cell? ⟨b,o+i,none⟩=some (.int .i64 12539):=aW (bC d.out) M;have X9:∀ p:Nat,f.cell? ⟨w.heap.size,p,none⟩=t.v.cells[p]? :=aO G.out;go_wp2_with (go_at_call 163;refine (HK.out _ d.out).mono ?_;rintro e w2 ⟨rfl,K⟩);go_ret;exact ⟨aK C.out.symm,d.out.trans' K⟩
 have e1:(x==183)=false:=by rw [aYs];exact x1
 have e2:(x==885)=false:=by rw [aYs];exact x2
 have e3:(x==1523)=false:=by rw [aYs];exact fun h=>U (.inl h)
 have e4:(x==1524)=false:=by rw [aYs];exact fun h=>U (.inr h)
 have e5:(x==12539)=false:=by rw [aYs];exact x4
 have C:Hid (V=if inB 1632 1641 x=true then !l.any (inB 1776 1785) else if inB 1776 1785 x=true then !l.any (inB 1632 1641) else true):=aW0 (by rw [D.out,e1,e2,e3,e4,e5];rfl);have W:Hid (∀ lo hi v,l.any (inB lo hi)=v→∀ w',Ext w w'→Calls prog 165 #[.slice (some ⟨b,o,none⟩) l.length c,.int .i64 lo,.int .i64 hi] w' fun e w''=>e= .returned (.bool v)∧Ext w' w''):=aW0 (fun lo hi v hv w' hw'=>by have H:=aAt l (some ⟨b,o,none⟩) l.length c lo hi w' (HI.out.ext hw');rw [hv] at H;exact H);obtain ⟨v1,X⟩:∃ v,l.any (inB 1632 1641)=v:=⟨_,rfl⟩;obtain ⟨v2,Y⟩:∃ v,l.any (inB 1776 1785)=v:=⟨_,rfl⟩;have O4:=aW0 (W.out _ _ _ X);have ak:=aW0 (W.out _ _ _ Y);obtain ⟨b1,J⟩:∃ v,inB 1632 1641 x=v:=⟨_,rfl⟩;obtain ⟨b2,k2⟩:∃ v,inB 1776 1785 x=v:=⟨_,rfl⟩;have I:Hid (V=if b1=true then !v2 else if b2=true then !v1 else true):=aW0 (by rw [C.out,X,Y,J,k2]);have K1:Hid ((decide (1632≤x)&&decide (x≤1641))=b1):=J;have K2:Hid ((decide (1776≤x)&&decide (x≤1785))=b2):=k2;clear D C x1 x2 U x4 F m r W X Y J k2;cases b1<;>cases b2
 all_goals
  go_enter func126,ntmps126;go_wp2_with fail;refine (E.out).mono ?_;rintro e f ⟨rfl,a⟩;have G:=aW0 a;have d:=aW0 (g.trans' a);clear a E;have gX:f.cell? ⟨b,o+i,none⟩=some (.int .i64 x):=aW (bC d.out) M;have X9:∀ p:Nat,f.cell? ⟨w.heap.size,p,none⟩=t.v.cells[p]? :=aO G.out
  go_wp2_with (first
   |(go_at_call 164;with_reducible refine (LH x 1632 1641 _).mono ?_;rintro e w' ⟨rfl,rfl⟩;rw [K1.out])
   |(go_at_call 164;with_reducible refine (LH x 1776 1785 _).mono ?_;rintro e w' ⟨rfl,rfl⟩;rw [K2.out])
   |(go_at_call 165;with_reducible refine (O4.out _ d.out).mono ?_;rintro e w2 ⟨rfl,K⟩)
   |(go_at_call 165;with_reducible refine (ak.out _ d.out).mono ?_;rintro e w2 ⟨rfl,K⟩))
  go_ret
  first|exact ⟨aK I.out.symm,d.out.trans' K⟩|exact ⟨aK I.out.symm,d.out⟩
theorem XA (t:TV) (T:bK) (l:List Int) (A:Option Addr) (n c:Nat) (w:World) (ht:bT w t T) (h:aX w ⟨A,n,c⟩ l):
 Calls prog 92 #[t.v,.slice A n c] w fun e w'=>e= .returned (.tuple #[.int .i64 (fQ T l).1,.int .i64 (fQ T l).2])∧Ext w w':=by
 obtain ⟨E,_,_⟩:=h.len;subst E;have s:=aW0 ht;have x:=aW0 h;have b:=aUt w t;go_enter func92,ntmps92;go_wp2_with fail;refine (rJ t T l A _ c _ (s.out.aQ b) (x.out.ext b)).mono ?_;rintro e J ⟨rfl,p⟩;have F:=b.trans' p;by_cases f:bF T l=0
 ·have y:Hid (∀ k,k<l.length→qM T l (k:Int)=pV T l k):=aW0 (fun k D=>by rw [qM,zO f D];rfl);have z:Hid (fQ T l=IV T l (l.length - 0) 0):=aW0 (by simp [fQ,f]);rw [f];clear f;go_wp2_with fail;go_loopw [16] (fun j wr=>∃ (k:Nat),k≤l.length∧j= .int .i64 k∧Hid (fQ T l=IV T l (l.length - k) k)∧Ext (tW' w t) wr) (fun j _=>l.length - (intOf j).toNat)
  case atStart=>exact ⟨0,Nat.zero_le _,rfl,z,p⟩
  case round=>
   obtain ⟨k,D,rfl,q,g⟩:=hrel;have a:=b.trans' g;have K:∀ k:Nat,wr.cell? ⟨w.heap.size,k,none⟩=t.v.cells[k]? :=aO g;by_cases B:k<l.length
   ·have r:=aJ q (show _=if pV T l k=true then IV T l (l.length - (k+1)) (k+1) else ((k:Int),(18:Int)) from by
     rw [show l.length - k=(l.length - (k+1))+1 from by omega];rfl)
    have d:=y.out k B;clear q z;cases o:pV T l k
    ·have i:=aJ r (show _=((k:Int),(18:Int)) from by rw [o];simp);have C:=aW0 (d.trans o);clear r o d;go_wp2_with (go_at_call 126;refine (D7 t T l A _ c k _ (s.out.aQ a) (x.out.ext a)).mono ?_;rintro e G ⟨rfl,m⟩;rw [C.out]);go_ret2;exact ⟨by rw [i.out];rfl,a.trans' m⟩
    ·have i:=aJ r (show _=IV T l (l.length - (k+1)) (k+1) from by rw [o];simp);have C:=aW0 (d.trans o);clear r o d;go_wp2_with (go_at_call 126;refine (D7 t T l A _ c k _ (s.out.aQ a) (x.out.ext a)).mono ?_;rintro e G ⟨rfl,m⟩;rw [C.out]);go_roundw
     case rel=>exact ⟨k+1,by omega,by go_num,i,g.trans' m⟩
     case measure=>simp [intOf];omega
   ·have i:=aJ q (show _=((0:Int),(0:Int)) from by rw [show l.length - k=0 from by omega];rfl);clear q z;go_wp2_with fail;go_ret2;exact ⟨by rw [i.out];rfl,a⟩
 ·have H:(bF T l==0)=false:=by rw [aYs];exact f
  have I:(bF T l != 0)=true:=bN' f;have i:Hid (fQ T l=(0,bF T l)):=aW0 (by simp [fQ,f]);generalize bF T l=oe at*;clear f;go_wp2_with fail;go_ret2;exact ⟨by rw [i.out];rfl,F⟩
end Go.Proofs.YtjccgagakfndpaaGreatDoor
