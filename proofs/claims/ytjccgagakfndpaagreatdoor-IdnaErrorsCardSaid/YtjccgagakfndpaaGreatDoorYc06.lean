/- Part Yc06. -/
import Derived.Test.YtjccgagakfndpaaGreatDoorYc05
import Derived.RegionTactic
import Derived.ChangeAlike
import Derived.Deep.RegionLaw
open Go.Proofs.Tryz
namespace Go.Proofs.YtjccgagakfndpaaGreatDoor
set_option maxHeartbeats 25600000
set_option maxRecDepth 100000
open Go.RowKit
theorem yI {lo f:Int}:∀ {l:List Sp} {last:Int},chain lo f last l=true→(∀ s∈l,last<s.lo∧s.lo≤s.hi∧s.hi≤1114111∧lo≤s.lo∧s.hi≤f)∧vT l
 |[],_,_=>⟨by simp,by simp,fun i j _ b=>absurd b (by simp)⟩
 |s::r,last,h=>by
  simp only [chain,aV,Bool.not_eq_true',Bool.or_eq_false_iff,aA] at h;obtain ⟨⟨⟨⟨⟨m,n⟩,o⟩,p⟩,q⟩,g⟩:=h;obtain ⟨c,d⟩:=yI g;refine ⟨fun x a=> ?_,fun x a=> ?_,fun i j k b=> ?_⟩
  ·rcases List.mem_cons.1 a with rfl|a
   ·omega
   ·have:=c x a;omega
  ·rcases List.mem_cons.1 a with rfl|a
   ·omega
   ·exact d.1 x a
  ·cases j with
   |zero=>omega
   |succ j=>
    cases i with
    |zero=>
     simp only [List.getElem_cons_zero,List.getElem_cons_succ];have:=c (r[j]'(by simpa using b)) (by simp);omega
    |succ i=>
     simp only [List.getElem_cons_succ];exact d.2 i j (by omega) (by simpa using b)
theorem Ed {i:Int}:∀ {l:List Mp} {last:Int},jU i last l=true→(∀ m∈l,last<m.lo)∧uU l
 |[],_,_=>⟨by simp,fun i j _ b=>absurd b (by simp)⟩
 |m::r,last,h=>by
  simp only [jU,sU,aV,Bool.or_eq_true,au] at h;obtain ⟨a,f⟩:=h;have g:last<m.lo:=by
   rcases a with a|a
   ·exact a.1.1
   ·exact a.1.2
  obtain ⟨d,k⟩:=Ed f;refine ⟨fun x c=> ?_,fun i j n b=> ?_⟩
  ·rcases List.mem_cons.1 c with rfl|c
   ·exact g
   ·have:=d x c;omega
  ·cases j with
   |zero=>omega
   |succ j=>
    cases i with
    |zero=>
     simp only [List.getElem_cons_zero,List.getElem_cons_succ];exact d (r[j]'(by simpa using b)) (by simp)
    |succ i=>
     simp only [List.getElem_cons_succ];exact k i j (by omega) (by simpa using b)
theorem MJ:∀ {l:List Int} {last:Int},fM last l=true→(∀ m∈l,last<m)∧EM l
 |[],_,_=>⟨by simp,fun i j _ a=>absurd a (by simp)⟩
 |m::r,last,h=>by
  simp only [fM,sU,aV,au] at h;obtain ⟨⟨⟨d,_⟩,_⟩,f⟩:=h;obtain ⟨c,g⟩:=MJ f;refine ⟨fun x b=> ?_,fun i j k a=> ?_⟩
  ·rcases List.mem_cons.1 b with rfl|b
   ·exact d
   ·have:=c x b;omega
  ·cases j with
   |zero=>omega
   |succ j=>
    cases i with
    |zero=>
     simp only [List.getElem_cons_zero,List.getElem_cons_succ];exact c (r[j]'(by simpa using a)) (by simp)
    |succ i=>
     simp only [List.getElem_cons_succ];exact g i j (by omega) (by simpa using a)
theorem yO {T:ak} (b:iZ T=true) (h:dM T=true):gU T∧∀ s∈T.aU,0≤s.lo∧s.lo≤s.hi∧s.hi≤1114111:=by
 simp only [iZ,cols,maps,wE,nO,aV,au] at b;simp only [dM,cols,maps,pz,iG,lq,aV,au] at h;obtain ⟨⟨q,r,t,w,x,y,z,A,_⟩,B,C,D,E,_⟩:=b;obtain ⟨⟨⟨c,d,f,g,i,a,j,_⟩,k,l,m,n,_⟩,o⟩:=h
 refine ⟨⟨⟨(yI c.1.1).2,by omega⟩,⟨(yI d.1.1).2,by omega⟩,⟨(yI f.1.1).2,by omega⟩,⟨(yI g.1.1).2,by omega⟩,⟨(yI i.1.1).2,by omega⟩,⟨(yI a.1.1).2,by omega⟩,
  ⟨(yI j.1.1).2,by omega⟩,⟨(Ed k).2,by omega⟩,⟨(Ed l).2,by omega⟩,⟨(Ed m).2,by omega⟩,⟨(MJ o).2,by omega⟩,⟨(Ed n).2,by omega⟩⟩,fun s p=> ?_⟩
 have:=(yI a.1.1).1 s p;omega
theorem CJ {i:Int}:∀ {l:List Mp},jr i l=true→Ae l
 |[],_=>by intro m c;cases c
 |m::r,h=>by
  simp only [jr,aV,Bool.not_eq_true',Bool.or_eq_false_iff,aA] at h;obtain ⟨⟨⟨b,_⟩,_⟩,d⟩:=h;intro x a;rcases List.mem_cons.1 a with rfl|a
  ·intro e;rw [e] at b;simp at b
  ·exact CJ d x a
theorem CZ {T:ak} (h:jG T=true):nN T:=by
 simp only [jG,maps,kZ,aV] at h;obtain ⟨a,b,c,d,_⟩:=h;exact ⟨CJ a,CJ b,CJ c,CJ d⟩
theorem NT {D:List Mp} {k:Nat}:∀ {l:List Mp},qH D k l=true→∀ m∈l,dP D k m.lo≤18
 |[],_=>by simp
 |m::r,h=>by
  simp only [qH,aV,Bool.not_eq_true',aA] at h;intro x a;rcases List.mem_cons.1 a with rfl|a
  ·omega
  ·exact NT h.2 x a
theorem Ye {l:List Mp} {c:Int} (h:aO l c≠[]):∃ m∈l,m.lo=c:=by
 refine Classical.byContradiction fun a=>h (zF fun s b e=>a ⟨s,b,e⟩)
theorem ET {T:ak} (h:kX T=true):mF T.dec:=by
 simp only [kX,aV] at h;intro c;by_cases a:aO T.dec c=[]
 ·simp only [dP,if_pos a];omega
 ·obtain ⟨m,b,rfl⟩:=Ye a;exact NT h.2 m b
def jy (T:ak):List Bool:=[iZ T,dM T,valuesB T,jG T,lH T,kX T,tY T,uniqueB T,sO T]
def tu:Int→List Bool→Int
 |_,[]=>0
 |i,b::r=>if b=true then tu (i+1) r else i+1
theorem Xp (T:ak):mO T=tu 0 (jy T):=by
 unfold mO jy;cases iZ T<;>cases dM T<;>cases valuesB T<;>cases jG T<;>cases lH T<;>cases kX T<;>cases tY T<;>cases uniqueB T<;>cases sO T<;>rfl
theorem UZ (t:TV) (T:ak) (w:World) (ht:aS w t T):
 Calls prog 95 #[t.v] w fun e w'=>e= .returned (.int .i64 (mO T))∧Ext w w':=by
 have D:Hid (mO T=tu ((0:Nat):Int) ((jy T).drop 0)):=Xp T;have A:(jy T).length=9:=rfl;have f:=ah A;clear A;have C:Ext w ((tW' w t).alloc (.cells #[.func (.func 128) #[] #[],.func (.func 129) #[] #[],.func (.func 130) #[] #[],.func (.func 131) #[] #[],.func (.func 132) #[] #[],.func (.func 133) #[] #[],.func (.func 134) #[] #[],.func (.func 135) #[] #[],.func (.func 136) #[] #[]] 105)):=((Ext.refl _).aB _).aB _;go_enter func95,ntmps95;go_wp2_with fail
 go_loopw [7] (fun i wr=>∃ (k:Nat),k≤9∧i= .int .i64 k∧Hid (mO T=tu (k:Int) ((jy T).drop k))∧Hid (∀ j (n:j<(jy T).length),j<k→(jy T)[j]=true)∧
  Ext ((tW' w t).alloc (.cells #[.func (.func 128) #[] #[],.func (.func 129) #[] #[],.func (.func 130) #[] #[],.func (.func 131) #[] #[],.func (.func 132) #[] #[],.func (.func 133) #[] #[],.func (.func 134) #[] #[],.func (.func 135) #[] #[],.func (.func 136) #[] #[]] 105)) wr) (fun i _=>9 - (intOf i).toNat)
 case atStart=>exact ⟨0,by omega,rfl,D,fun j _ h=>absurd h (by omega),Ext.refl _⟩
 case round=>
  obtain ⟨k,E,rfl,q,p,o⟩:=hrel;have y:=C.trans' o;have G:=F6 o;have H:=F7 o;have I:w.heap.size+1<wr.heap.size:=by have:=o.b.size;simp at this;omega
  have z:=ah (ht.aF y);clear D
  match k,E with
  |0,_=>
   have g:=aI q (show _=(if iZ T=true then tu ((1:Nat):Int) ((jy T).drop 1) else (1:Int)) from rfl);have a:Hid (∀ b,iZ T=b→b=true→∀ j (n:j<(jy T).length),j<1→(jy T)[j]=true):=fun b r m j n s=>by
    by_cases h:j<0
    ·exact p.out j n h
    ·obtain rfl:j=0:=by omega
     exact r.trans m
   clear q;go_wp2_with fail;refine (YU _ T _ z.out).mono ?_;rintro e B ⟨rfl,c⟩;cases d:iZ T
   ·have l:=aI g (if_neg (by rw [d];simp));clear g d a;go_wp2_with fail;go_ret;exact ⟨aT (by rw [l.out]),y.trans' c⟩
   ·have l:=aI g (if_pos d);have x:=ah (a.out true d rfl);clear g d a;go_wp2_with fail;go_roundw
    case rel=>exact ⟨1,by omega,by go_num,l,x,o.trans' c⟩
    case measure=>simp [intOf]
  |1,_=>
   have g:=aI q (show _=(if dM T=true then tu ((2:Nat):Int) ((jy T).drop 2) else (2:Int)) from rfl);have a:Hid (∀ b,dM T=b→b=true→∀ j (n:j<(jy T).length),j<2→(jy T)[j]=true):=fun b r m j n s=>by
    by_cases h:j<1
    ·exact p.out j n h
    ·obtain rfl:j=1:=by omega
     exact r.trans m
   clear q;go_wp2_with fail;refine (Yp _ T _ z.out).mono ?_;rintro e B ⟨rfl,c⟩;cases d:dM T
   ·have l:=aI g (if_neg (by rw [d];simp));clear g d a;go_wp2_with fail;go_ret;exact ⟨aT (by rw [l.out]),y.trans' c⟩
   ·have l:=aI g (if_pos d);have x:=ah (a.out true d rfl);clear g d a;go_wp2_with fail;go_roundw
    case rel=>exact ⟨2,by omega,by go_num,l,x,o.trans' c⟩
    case measure=>simp [intOf]
  |2,_=>
   have g:=aI q (show _=(if valuesB T=true then tu ((3:Nat):Int) ((jy T).drop 3) else (3:Int)) from rfl);have a:Hid (∀ b,valuesB T=b→b=true→∀ j (n:j<(jy T).length),j<3→(jy T)[j]=true):=fun b r m j n s=>by
    by_cases h:j<2
    ·exact p.out j n h
    ·obtain rfl:j=2:=by omega
     exact r.trans m
   clear q;go_wp2_with fail;refine (XO _ T _ z.out).mono ?_;rintro e B ⟨rfl,c⟩;cases d:valuesB T
   ·have l:=aI g (if_neg (by rw [d];simp));clear g d a;go_wp2_with fail;go_ret;exact ⟨aT (by rw [l.out]),y.trans' c⟩
   ·have l:=aI g (if_pos d);have x:=ah (a.out true d rfl);clear g d a;go_wp2_with fail;go_roundw
    case rel=>exact ⟨3,by omega,by go_num,l,x,o.trans' c⟩
    case measure=>simp [intOf]
  |3,_=>
   have g:=aI q (show _=(if jG T=true then tu ((4:Nat):Int) ((jy T).drop 4) else (4:Int)) from rfl);have a:Hid (∀ b,jG T=b→b=true→∀ j (n:j<(jy T).length),j<4→(jy T)[j]=true):=fun b r m j n s=>by
    by_cases h:j<3
    ·exact p.out j n h
    ·obtain rfl:j=3:=by omega
     exact r.trans m
   clear q;go_wp2_with fail;refine (Xh _ T _ z.out).mono ?_;rintro e B ⟨rfl,c⟩;cases d:jG T
   ·have l:=aI g (if_neg (by rw [d];simp));clear g d a;go_wp2_with fail;go_ret;exact ⟨aT (by rw [l.out]),y.trans' c⟩
   ·have l:=aI g (if_pos d);have x:=ah (a.out true d rfl);clear g d a;go_wp2_with fail;go_roundw
    case rel=>exact ⟨4,by omega,by go_num,l,x,o.trans' c⟩
    case measure=>simp [intOf]
  |4,_=>
   have S:=ah (yO (T:=T) (p.out 0 (by rw [f.out];omega) (by omega)) (p.out 1 (by rw [f.out];omega) (by omega)));have g:=aI q (show _=(if lH T=true then tu ((5:Nat):Int) ((jy T).drop 5) else (5:Int)) from rfl);have a:Hid (∀ b,lH T=b→b=true→∀ j (n:j<(jy T).length),j<5→(jy T)[j]=true):=fun b r m j n s=>by
    by_cases h:j<4
    ·exact p.out j n h
    ·obtain rfl:j=4:=by omega
     exact r.trans m
   clear q;go_wp2_with fail;refine (Xy _ T _ z.out S.out.1 S.out.2).mono ?_;rintro e B ⟨rfl,c⟩;cases d:lH T
   ·have l:=aI g (if_neg (by rw [d];simp));clear g d a;go_wp2_with fail;go_ret;exact ⟨aT (by rw [l.out]),y.trans' c⟩
   ·have l:=aI g (if_pos d);have x:=ah (a.out true d rfl);clear g d a;go_wp2_with fail;go_roundw
    case rel=>exact ⟨5,by omega,by go_num,l,x,o.trans' c⟩
    case measure=>simp [intOf]
  |5,_=>
   have S:=ah (yO (T:=T) (p.out 0 (by rw [f.out];omega) (by omega)) (p.out 1 (by rw [f.out];omega) (by omega)));have N:=ah (CZ (T:=T) (p.out 3 (by rw [f.out];omega) (by omega)));have g:=aI q (show _=(if kX T=true then tu ((6:Nat):Int) ((jy T).drop 6) else (6:Int)) from rfl);have a:Hid (∀ b,kX T=b→b=true→∀ j (n:j<(jy T).length),j<6→(jy T)[j]=true):=fun b r m j n s=>by
    by_cases h:j<5
    ·exact p.out j n h
    ·obtain rfl:j=5:=by omega
     exact r.trans m
   clear q;go_wp2_with fail;refine (VI _ T _ z.out S.out.1 N.out).mono ?_;rintro e B ⟨rfl,c⟩;cases d:kX T
   ·have l:=aI g (if_neg (by rw [d];simp));clear g d a;go_wp2_with fail;go_ret;exact ⟨aT (by rw [l.out]),y.trans' c⟩
   ·have l:=aI g (if_pos d);have x:=ah (a.out true d rfl);clear g d a;go_wp2_with fail;go_roundw
    case rel=>exact ⟨6,by omega,by go_num,l,x,o.trans' c⟩
    case measure=>simp [intOf]
  |6,_=>
   have S:=ah (yO (T:=T) (p.out 0 (by rw [f.out];omega) (by omega)) (p.out 1 (by rw [f.out];omega) (by omega)));have N:=ah (CZ (T:=T) (p.out 3 (by rw [f.out];omega) (by omega)));have g:=aI q (show _=(if tY T=true then tu ((7:Nat):Int) ((jy T).drop 7) else (7:Int)) from rfl);have a:Hid (∀ b,tY T=b→b=true→∀ j (n:j<(jy T).length),j<7→(jy T)[j]=true):=fun b r m j n s=>by
    by_cases h:j<6
    ·exact p.out j n h
    ·obtain rfl:j=6:=by omega
     exact r.trans m
   clear q;go_wp2_with fail;refine (WH _ T _ z.out S.out.1 N.out).mono ?_;rintro e B ⟨rfl,c⟩;cases d:tY T
   ·have l:=aI g (if_neg (by rw [d];simp));clear g d a;go_wp2_with fail;go_ret;exact ⟨aT (by rw [l.out]),y.trans' c⟩
   ·have l:=aI g (if_pos d);have x:=ah (a.out true d rfl);clear g d a;go_wp2_with fail;go_roundw
    case rel=>exact ⟨7,by omega,by go_num,l,x,o.trans' c⟩
    case measure=>simp [intOf]
  |7,_=>
   have S:=ah (yO (T:=T) (p.out 0 (by rw [f.out];omega) (by omega)) (p.out 1 (by rw [f.out];omega) (by omega)));have N:=ah (CZ (T:=T) (p.out 3 (by rw [f.out];omega) (by omega)));have F:=ah (ET (T:=T) (p.out 5 (by rw [f.out];omega) (by omega)));have g:=aI q (show _=(if uniqueB T=true then tu ((8:Nat):Int) ((jy T).drop 8) else (8:Int)) from rfl);have a:Hid (∀ b,uniqueB T=b→b=true→∀ j (n:j<(jy T).length),j<8→(jy T)[j]=true):=fun b r m j n s=>by
    by_cases h:j<7
    ·exact p.out j n h
    ·obtain rfl:j=7:=by omega
     exact r.trans m
   clear q;go_wp2_with fail;refine (unique_spec _ T _ z.out S.out.1 N.out F.out).mono ?_;rintro e B ⟨rfl,c⟩;cases d:uniqueB T
   ·have l:=aI g (if_neg (by rw [d];simp));clear g d a;go_wp2_with fail;go_ret;exact ⟨aT (by rw [l.out]),y.trans' c⟩
   ·have l:=aI g (if_pos d);have x:=ah (a.out true d rfl);clear g d a;go_wp2_with fail;go_roundw
    case rel=>exact ⟨8,by omega,by go_num,l,x,o.trans' c⟩
    case measure=>simp [intOf]
  |8,_=>
   have S:=ah (yO (T:=T) (p.out 0 (by rw [f.out];omega) (by omega)) (p.out 1 (by rw [f.out];omega) (by omega)));have N:=ah (CZ (T:=T) (p.out 3 (by rw [f.out];omega) (by omega)));have F:=ah (ET (T:=T) (p.out 5 (by rw [f.out];omega) (by omega)));have g:=aI q (show _=(if sO T=true then tu ((9:Nat):Int) ((jy T).drop 9) else (9:Int)) from rfl);have a:Hid (∀ b,sO T=b→b=true→∀ j (n:j<(jy T).length),j<9→(jy T)[j]=true):=fun b r m j n s=>by
    by_cases h:j<8
    ·exact p.out j n h
    ·obtain rfl:j=8:=by omega
     exact r.trans m
   clear q;go_wp2_with fail;refine (VK _ T _ z.out S.out.1 N.out).mono ?_;rintro e B ⟨rfl,c⟩;cases d:sO T
   ·have l:=aI g (if_neg (by rw [d];simp));clear g d a;go_wp2_with fail;go_ret;exact ⟨aT (by rw [l.out]),y.trans' c⟩
   ·have l:=aI g (if_pos d);have x:=ah (a.out true d rfl);clear g d a;go_wp2_with fail;go_roundw
    case rel=>exact ⟨9,by omega,by go_num,l,x,o.trans' c⟩
    case measure=>simp [intOf]
  |9,_=>
   have l:=aI q (show _=(0:Int) from rfl);clear q;go_wp2_with fail;go_ret;exact ⟨aT (by rw [l.out]),y⟩
def bM (T:ak) (l:List Int):Int:=if dI T=false then 2 else if 4096<(l.length:Int) then 7 else if l.any (fun c=> !aX c) then 3 else 0
def idxOf (p:Int→Bool):Int→List Int→Int
 |_,[]=> -1
 |i,x::r=>if p x=true then i else idxOf p (i+1) r
theorem OV (p:Int→Bool):∀ (l:List Int) (i:Int),0≤i→(0≤idxOf p i l↔l.any p=true)
 |[],i,_=>by simp [idxOf]
 |x::r,i,h=>by
  simp only [idxOf,List.any_cons,Bool.or_eq_true];by_cases a:p x=true
  ·simp [a,h]
  ·rw [if_neg a];have:=OV p r (i+1) (by omega);simp [a,this]
theorem Wi (f:FuncId) (d:Array Value) (p:Int→Bool) (l:List Int) (A:Option Addr) (n c:Nat) (w:World) (h:aC w ⟨A,n,c⟩ l)
 (t:∀ args w,(callFunc f args).run prog w= .ok (.enter f args) w)
 (z:∀ x∈l,∀ w',Ext w w'→Calls prog f (#[.int .i64 x]++d) w' fun e w''=>e= .returned (.bool (p x))∧Ext w' w''):
 Calls prog 231 #[.slice A n c,.func (.func f) #[] d] w fun e w'=>e= .returned (.int .i64 (idxOf p 0 l))∧Ext w w':=by
 obtain ⟨B,_,_⟩:=h.len;subst B;have C:=ah z;clear z;go_enter func231,ntmps231;go_wp2_with fail;go_loopw [8] (fun i wr=>∃ (k:Nat),k≤l.length∧i= .int .i64 k∧Hid (idxOf p 0 l=idxOf p k (l.drop k))∧Ext w wr) (fun i _=>l.length - (intOf i).toNat)
 case atStart=>exact ⟨0,Nat.zero_le _,rfl,rfl,Ext.refl _⟩
 case round=>
  obtain ⟨k,F,rfl,q,a⟩:=hrel;by_cases g:k<l.length
  ·obtain ⟨b,o,D,G⟩:=(h.ext a).at_ g;subst D;have y:=ah (drop_at l k g);have E:Hid (l[k]∈l):=List.getElem_mem _;generalize l[k]=x at*;have r:=aI q (show _=(if p x=true then (k:Int) else idxOf p ((k:Int)+1) (l.drop (k+1))) from by rw [y.out];rfl);clear q y;go_wp2_with fail;refine (C.out x E.out wr a).mono ?_;rintro e H ⟨rfl,j⟩;cases s:p x
   ·have m:=aI r (show _=idxOf p ((k+1:Nat):Int) (l.drop (k+1)) from by rw [s];simp);clear r s;go_wp2_with fail;go_roundw
    case rel=>exact ⟨k+1,by omega,by go_num,m,a.trans' j⟩
    case measure=>simp [intOf];omega
   ·have m:=aI r (if_pos s);clear r s;go_wp2_with fail;go_ret;exact ⟨aT (by rw [m.out]),a.trans' j⟩
  ·have m:=aI q (show _=(-1:Int) from by rw [bW l k (by omega)];rfl);clear q;go_wp2_with fail;go_ret;exact ⟨aT (by rw [m.out]),a⟩
theorem Gt (f:FuncId) (a:Array Value) (p:Int→Bool) (l:List Int) (A:Option Addr) (n c:Nat) (w:World) (h:aC w ⟨A,n,c⟩ l)
 (b:∀ args w,(callFunc f args).run prog w= .ok (.enter f args) w)
 (g:∀ x∈l,∀ w',Ext w w'→Calls prog f (#[.int .i64 x]++a) w' fun e w''=>e= .returned (.bool (p x))∧Ext w' w''):
 Calls prog 213 #[.slice A n c,.func (.func f) #[] a] w fun e w'=>e= .returned (.bool (l.any p))∧Ext w w':=by
 have i:=ah g;clear g;have j:=ah (OV p l 0 (by omega));go_enter func213,ntmps213;go_wp2_with fail;refine (Wi f a p l A n c w h b i.out).mono ?_;rintro e k ⟨rfl,d⟩;generalize idxOf p 0 l=v at*;go_wp2_with fail;go_ret;refine ⟨aJ ?_,d⟩;rw [Bool.eq_iff_iff,← j.out];simp
theorem Wj (c:Int) (w:World):Calls prog 214 (#[.int .i64 c]++ #[]) w fun e w'=>e= .returned (.bool (!aX c))∧Ext w w':=by
 have b:=ah (utfLen_eq_zero c);go_enter func214,ntmps214;go_wp2_with (go_at_call 148;refine (wY _ _).mono ?_;rintro e w' ⟨rfl,rfl⟩);go_ret;refine ⟨aJ ?_,Ext.refl _⟩;have:=b.out;cases a:aX c
 ·simp [this.2 a]
 ·have d:utfLen c≠0:=fun h=>by have:=this.1 h;rw [a] at this;cases this
  simp [d]
theorem WM (t:TV) (T:ak) (l:List Int) (A:Option Addr) (n c:Nat) (w:World) (ht:aS w t T) (h:aC w ⟨A,n,c⟩ l):
 Calls prog 180 #[t.v,.slice A n c] w fun e w'=>e= .returned (.int .i64 (bM T l))∧Ext w w':=by
 obtain ⟨r,_,_⟩:=h.len;subst r;have d:Ext w (w.alloc (.cells t.v.cells 26)):=(Ext.refl _).aB _;have s:=ah (ht.aF d);have j:Hid (bM T l=if dI T=false then 2 else if 4096<(l.length:Int) then 7 else if l.any (fun c=> !aX c) then 3 else 0):=rfl;have k:=ah (Au T);clear ht;go_enter func180,ntmps180;go_wp2_with fail;refine (UZ t T _ s.out).mono ?_;rintro e z ⟨rfl,q⟩;have f:=d.trans' q;generalize mO T=v at*;by_cases g:v=0
 ·have m:Hid (dI T=true):=k.out.1 g;subst g;have o:=aI j (show _=(if 4096<(l.length:Int) then 7 else if l.any (fun c=> !aX c) then 3 else 0) from by rw [m.out];simp);clear j k;by_cases B:4096<l.length
  ·have b:=aI o (if_pos (by omega));clear o;go_wp2_with fail;go_ret;exact ⟨aT (by rw [b.out]),f⟩
  ·have a:=aI o (if_neg (by omega));clear o;go_wp2_with fail;refine (Gt 214 #[] (fun c=> !aX c) l _ _ _ _ (h.ext f) Tryz.call214 (fun x _ w' _=>Wj x w')).mono ?_;rintro e C ⟨rfl,i⟩;cases p:l.any (fun c=> !aX c)
   ·have b:=aI a (show _=(0:Int) from by rw [p];rfl);clear a p;go_wp2_with fail;go_ret;exact ⟨aT (by rw [b.out]),f.trans' i⟩
   ·have b:=aI a (show _=(3:Int) from by rw [p];rfl);clear a p;go_wp2_with fail;go_ret;exact ⟨aT (by rw [b.out]),f.trans' i⟩
 ·have m:dI T=false:=by
   cases h:dI T with
   |false=>rfl
   |true=>exact absurd (k.out.2 h) g
  have b:=aI j (if_pos m);have y:(v != 0)=true:=bN' g;clear j k g m;go_wp2_with fail;go_ret;exact ⟨aT (by rw [b.out]),f⟩
theorem qE {T:ak} (h:dI T=true):gU T:=by
 simp only [dI,aV] at h;exact (yO (by simp only [h]) (by simp only [h])).1
def iJ (T:ak) (k x:Int):List Int→List Int
 |[]=>[x]
 |y::r=>if k<aH T y then y::iJ T k x r else x::y::r
def lZ (T:ak):List Int→List Int→List Int
 |acc,[]=>acc.reverse
 |acc,x::r=>lZ T (if aH T x=0 then x::acc else iJ T (aH T x) x acc) r
def jH (T:ak) (l:List Int):List Int:=lZ T [] l
theorem OW (T:ak) (k x:Int):∀ l,(iJ T k x l).length=l.length+1
 |[]=>rfl
 |y::r=>by
  simp only [iJ];by_cases h:k<aH T y
  ·rw [if_pos h];simp [OW T k x r]
  ·rw [if_neg h];rfl
theorem aK.cell {w:World} {d g n c:Nat} {l:List Int} (h:aK w d (some ⟨g,0,none⟩) n c l) (j:Nat) (x:Int) (i:l[j]? =some x):w.cell? ⟨g,j,none⟩=some (.int .i64 x):=by
 obtain ⟨b,a,f⟩:=h.rO j (.int .i64 x) (by simp [i]);injection a with a;injection a with a;subst a;exact f
theorem aK.frozen {w:World} {a g n c:Nat} {l:List Int} (h:aK w a (some ⟨g,0,none⟩) n c l) (j:Nat):w.frozen? ⟨g,j,none⟩=false:=World.ownsRow.frozenAt h j
theorem aK.set {w:World} {a g n c:Nat} {l:List Int} (h:aK w a (some ⟨g,0,none⟩) n c l) (j:Nat) (x:Int):aK (w.setCell ⟨g,j,none⟩ (.int .i64 x)) a (some ⟨g,0,none⟩) n c (l.set j x):=by
 have:=(World.ownsRow.stored h j (.int .i64 x)).1;rw [← List.map_set] at this;exact this
theorem Z5 (a:List Int) (y x:Int) (r:List Int):(((a.reverse++y::x::r).set (a.length+1) y).set a.length x)=a.reverse++x::y::r:=by
 simp
theorem Oq (t:TV) (T:ak) (l:List Int) (A:Option Addr) (n c:Nat) (w:World) (ht:aS w t T) (hs:gU T) (h:aC w ⟨A,n,c⟩ l) (az:l.length≤1099511627776):
 Calls prog 181 #[t.v,.slice A n c] w fun e w'=>∃ B m d,e= .returned (.slice B m d)∧aC w' ⟨B,m,d⟩ (jH T l)∧Ext w w':=by
 obtain ⟨hn,_,_⟩:=h.len;subst hn;have D:Ext w (tW' w t):=(Ext.refl _).aB _;have HT:=ah (ht.aF D);obtain ⟨G,d,w1,q,o,hg,ab⟩:=gI (n:=0) (c:=0) (l:=[]) (Own.nil_ (tW' w t) (w.heap.size+1) 3 1) (h.ext D) (by omega) (by simp);simp only [Nat.zero_add,List.nil_append] at q o;have X:Ext (tW' w t) w1:=dA (Ext.refl _) hg (by simp [aG]);clear hg ab;by_cases Q:l=[]
 ·subst Q;have J:=ah o.ints;simp only [List.length_nil] at q;go_enter func181,ntmps181;go_wp2_with (at_builtin;refine dL rfl _ _ _ rfl _ _ rfl rfl _ _ q ?_);refine wp_loop_rounds 1 ?_;rw [rounds_succ];go_wp2_with fail;go_ret;exact ⟨_,_,_,rfl,J.out,D.trans' X⟩
 ·obtain ⟨g,hG⟩:=o.some_ (by have:=List.length_pos_iff.2 Q;omega);subst hG;have Y:w.heap.size+1≤g:=(o.lt g rfl).1;have HO:Hid (jH T l=lZ T [] l):=rfl;clear Q;go_enter func181,ntmps181;go_wp2_with (at_builtin;refine dL rfl _ _ _ rfl _ _ rfl rfl _ _ q ?_)
  go_loopw [13] (fun i wr=>∃ (k:Nat) (f:List Int),k≤l.length∧i= .int .i64 k∧f.length=k∧aK wr (w.heap.size+1) (some ⟨g,0,none⟩) l.length d (f.reverse++l.drop k)∧Hid (jH T l=lZ T f (l.drop k))∧
   Ext (tW' w t) wr) (fun i _=>l.length - (intOf i).toNat)
  case atStart=>exact ⟨0,[],Nat.zero_le _,rfl,rfl,o,HO,X⟩
  case round=>
   obtain ⟨k,f,hk,rfl,P,Z,HR,K⟩:=hrel;have dG:=D.trans' K;have L:=ah Z;have fG:=ah P;clear Z P o;by_cases ac:k<l.length
   ·have HD:=ah (drop_at l k ac);generalize l[k]=x at*;have M:=L.out.cell k x (by rw [HD.out,List.getElem?_append_right (by simp [fG.out])];simp [fG.out]);have rT:∀ E:aj wr,∀ k:Nat,E.w.cell? ⟨w.heap.size,k,none⟩=(#[.slice t.s0.a t.s0.n t.s0.c,.slice t.s1.a t.s1.n t.s1.c,.slice t.s2.a t.s2.n t.s2.c,.slice t.s3.a t.s3.n t.s3.c,.slice t.s4.a t.s4.n t.s4.c,.slice t.s5.a t.s5.n t.s5.c,.slice t.s6.a t.s6.n t.s6.c,.slice t.s7.a t.s7.n t.s7.c,.slice t.s8.a t.s8.n t.s8.c,.slice t.s9.a t.s9.n t.s9.c,.slice t.s10.a t.s10.n t.s10.c,.slice t.s11.a t.s11.n t.s11.c]:Array Value)[k]? :=fun E=>aQ (K.trans' E.h)
    have rX:∀ E:aj wr,E.w.cell? ⟨g,k,none⟩=some (.int .i64 x):=dJ M;have af:=z0' k;have ag:(k:Int)<(l.length:Int):=(by omega);go_wp2_with fail;refine rX' ?_
    repeat (go_big_quiet_step ((go_at_call 187;exact aN (iM t T x _ (HT.out.aF (K.trans' (aj.h _))) hs))))
    refine wpQuiet_nil ?_;rintro _ ⟨xw,rfl⟩;have F:=K.trans' xw.h;have H:=ah (L.out.ext xw.h);have HS:=aI HR (show _=lZ T (if aH T x=0 then x::f else iJ T (aH T x) x f) (l.drop (k+1)) from by rw [HD.out];rfl);have R:=aI (show Hid (f.reverse++l.drop k=f.reverse++x::l.drop (k+1)) from by show _=_;rw [HD.out]) rfl;clear HR HD rT rX M;generalize aH T x=kx at*;by_cases s:kx=0
    ·have C:=aI HS (show _=lZ T (x::f) (l.drop (k+1)) from by rw [if_pos s]);have al:(kx==0)=true:=(by rw [beq_iff_eq];exact s);clear HS s;go_wp2_with fail;go_roundw
     case rel=>exact ⟨k+1,x::f,by omega,by go_num,by simp [fG.out],by have:=H.out;rw [R.out] at this;rw [List.reverse_cons,List.append_assoc];exact this,C,F⟩
     case measure=>simp [intOf];omega
    ·have C:=aI HS (show _=lZ T (iJ T kx x f) (l.drop (k+1)) from by rw [if_neg s]);have al:(kx==0)=false:=(by rw [aP];exact s);clear HS s;obtain ⟨wo,a1⟩:∃ wo:World,wo=xw.w:=⟨_,rfl⟩;rw [← a1] at F H ⊢;clear a1;have HW:=ah H.out;have am:=F;have b0:w.heap.size<wo.heap.size:=Nat.lt_of_lt_of_le (by simp) F.b.size;have HA:Hid (jH T l=lZ T (([]:List Int).reverse++iJ T kx x f) (l.drop (k+1))):=C;have a2:Hid (aK wo (w.heap.size+1) (some ⟨g,0,none⟩) l.length d (f.reverse++x::([]++l.drop (k+1)))):=ah (by have:=H.out;rw [R.out] at this;exact this);clear H HW C F L R;go_wp2_with fail;go_loopw [8] (fun j wi=>∃ (a p:List Int),j= .int .i64 a.length∧a.length+p.length=k∧aK wi (w.heap.size+1) (some ⟨g,0,none⟩) l.length d (a.reverse++x::(p++l.drop (k+1)))∧Hid (jH T l=lZ T (p.reverse++iJ T kx x a) (l.drop (k+1)))∧Ext (tW' w t) wi) (fun j _=>(intOf j).toNat)
     case atStart=>exact ⟨f,[],by rw [fG.out],fG.out,a2.out,HA,am⟩
     case round=>
      obtain ⟨a,p,rfl,N,a3,J,z⟩:=hrel;have dY:=ah a3;clear a3 a2 HA;have an:=D.trans' z;cases a with
      |nil=>
       have hd:decide ((0:Int)<0)=false:=rfl;have C:=aI J (show _=lZ T (p.reverse++[x]) (l.drop (k+1)) from rfl);clear J;go_wp2_with fail;refine rX' ?_
       repeat (go_big_quiet_step (fail))
       refine wpQuiet_nil ?_;rintro _ ⟨S,rfl⟩;go_wp2_with fail;go_roundw
       case rel=>
        refine ⟨k+1,p.reverse++[x],by omega,by go_num,by simp at N ⊢;omega,?_,C,z.trans' S.h⟩;have:=dY.out.ext S.h;rw [List.reverse_append,List.reverse_reverse];exact this
       case measure=>simp [intOf];omega
      |cons y r=>
       simp only [List.length_cons] at N ⊢;have hd:decide ((0:Int)<((r.length+1:Nat):Int))=true:=(by simp);have av:((r.length+1:Nat):Int) - 1=(r.length:Int):=(by omega);have a5:=dY.out.cell r.length y (by simp);have M:=dY.out.cell (r.length+1) x (by simp);have rT:∀ E:aj wr,∀ k:Nat,E.w.cell? ⟨w.heap.size,k,none⟩=(#[.slice t.s0.a t.s0.n t.s0.c,.slice t.s1.a t.s1.n t.s1.c,.slice t.s2.a t.s2.n t.s2.c,.slice t.s3.a t.s3.n t.s3.c,.slice t.s4.a t.s4.n t.s4.c,.slice t.s5.a t.s5.n t.s5.c,.slice t.s6.a t.s6.n t.s6.c,.slice t.s7.a t.s7.n t.s7.c,.slice t.s8.a t.s8.n t.s8.c,.slice t.s9.a t.s9.n t.s9.c,.slice t.s10.a t.s10.n t.s10.c,.slice t.s11.a t.s11.n t.s11.c]:Array Value)[k]? :=fun E=>aQ (z.trans' E.h)
       have rX:∀ E:aj wr,E.w.cell? ⟨g,r.length,none⟩=some (.int .i64 y):=dJ a5;have af:(0:Int)≤(r.length:Int):=bH _;have ag:(r.length:Int)<(l.length:Int):=(by omega);have b2:((r.length+1:Nat):Int)<(l.length:Int):=(by omega);go_wp2_with fail;refine rX' ?_
       repeat (go_big_quiet_step ((go_at_call 187;exact aN (iM t T y _ (HT.out.aF (z.trans' (aj.h _))) hs))))
       refine wpQuiet_nil ?_;rintro _ ⟨S,rfl⟩;have U:Hid (aK S.w (w.heap.size+1) (some ⟨g,0,none⟩) l.length d ((y::r).reverse++x::(p++l.drop (k+1)))):=ah (dY.out.ext S.h);have V:=z.trans' S.h;clear a5 M rT rX z an dY;generalize O:decide (kx<aH T y)=bv;cases bv
       case true=>
        have I:kx<aH T y:=of_decide_eq_true O;have C:=aI J (show _=lZ T ((y::p).reverse++iJ T kx x r) (l.drop (k+1)) from by simp [iJ,I]);clear I J O;have r0:=U.out.cell r.length y (by simp);have r1:=U.out.cell (r.length+1) x (by simp);have f0:=U.out.frozen r.length;have f1:=U.out.frozen (r.length+1);have b7:(0:Int)≤((r.length+1:Nat):Int):=bH _;obtain ⟨a6,TK⟩:∃ a6:World,a6=S.w:=⟨_,rfl⟩;rw [← TK] at U V r0 r1 f0 f1 ⊢;clear TK;go_wp2_with fail;go_region;go_wp2_with fail;go_roundw
        case rel=>
         refine ⟨r,y::p,by go_num,by simp at N ⊢;omega,?_,C,?_⟩
         ·have h2:=(U.out.set (r.length+1) y).set r.length x;have h3:=Z5 r y x (p++l.drop (k+1));show aK _ _ _ _ _ (r.reverse++x::y::(p++l.drop (k+1)))
          rw [← h3];rw [List.reverse_cons,List.append_assoc] at h2;exact Own.ext h2 (Ext.refl _).dU
         ·exact ((V.jT (by simp;exact Y) _).jT (by simp;exact Y) _).dU
        case measure=>simp [intOf]
       case false=>
        have I:¬ kx<aH T y:=of_decide_eq_false O;have C:=aI J (show _=lZ T (p.reverse++x::y::r) (l.drop (k+1)) from by simp [iJ,I]);clear I J O;go_wp2_with fail;go_roundw
        case rel=>
         refine ⟨k+1,p.reverse++x::y::r,by omega,by go_num,by simp at N ⊢;omega,?_,C,V⟩;have:=U.out;rw [show (p.reverse++x::y::r).reverse++l.drop (k+1)=(y::r).reverse++x::(p++l.drop (k+1)) from by simp];exact this
        case measure=>simp [intOf];omega
   ·have C:=aI HR (show _=f.reverse from by rw [bW l k (by omega)];rfl);have W:=L.out;rw [bW l k (by omega),List.append_nil] at W;have J:=ah W.ints;clear HR W;go_wp2_with fail;go_ret;exact ⟨_,_,_,rfl,by rw [C.out];exact J.out,dG⟩
theorem Aw (t:TV) (T:ak) (l:List Int) (A:Option Addr) (n c:Nat) (w:World) (ht:aS w t T) (h:aC w ⟨A,n,c⟩ l):
 Calls prog 138 #[t.v,.slice A n c] w fun e w'=>∃ v,e= .returned (.tuple #[v,.int .i64 (bM T l)])∧Ext w w'∧
  (bM T l=0→∃ B m d,v= .slice B m d∧aC w' ⟨B,m,d⟩ (jH T l)):=by
 have b:Ext w (w.alloc (.cells t.v.cells 26)):=(Ext.refl _).aB _;have r:=ah ht;have s:=ah h;go_enter func138,ntmps138;go_wp2_with fail;refine (WM t T l A n c _ (r.out.aF b) (s.out.ext b)).mono ?_;rintro e C ⟨rfl,f⟩;have g:=b.trans' f;by_cases a:bM T l=0
 ·have i:(bM T l==0)=true:=by rw [beq_iff_eq];exact a
  obtain ⟨j,x⟩:dI T=true∧l.length≤4096:=by
   unfold bM at a;cases y:dI T
   ·rw [y] at a;simp at a
   ·rw [y] at a;simp only [Bool.true_eq_false,if_false] at a;by_cases D:4096<(l.length:Int)
    ·rw [if_pos D] at a;omega
    ·exact ⟨rfl,by omega⟩
  have o:=ah a;have E:∀ k:Nat,C.cell? ⟨w.heap.size,k,none⟩=t.v.cells[k]? :=aQ f;clear a;go_wp2_with fail;refine (Oq t T l A n c _ (r.out.aF g) (qE j) (s.out.ext g) (by omega)).mono ?_;rintro e F ⟨B,m,d,rfl,z,p⟩;have q:=ah z;clear z;go_wp2_with fail;go_ret2;exact ⟨_,by rw [o.out];rfl,g.trans' p,fun _=>⟨B,m,d,rfl,q.out⟩⟩
 ·have i:(bM T l==0)=false:=by rw [aP];exact a
  have o:=ah a;clear a;go_wp2_with fail;go_ret2;exact ⟨_,rfl,g,fun h=>absurd h o.out⟩
theorem Np (t:TV) (T:ak) (c:Int) (w:World) (ht:aS w t T) (y:(aO T.dec c).length≠2):
 Calls prog 83 #[t.v,.int .i64 c] w fun e w'=>e= .returned (.bool false)∧Ext w w':=by
 have m:Hid (cZ w ⟨t.s9.a,t.s9.n,t.s9.c⟩ T.dec):=ah ht.dec;have b:=dS w t;obtain ⟨z,i,A,j,l⟩:=zH T.dec t.s9.a t.s9.n t.s9.c c w m.out;have f:=j.len.1;have o:((i:Int) != 2)=true:=by rw [bne_iff_ne];omega
 have p:(i != 2)=true:=by rw [bne_iff_ne];omega
 have q:=ah l;clear j f l y ht;go_enter func83,ntmps83;go_wp2_with fail;refine (q.out _ b).mono ?_;rintro e r ⟨rfl,d⟩;have s:∀ g:aj r,∀ k:Nat,g.w.cell? ⟨w.heap.size,k,none⟩=t.v.cells[k]? :=fun g=>aQ (d.trans' g.h)
 go_wp2_with fail;refine rX' ?_
 repeat (go_big_quiet_step (fail))
 refine wpQuiet_nil ?_;rintro _ ⟨x,rfl⟩;clear s;go_wp2_with fail;go_ret;exact ⟨rfl,(b.trans' d).trans' x.h⟩
theorem YR (t:TV) (T:ak) (c a b:Int) (r:Bool) (w:World) (ht:aS w t T) (a4:T.dec.length≤256) (hF:mF T.dec) (ba:∀ x,(aO T.dec x).length≤18) (hm:aO T.dec c=[a,b])
 (ih:(aO T.dec a).isEmpty=false→∀ w',Ext w w'→Calls prog 83 #[t.v,.int .i64 a] w' fun e w''=>e= .returned (.bool r)∧Ext w' w''):
 Calls prog 83 #[t.v,.int .i64 c] w fun e w'=>e= .returned (.bool (!(iY T.exc c||decide (aH T c≠0)||decide (aH T a≠0)|| !(aO T.dec b).isEmpty)&&
  !(!(aO T.dec a).isEmpty&& !r)&&(decide (aH T b=0)||decide (aH T (lastT T.dec a)≤aH T b))))∧Ext w w':=by
 have HT:=ah ht;have HD:Hid (cZ w ⟨t.s9.a,t.s9.n,t.s9.c⟩ T.dec):=ah ht.dec;have aD:=dS w t;obtain ⟨za,zn,zc,hz,aL⟩:=zH T.dec t.s9.a t.s9.n t.s9.c c w HD.out;obtain ⟨bf,C,bg,aM,aR⟩:=zH T.dec t.s9.a t.s9.n t.s9.c a w HD.out;obtain ⟨bh,D,bi,aU,b0⟩:=zH T.dec t.s9.a t.s9.n t.s9.c b w HD.out;rw [hm] at hz;obtain rfl:zn=2:=hz.len.1;obtain ⟨m,o,ha,ga⟩:=hz.at_ (i:=0) (by simp);obtain ⟨b6,o6,a6,gb⟩:=hz.at_ (i:=1) (by simp);subst ha;injection a6 with a6;injection a6 with e1 e2;subst e1 e2;simp only [List.getElem_cons_zero,List.getElem_cons_succ,Nat.add_zero] at ga gb;have QD:=ah (YH a4 hF a);obtain ⟨G,a7⟩:∃ G,(!(iY T.exc c||decide (aH T c≠0)||decide (aH T a≠0)|| !(aO T.dec b).isEmpty)&& !(!(aO T.dec a).isEmpty&& !r)&&(decide (aH T b=0)||decide (aH T (lastT T.dec a)≤aH T b)))=G:=⟨_,rfl⟩;rw [a7];have Q:=aM.len.1;have R:=aU.len.1;have FC:=ah aL;go_enter func83,ntmps83;go_wp2_with fail;refine (FC.out _ aD).mono ?_;rintro e g ⟨rfl,a8⟩;have B:Hid (Ext w g):=ah (aD.trans' a8);have bJ:=ah a8;have J:Hid (∀ w',Ext g w'→∀ k:Nat,w'.cell? ⟨w.heap.size,k,none⟩=t.v.cells[k]?):=ah (fun w' h=>aQ (bJ.out.trans' h));have P:Hid (∀ w',Ext g w'→w'.cell? ⟨m,o,none⟩=some (.int .i64 a)):=ah (fun w' h=>bn (bD (B.out.trans' h)) ga);have KB:Hid (∀ w',Ext g w'→w'.cell? ⟨m,o+1,none⟩=some (.int .i64 b)):=ah (fun w' h=>bn (bD (B.out.trans' h)) gb);have FA:Hid (∀ w',Ext g w'→Calls prog 75 #[.slice t.s9.a t.s9.n t.s9.c,.int .i64 a] w' fun e w''=>e= .returned (.slice bf C bg)∧Ext w' w''):=ah (fun w' h=>aR w' (B.out.trans' h));have FB:Hid (∀ w',Ext g w'→Calls prog 75 #[.slice t.s9.a t.s9.n t.s9.c,.int .i64 b] w' fun e w''=>e= .returned (.slice bh D bi)∧Ext w' w''):=ah (fun w' h=>b0 w' (B.out.trans' h));have CE:Hid (∀ w',Ext g w'→Calls prog 118 #[t.v,.int .i64 c] w' fun e w''=>e= .returned (.bool (iY T.exc c))∧Ext w' w''):=ah (fun w' h=>Wn t T c w' (HT.out.aF (B.out.trans' h)));have CC:Hid (∀ w',Ext g w'→Calls prog 85 #[t.v,.int .i64 c] w' fun e w''=>e= .returned (.int .i64 (aH T c))∧Ext w' w''):=ah (fun w' h=>yD t T c w' (HT.out.aF (B.out.trans' h)));have CA:Hid (∀ w',Ext g w'→Calls prog 85 #[t.v,.int .i64 a] w' fun e w''=>e= .returned (.int .i64 (aH T a))∧Ext w' w''):=ah (fun w' h=>yD t T a w' (HT.out.aF (B.out.trans' h)));have CB:Hid (∀ w',Ext g w'→Calls prog 85 #[t.v,.int .i64 b] w' fun e w''=>e= .returned (.int .i64 (aH T b))∧Ext w' w''):=ah (fun w' h=>yD t T b w' (HT.out.aF (B.out.trans' h)));have CL:Hid (∀ w',Ext g w'→Calls prog 85 #[t.v,.int .i64 (lastT T.dec a)] w' fun e w''=>e= .returned (.int .i64 (aH T (lastT T.dec a)))∧Ext w' w''):=ah (fun w' h=>yD t T _ w' (HT.out.aF (B.out.trans' h)));have CU:Hid (∀ w',Ext g w'→Calls prog 117 #[t.v,.int .i64 a] w' (OC w' (oD T.dec a))):=ah (fun w' h=>I8 t T a w' (HT.out.aF (B.out.trans' h)) ba);have bo:Hid ((aO T.dec a).isEmpty=false→∀ w',Ext g w'→Calls prog 83 #[t.v,.int .i64 a] w' fun e w''=>e= .returned (.bool r)∧Ext w' w''):=ah (fun he w' h=>ih he w' (B.out.trans' h))
 have b2:Hid ((aO T.dec a).isEmpty=decide (C=0)):=ah (by
  cases hq:aO T.dec a with
  |nil=>rw [hq] at Q;rw [Q];rfl
  |cons y q=>rw [hq] at Q;rw [Q];simp)
 have bp:Hid ((aO T.dec b).isEmpty=decide (D=0)):=ah (by
  cases hq:aO T.dec b with
  |nil=>rw [hq] at R;rw [R];rfl
  |cons y q=>rw [hq] at R;rw [R];simp)
 obtain ⟨vE,hE⟩:∃ v,iY T.exc c=v:=⟨_,rfl⟩;rw [hE] at CE;obtain ⟨yc,ab⟩:∃ v,aH T c=v:=⟨_,rfl⟩;obtain ⟨ya,ac⟩:∃ v,aH T a=v:=⟨_,rfl⟩;obtain ⟨A,ad⟩:∃ v,aH T b=v:=⟨_,rfl⟩;obtain ⟨yl,af⟩:∃ v,aH T (lastT T.dec a)=v:=⟨_,rfl⟩;rw [ab] at CC;rw [ac] at CA;rw [ad] at CB;rw [af] at CL
 have HV:Hid (∀ p,decide (C=0)=p→∀ q,decide (D=0)=q→G=(!(vE||decide (yc≠0)||decide (ya≠0)|| !q)&& !(!p&& !r)&&(decide (A=0)||decide (yl≤A)))):=ah (fun p hp q hq=>by
  rw [← a7,hE,ab,ac,ad,af,b2.out,bp.out,hp,hq])
 clear a7 hE ab ac ad af ih aR b0 aL aM aU hz Q R ga gb a8 ht hm ba hF a4 HT HD FC;cases vE
 case true=>
  have F:Hid (G=false):=ah (by rw [HV.out _ rfl _ rfl];rfl);clear HV;have K:∀ f:aj g,∀ k:Nat,f.w.cell? ⟨w.heap.size,k,none⟩=t.v.cells[k]? :=fun f=>J.out _ ((Ext.refl g).trans' f.h)
  have L:∀ f:aj g,f.w.cell? ⟨m,o,none⟩=some (.int .i64 a):=fun f=>P.out _ ((Ext.refl g).trans' f.h)
  have M:∀ f:aj g,f.w.cell? ⟨m,o+1,none⟩=some (.int .i64 b):=fun f=>KB.out _ ((Ext.refl g).trans' f.h)
  go_wp2_with fail;refine rX' ?_
  repeat (go_big_quiet_step (first|(go_at_call 118;with_reducible exact aN (CE.out _ ((Ext.refl g).trans' (aj.h _))))))
  refine wpQuiet_nil ?_;rintro _ ⟨x,rfl⟩;clear K L M;go_wp2_with fail;go_ret;exact ⟨aJ F.out.symm,B.out.trans' x.h⟩
 case false=>
  by_cases c1:yc=0
  case neg=>
   have F:Hid (G=false):=ah (by rw [HV.out _ rfl _ rfl];rw [decide_eq_true (p:=yc≠0) c1];rfl);have d1:(yc != 0)=true:=bN' c1;clear HV c1;have K:∀ f:aj g,∀ k:Nat,f.w.cell? ⟨w.heap.size,k,none⟩=t.v.cells[k]? :=fun f=>J.out _ ((Ext.refl g).trans' f.h)
   have L:∀ f:aj g,f.w.cell? ⟨m,o,none⟩=some (.int .i64 a):=fun f=>P.out _ ((Ext.refl g).trans' f.h)
   have M:∀ f:aj g,f.w.cell? ⟨m,o+1,none⟩=some (.int .i64 b):=fun f=>KB.out _ ((Ext.refl g).trans' f.h)
   go_wp2_with fail;refine rX' ?_
   repeat (go_big_quiet_step (first|(go_at_call 118;with_reducible exact aN (CE.out _ ((Ext.refl g).trans' (aj.h _))))|(go_at_call 85;with_reducible exact aN (CC.out _ ((Ext.refl g).trans' (aj.h _))))))
   refine wpQuiet_nil ?_;rintro _ ⟨x,rfl⟩;clear K L M;go_wp2_with fail;go_ret;exact ⟨aJ F.out.symm,B.out.trans' x.h⟩
  have d1:(yc != 0)=false:=by rw [bne_eq_false_iff_eq];exact c1
  by_cases c2:ya=0
  case neg=>
   have F:Hid (G=false):=ah (by rw [HV.out _ rfl _ rfl];rw [decide_eq_true (p:=ya≠0) c2];simp);have d2:(ya != 0)=true:=bN' c2;clear HV c1 c2;have K:∀ f:aj g,∀ k:Nat,f.w.cell? ⟨w.heap.size,k,none⟩=t.v.cells[k]? :=fun f=>J.out _ ((Ext.refl g).trans' f.h)
   have L:∀ f:aj g,f.w.cell? ⟨m,o,none⟩=some (.int .i64 a):=fun f=>P.out _ ((Ext.refl g).trans' f.h)
   have M:∀ f:aj g,f.w.cell? ⟨m,o+1,none⟩=some (.int .i64 b):=fun f=>KB.out _ ((Ext.refl g).trans' f.h)
   go_wp2_with fail;refine rX' ?_
   repeat (go_big_quiet_step (first|(go_at_call 118;with_reducible exact aN (CE.out _ ((Ext.refl g).trans' (aj.h _))))|(go_at_call 85;with_reducible exact aN (CC.out _ ((Ext.refl g).trans' (aj.h _))))|(go_at_call 85;with_reducible exact aN (CA.out _ ((Ext.refl g).trans' (aj.h _))))))
   refine wpQuiet_nil ?_;rintro _ ⟨x,rfl⟩;clear K L M;go_wp2_with fail;go_ret;exact ⟨aJ F.out.symm,B.out.trans' x.h⟩
  have d2:(ya != 0)=false:=by rw [bne_eq_false_iff_eq];exact c2
  by_cases c3:D=0
  case neg=>
   have F:Hid (G=false):=ah (by rw [HV.out _ rfl _ rfl];rw [decide_eq_false (p:=D=0) c3];simp);have d3:decide (0<D)=true:=dT';have d4:decide ((0:Int)<(D:Int))=true:=dT';clear HV c1 c2 c3;have K:∀ f:aj g,∀ k:Nat,f.w.cell? ⟨w.heap.size,k,none⟩=t.v.cells[k]? :=fun f=>J.out _ ((Ext.refl g).trans' f.h)
   have L:∀ f:aj g,f.w.cell? ⟨m,o,none⟩=some (.int .i64 a):=fun f=>P.out _ ((Ext.refl g).trans' f.h)
   have M:∀ f:aj g,f.w.cell? ⟨m,o+1,none⟩=some (.int .i64 b):=fun f=>KB.out _ ((Ext.refl g).trans' f.h)
   go_wp2_with fail;refine rX' ?_
   repeat (go_big_quiet_step (first|(go_at_call 118;with_reducible exact aN (CE.out _ ((Ext.refl g).trans' (aj.h _))))|(go_at_call 85;with_reducible exact aN (CC.out _ ((Ext.refl g).trans' (aj.h _))))|(go_at_call 85;with_reducible exact aN (CA.out _ ((Ext.refl g).trans' (aj.h _))))|(go_at_call 75;with_reducible exact aN (FB.out _ ((Ext.refl g).trans' (aj.h _))))))
   refine wpQuiet_nil ?_;rintro _ ⟨x,rfl⟩;clear K L M;go_wp2_with fail;go_ret;exact ⟨aJ F.out.symm,B.out.trans' x.h⟩
  have d3:decide (0<D)=false:=dF';have d4:decide ((0:Int)<(D:Int))=false:=dF'
  have mM:Hid (∀ p,decide (C=0)=p→G=(!(!p&& !r)&&(decide (A=0)||decide (yl≤A)))):=ah (fun p hp=>by
   rw [HV.out p hp true (by rw [au];exact c3),decide_eq_false (p:=yc≠0) (fun h=>h c1),decide_eq_false (p:=ya≠0) (fun h=>h c2)];rfl)
  clear HV c1 c2 c3;by_cases c5:C=0
  case pos=>
   have d6:decide (0<C)=false:=dF';have d7:decide ((0:Int)<(C:Int))=false:=dF';have E:Hid (G=(decide (A=0)||decide (yl≤A))):=ah (by rw [mM.out true (by rw [au];exact c5)];rfl);clear c5 mM;have K:∀ f:aj g,∀ k:Nat,f.w.cell? ⟨w.heap.size,k,none⟩=t.v.cells[k]? :=fun f=>J.out _ ((Ext.refl g).trans' f.h)
   have L:∀ f:aj g,f.w.cell? ⟨m,o,none⟩=some (.int .i64 a):=fun f=>P.out _ ((Ext.refl g).trans' f.h)
   have M:∀ f:aj g,f.w.cell? ⟨m,o+1,none⟩=some (.int .i64 b):=fun f=>KB.out _ ((Ext.refl g).trans' f.h)
   go_wp2_with fail;refine rX' ?_
   repeat (go_big_quiet_step (first|(go_at_call 118;with_reducible exact aN (CE.out _ ((Ext.refl g).trans' (aj.h _))))|(go_at_call 85;with_reducible exact aN (CC.out _ ((Ext.refl g).trans' (aj.h _))))|(go_at_call 85;with_reducible exact aN (CA.out _ ((Ext.refl g).trans' (aj.h _))))|(go_at_call 75;with_reducible exact aN (FB.out _ ((Ext.refl g).trans' (aj.h _))))))
   refine wpQuiet_nil ?_;rintro _ ⟨x,rfl⟩;have H:=ah x.h;clear K L M;have oH:∀ f:aj x.w,∀ k:Nat,f.w.cell? ⟨w.heap.size,k,none⟩=t.v.cells[k]? :=fun f=>J.out _ (H.out.trans' f.h)
   have S:∀ f:aj x.w,f.w.cell? ⟨m,o,none⟩=some (.int .i64 a):=fun f=>P.out _ (H.out.trans' f.h)
   go_wp2_with fail;refine rX' ?_
   repeat (go_big_quiet_step (first|(go_at_call 75;with_reducible exact aN (FA.out _ (H.out.trans' (aj.h _))))))
   refine wpQuiet_nil ?_;rintro _ ⟨y,rfl⟩;have U:=ah (H.out.trans' y.h);clear oH S;have iR:∀ k:Nat,y.w.drew.cell? ⟨w.heap.size,k,none⟩=t.v.cells[k]? :=J.out _ (U.out.dU);have ai:y.w.drew.cell? ⟨m,o,none⟩=some (.int .i64 a):=P.out _ (U.out.dU);go_wp2_with fail
   go_region_law ((go_simp
                   go_at_call 117;refine (CU.out _ U.out.dU).mono ?_;rintro e w3 ⟨A3,N,c3,rfl,V,am⟩;have I:=ah V;have l:=ah (U.out.dU.trans' am)
                   clear V))
   all_goals
    clear iR ai;obtain ⟨an,ao,ap,W⟩:=QD.out;obtain ⟨aq,_,_⟩:=I.out.len;obtain ⟨j,hj⟩:∃ j:Nat,N=j+1:=⟨N - 1,by omega⟩;have X:j<(oD T.dec a).1.length:=(by omega);obtain ⟨b9,o9,ar,g9⟩:=I.out.at_ X;have s:(oD T.dec a).1[j]=lastT T.dec a:=by
     rw [← W,kP,getD_lt _ _ _ (by omega)];congr 1;omega
    rw [s] at g9;subst ar;have b7:(N:Int) - 1=(j:Int):=(by omega);have bq:=z0' j;have br:(j:Int)<(N:Int):=(by omega);have bs:N≤18:=(by omega);have bt:0<N:=(by omega);have Y:∀ f:aj w3,f.w.cell? ⟨b9,o9+j,none⟩=some (.int .i64 (lastT T.dec a)):=dJ g9;clear hj s an ao ap W aq X g9 I;have jK:∀ f:aj w3,∀ k:Nat,f.w.cell? ⟨w.heap.size,k,none⟩=t.v.cells[k]? :=fun f=>J.out _ (l.out.trans' f.h)
    have Z:∀ f:aj w3,f.w.cell? ⟨m,o+1,none⟩=some (.int .i64 b):=fun f=>KB.out _ (l.out.trans' f.h)
    by_cases O:A=0
    ·have d5:(A==0)=true:=(by rw [beq_iff_eq];exact O);have F:Hid (G=true):=ah (by rw [E.out,decide_eq_true (p:=A=0) O];rfl);clear O E;go_simp;go_wp2_with fail;refine rX' ?_
     repeat (go_big_quiet_step (first|(go_at_call 85;with_reducible exact aN (CB.out _ (l.out.trans' (aj.h _))))))
     refine wpQuiet_nil ?_;rintro _ ⟨z,rfl⟩;clear jK Z Y;go_wp2_with fail;go_ret;exact ⟨aJ F.out.symm,B.out.trans' (l.out.trans' z.h)⟩
    ·have d5:(A==0)=false:=(by rw [aP];exact O);obtain ⟨d,hd⟩:∃ d,decide (yl≤A)=d:=⟨_,rfl⟩;have F:Hid (G=d):=ah (by rw [E.out,decide_eq_false (p:=A=0) O,hd];rfl);clear O E;go_simp;go_wp2_with fail;refine rX' ?_
     repeat (go_big_quiet_step (first|(go_at_call 85;with_reducible exact aN (CB.out _ (l.out.trans' (aj.h _))))|(go_at_call 85;with_reducible exact aN (CL.out _ (l.out.trans' (aj.h _))))))
     refine wpQuiet_nil ?_;rintro _ ⟨z,rfl⟩;clear jK Z Y;go_wp2_with fail;go_ret;exact ⟨aJ F.out.symm,B.out.trans' (l.out.trans' z.h)⟩
  have d6:decide (0<C)=true:=dT';have d7:decide ((0:Int)<(C:Int))=true:=dT';have FD:Hid (G=(!(!r)&&(decide (A=0)||decide (yl≤A)))):=ah (by rw [mM.out false (by rw [aA];exact c5)];rfl);have IH:=ah (bo.out (by rw [b2.out,aA];exact c5));clear c5 mM;cases r
  case false=>
   have F:Hid (G=false):=ah (by rw [FD.out];rfl);clear FD;have K:∀ f:aj g,∀ k:Nat,f.w.cell? ⟨w.heap.size,k,none⟩=t.v.cells[k]? :=fun f=>J.out _ ((Ext.refl g).trans' f.h)
   have L:∀ f:aj g,f.w.cell? ⟨m,o,none⟩=some (.int .i64 a):=fun f=>P.out _ ((Ext.refl g).trans' f.h)
   have M:∀ f:aj g,f.w.cell? ⟨m,o+1,none⟩=some (.int .i64 b):=fun f=>KB.out _ ((Ext.refl g).trans' f.h)
   go_wp2_with fail;refine rX' ?_
   repeat (go_big_quiet_step (first|(go_at_call 118;with_reducible exact aN (CE.out _ ((Ext.refl g).trans' (aj.h _))))|(go_at_call 85;with_reducible exact aN (CC.out _ ((Ext.refl g).trans' (aj.h _))))|(go_at_call 85;with_reducible exact aN (CA.out _ ((Ext.refl g).trans' (aj.h _))))|(go_at_call 75;with_reducible exact aN (FB.out _ ((Ext.refl g).trans' (aj.h _))))))
   refine wpQuiet_nil ?_;rintro _ ⟨x,rfl⟩;have H:=ah x.h;clear K L M;have oH:∀ f:aj x.w,∀ k:Nat,f.w.cell? ⟨w.heap.size,k,none⟩=t.v.cells[k]? :=fun f=>J.out _ (H.out.trans' f.h)
   have S:∀ f:aj x.w,f.w.cell? ⟨m,o,none⟩=some (.int .i64 a):=fun f=>P.out _ (H.out.trans' f.h)
   go_wp2_with fail;refine rX' ?_
   repeat (go_big_quiet_step (first|(go_at_call 75;with_reducible exact aN (FA.out _ (H.out.trans' (aj.h _))))|(go_at_call 83;with_reducible exact aN (IH.out _ (H.out.trans' (aj.h _))))))
   refine wpQuiet_nil ?_;rintro _ ⟨y,rfl⟩;have U:=ah (H.out.trans' y.h);clear oH S;go_wp2_with fail;go_ret;exact ⟨aJ F.out.symm,B.out.trans' U.out⟩
  have E:Hid (G=(decide (A=0)||decide (yl≤A))):=ah (by rw [FD.out];rfl);clear FD;have K:∀ f:aj g,∀ k:Nat,f.w.cell? ⟨w.heap.size,k,none⟩=t.v.cells[k]? :=fun f=>J.out _ ((Ext.refl g).trans' f.h)
  have L:∀ f:aj g,f.w.cell? ⟨m,o,none⟩=some (.int .i64 a):=fun f=>P.out _ ((Ext.refl g).trans' f.h)
  have M:∀ f:aj g,f.w.cell? ⟨m,o+1,none⟩=some (.int .i64 b):=fun f=>KB.out _ ((Ext.refl g).trans' f.h)
  go_wp2_with fail;refine rX' ?_
  repeat (go_big_quiet_step (first|(go_at_call 118;with_reducible exact aN (CE.out _ ((Ext.refl g).trans' (aj.h _))))|(go_at_call 85;with_reducible exact aN (CC.out _ ((Ext.refl g).trans' (aj.h _))))|(go_at_call 85;with_reducible exact aN (CA.out _ ((Ext.refl g).trans' (aj.h _))))|(go_at_call 75;with_reducible exact aN (FB.out _ ((Ext.refl g).trans' (aj.h _))))))
  refine wpQuiet_nil ?_;rintro _ ⟨x,rfl⟩;have H:=ah x.h;clear K L M;have oH:∀ f:aj x.w,∀ k:Nat,f.w.cell? ⟨w.heap.size,k,none⟩=t.v.cells[k]? :=fun f=>J.out _ (H.out.trans' f.h)
  have S:∀ f:aj x.w,f.w.cell? ⟨m,o,none⟩=some (.int .i64 a):=fun f=>P.out _ (H.out.trans' f.h)
  go_wp2_with fail;refine rX' ?_
  repeat (go_big_quiet_step (first|(go_at_call 75;with_reducible exact aN (FA.out _ (H.out.trans' (aj.h _))))|(go_at_call 83;with_reducible exact aN (IH.out _ (H.out.trans' (aj.h _))))))
  refine wpQuiet_nil ?_;rintro _ ⟨y,rfl⟩;have U:=ah (H.out.trans' y.h);clear oH S;have iR:∀ k:Nat,y.w.drew.cell? ⟨w.heap.size,k,none⟩=t.v.cells[k]? :=J.out _ (U.out.dU);have ai:y.w.drew.cell? ⟨m,o,none⟩=some (.int .i64 a):=P.out _ (U.out.dU);go_wp2_with fail
  go_region_law ((go_simp
                  go_at_call 117;refine (CU.out _ U.out.dU).mono ?_;rintro e w3 ⟨A3,N,c3,rfl,V,am⟩;have I:=ah V;have l:=ah (U.out.dU.trans' am)
                  clear V))
  all_goals
   clear iR ai;obtain ⟨an,ao,ap,W⟩:=QD.out;obtain ⟨aq,_,_⟩:=I.out.len;obtain ⟨j,hj⟩:∃ j:Nat,N=j+1:=⟨N - 1,by omega⟩;have X:j<(oD T.dec a).1.length:=(by omega);obtain ⟨b9,o9,ar,g9⟩:=I.out.at_ X;have s:(oD T.dec a).1[j]=lastT T.dec a:=by
    rw [← W,kP,getD_lt _ _ _ (by omega)];congr 1;omega
   rw [s] at g9;subst ar;have b7:(N:Int) - 1=(j:Int):=(by omega);have bq:=z0' j;have br:(j:Int)<(N:Int):=(by omega);have bs:N≤18:=(by omega);have bt:0<N:=(by omega);have Y:∀ f:aj w3,f.w.cell? ⟨b9,o9+j,none⟩=some (.int .i64 (lastT T.dec a)):=dJ g9;clear hj s an ao ap W aq X g9 I;have jK:∀ f:aj w3,∀ k:Nat,f.w.cell? ⟨w.heap.size,k,none⟩=t.v.cells[k]? :=fun f=>J.out _ (l.out.trans' f.h)
   have Z:∀ f:aj w3,f.w.cell? ⟨m,o+1,none⟩=some (.int .i64 b):=fun f=>KB.out _ (l.out.trans' f.h)
   by_cases O:A=0
   ·have d5:(A==0)=true:=(by rw [beq_iff_eq];exact O);have F:Hid (G=true):=ah (by rw [E.out,decide_eq_true (p:=A=0) O];rfl);clear O E;go_simp;go_wp2_with fail;refine rX' ?_
    repeat (go_big_quiet_step (first|(go_at_call 85;with_reducible exact aN (CB.out _ (l.out.trans' (aj.h _))))))
    refine wpQuiet_nil ?_;rintro _ ⟨z,rfl⟩;clear jK Z Y;go_wp2_with fail;go_ret;exact ⟨aJ F.out.symm,B.out.trans' (l.out.trans' z.h)⟩
   ·have d5:(A==0)=false:=(by rw [aP];exact O);obtain ⟨d,hd⟩:∃ d,decide (yl≤A)=d:=⟨_,rfl⟩;have F:Hid (G=d):=ah (by rw [E.out,decide_eq_false (p:=A=0) O,hd];rfl);clear O E;go_simp;go_wp2_with fail;refine rX' ?_
    repeat (go_big_quiet_step (first|(go_at_call 85;with_reducible exact aN (CB.out _ (l.out.trans' (aj.h _))))|(go_at_call 85;with_reducible exact aN (CL.out _ (l.out.trans' (aj.h _))))))
    refine wpQuiet_nil ?_;rintro _ ⟨z,rfl⟩;clear jK Z Y;go_wp2_with fail;go_ret;exact ⟨aJ F.out.symm,B.out.trans' (l.out.trans' z.h)⟩
theorem Yj (T:ak) (i:T.dec.length≤256) (o:mF T.dec) (n:∀ x,(aO T.dec x).length≤18):∀ (k:Nat) (t:TV) (c:Int) (w:World),aS w t T→
 (∀ a b,aO T.dec c=[a,b]→rkD T.dec a<k)→Calls prog 83 #[t.v,.int .i64 c] w fun e w'=>e= .returned (.bool (uV T k ⟨c,aO T.dec c⟩))∧Ext w w':=by
 intro k;have g:∀ l:List Int,(∀ a b,l≠[a,b])→l.length≠2:=by
  intro l f
  match l,f with
  |[],_=>simp
  |[_],_=>simp
  |[a,b],f=>exact absurd rfl (f a b)
  |_::_::_::_,_=>simp
 induction k with
 |zero=>
  intro t c w ht j;have f:∀ a b,aO T.dec c≠[a,b]:=fun a b h=>by have:=j a b h;omega
  exact Calls.tZ (Np t T c w ht (g _ f)) (Cj T 0 c _ f).symm
 |succ k ih=>
  intro t c w ht j;by_cases f:∀ a b,aO T.dec c≠[a,b]
  ·exact Calls.tZ (Np t T c w ht (g _ f)) (Cj T (k+1) c _ f).symm
  ·obtain ⟨a,b,m⟩:∃ a b,aO T.dec c=[a,b]:=Classical.byContradiction fun h=>f fun a b e=>h ⟨a,b,e⟩
   have p:=j a b m
   have h:=YR t T c a b (uV T k ⟨a,aO T.dec a⟩) w ht i o n m (fun _ w' q=>ih t a w' (ht.aF q) fun r y s=>by
    have:=D7 o (c:=a) (d:=r) (by rw [s];simp)
    omega)
   rw [m,Ob];exact h
theorem Md (T:ak) (b:T.dec.length≤256) (f:mF T.dec) (d:∀ x,(aO T.dec x).length≤18) (t:TV) (c:Int) (w:World) (ht:aS w t T):
 Calls prog 83 #[t.v,.int .i64 c] w fun e w'=>e= .returned (.bool (gZ T ⟨c,aO T.dec c⟩))∧Ext w w':=
 Yj T b f d (T.dec.length+2) t c w ht fun a _ _=>by have:=Qo f a;omega
theorem X4 (A:Option Addr) (n c:Nat) (l:List Sp) (lo f:Int) (w:World) (h:bK w ⟨A,n,c⟩ l):
 Calls prog 113 #[.slice A n c,.int .i64 lo,.int .i64 f] w fun e w'=>e= .returned (.bool (lq lo f l))∧Ext w w':=by
 obtain ⟨hn,_,_⟩:=h.len;subst hn;have Y:=ah h;clear h;by_cases M:256<l.length
 ·have m:Hid (lq lo f l=false):=ah (by unfold lq;rw [decide_eq_false (p:=(l.length:Int)≤256) (by omega)];simp);go_enter func113,ntmps113;go_wp2_with fail;go_ret;exact ⟨aJ m.out.symm,Ext.refl _⟩
 have U:Hid (lq lo f l=chain lo f (-1) (l.drop 0)):=ah (by unfold lq;rw [decide_eq_true (p:=(l.length:Int)≤256) (by omega)];simp);have aa:decide (256<l.length)=false:=by rw [aA];exact M
 go_enter func113,ntmps113;go_wp2_with fail;go_loopw [14] (fun i wr=>∃ (k:Nat) (last:Int),k≤l.length∧i= .int .i64 k∧Hid (lq lo f l=chain lo f last (l.drop k))∧ -1≤last∧(k=0→last= -1)∧Hid (∀ (Z:k - 1<l.length),0<k→l[k - 1].hi=last)∧Ext w wr) (fun i _=>l.length - (intOf i).toNat)
 case atStart=>exact ⟨0,-1,Nat.zero_le _,rfl,U,by omega,fun _=>rfl,ah (fun _ h=>by omega),Ext.refl _⟩
 case round=>
  obtain ⟨k,last,Z,rfl,Q,ab,y,mV,N⟩:=hrel;have B:=ah N;by_cases F:k<l.length
  ·obtain ⟨b,o,ha,h0,h1,V⟩:=(Y.out.ext N).at_ F;subst ha;have HD:=ah (drop_at l k F);have HX:Hid (∀ Z:k+1 - 1<l.length,0<k+1→l[k+1 - 1].hi=(l[k]'F).hi):=ah (fun _ _=>by simp)
   have zX:Hid (∀ j,k=j+1→wr.cell? ⟨b,o+j*3+1,none⟩=some (.int .i64 last)):=ah (fun j R=>by
    obtain ⟨b',o',W,_,V,_⟩:=(Y.out.ext B.out).at_ (i:=j) (by omega);injection W with W;injection W with e1 e2;subst e1 e2;have h3:=mV.out (by omega) (by omega);subst R;simp only [Nat.add_sub_cancel] at h3
    rw [V,h3])
   generalize l[k]=x at*;obtain ⟨a,d,S⟩:=x;simp only at h0 h1 V;have s:=aI Q (show _=(!(decide (a≤last)||decide (d<a)||decide (1114111<d)||decide (a<lo)||decide (f<d))&&chain lo f d (l.drop (k+1))) from by rw [HD.out];rfl);obtain ⟨G,rfl⟩:∃ G:World,G=wr:=⟨_,rfl⟩;have r:Ext G (G.alloc (.cells #[.int .i64 a,.int .i64 d,.int .i64 S] 66)):=(Ext.refl _).aB _;have D:∀ O:aj (G.alloc (.cells #[.int .i64 a,.int .i64 d,.int .i64 S] 66)),∀ q:Nat,O.w.cell? ⟨G.heap.size,q,none⟩=(#[.int .i64 a,.int .i64 d,.int .i64 S]:Array Value)[q]? :=fun O=>aQ O.h
   have al:=z0' k;have am:(k:Int)<(l.length:Int):=(by omega);clear Q HD mV U;by_cases E:a<0
   ·have m:Hid (lq lo f l=false):=ah (by
     rw [s.out];have:(decide (a≤last)||decide (d<a)||decide (1114111<d)||decide (a<lo)||decide (f<d))=true:=by
      simp only [Bool.or_eq_true,au];omega
     rw [this];rfl)
    have H:decide (a<0)=true:=(by rw [au];exact E);clear s;go_wp2_with fail;refine rX' ?_
    repeat (go_big_quiet_step (fail))
    refine wpQuiet_nil ?_;rintro _ ⟨t,rfl⟩;have g:=(B.out.trans' r).trans' t.h;clear D;go_wp2_with fail;go_ret;exact ⟨aJ m.out.symm,g⟩
   by_cases I:d<a
   ·have m:Hid (lq lo f l=false):=ah (by
     rw [s.out];have:(decide (a≤last)||decide (d<a)||decide (1114111<d)||decide (a<lo)||decide (f<d))=true:=by
      simp only [Bool.or_eq_true,au];omega
     rw [this];rfl)
    have H:decide (a<0)=false:=(by rw [aA];exact E);have K:decide (d<a)=true:=(by rw [au];exact I);clear s;go_wp2_with fail;refine rX' ?_
    repeat (go_big_quiet_step (fail))
    refine wpQuiet_nil ?_;rintro _ ⟨t,rfl⟩;have g:=(B.out.trans' r).trans' t.h;clear D;go_wp2_with fail;go_ret;exact ⟨aJ m.out.symm,g⟩
   by_cases L:1114111<d
   ·have m:Hid (lq lo f l=false):=ah (by
     rw [s.out];have:(decide (a≤last)||decide (d<a)||decide (1114111<d)||decide (a<lo)||decide (f<d))=true:=by
      simp only [Bool.or_eq_true,au];omega
     rw [this];rfl)
    have H:decide (a<0)=false:=(by rw [aA];exact E);have K:decide (d<a)=false:=(by rw [aA];exact I);have z:decide (1114111<d)=true:=(by rw [au];exact L);clear s;go_wp2_with fail;refine rX' ?_
    repeat (go_big_quiet_step (fail))
    refine wpQuiet_nil ?_;rintro _ ⟨t,rfl⟩;have g:=(B.out.trans' r).trans' t.h;clear D;go_wp2_with fail;go_ret;exact ⟨aJ m.out.symm,g⟩
   by_cases P:a<lo
   ·have m:Hid (lq lo f l=false):=ah (by
     rw [s.out];have:(decide (a≤last)||decide (d<a)||decide (1114111<d)||decide (a<lo)||decide (f<d))=true:=by
      simp only [Bool.or_eq_true,au];omega
     rw [this];rfl)
    have H:decide (a<0)=false:=(by rw [aA];exact E);have K:decide (d<a)=false:=(by rw [aA];exact I);have z:decide (1114111<d)=false:=(by rw [aA];exact L);have C:decide (a<lo)=true:=(by rw [au];exact P);clear s;go_wp2_with fail;refine rX' ?_
    repeat (go_big_quiet_step (fail))
    refine wpQuiet_nil ?_;rintro _ ⟨t,rfl⟩;have g:=(B.out.trans' r).trans' t.h;clear D;go_wp2_with fail;go_ret;exact ⟨aJ m.out.symm,g⟩
   by_cases T:f<d
   ·have m:Hid (lq lo f l=false):=ah (by
     rw [s.out];have:(decide (a≤last)||decide (d<a)||decide (1114111<d)||decide (a<lo)||decide (f<d))=true:=by
      simp only [Bool.or_eq_true,au];omega
     rw [this];rfl)
    have H:decide (a<0)=false:=(by rw [aA];exact E);have K:decide (d<a)=false:=(by rw [aA];exact I);have z:decide (1114111<d)=false:=(by rw [aA];exact L);have C:decide (a<lo)=false:=(by rw [aA];exact P);have J:decide (f<d)=true:=(by rw [au];exact T);clear s;go_wp2_with fail;refine rX' ?_
    repeat (go_big_quiet_step (fail))
    refine wpQuiet_nil ?_;rintro _ ⟨t,rfl⟩;have g:=(B.out.trans' r).trans' t.h;clear D;go_wp2_with fail;go_ret;exact ⟨aJ m.out.symm,g⟩
   rcases Nat.eq_zero_or_pos k with hz|a5
   ·obtain rfl:=y hz;have dk:decide (0<k)=false:=dF';clear hz y
    have m:Hid (lq lo f l=chain lo f d (l.drop (k+1))):=ah (by
     rw [s.out];have:(decide (a≤(-1))||decide (d<a)||decide (1114111<d)||decide (a<lo)||decide (f<d))=false:=by
      simp only [Bool.or_eq_false_iff,aA];omega
     rw [this];rfl)
    have H:decide (a<0)=false:=(by rw [aA];exact E);have K:decide (d<a)=false:=(by rw [aA];exact I);have z:decide (1114111<d)=false:=(by rw [aA];exact L);have C:decide (a<lo)=false:=(by rw [aA];exact P);have J:decide (f<d)=false:=(by rw [aA];exact T);clear s;go_wp2_with fail;refine rX' ?_
    repeat (go_big_quiet_step (fail))
    refine wpQuiet_nil ?_;rintro _ ⟨t,rfl⟩;have g:=(B.out.trans' r).trans' t.h;clear D;go_wp2_with fail;go_roundw
    case rel=>exact ⟨k+1,d,by omega,by go_num,m,by omega,fun h=>by omega,HX,g⟩
    case measure=>simp [intOf];omega
   ·obtain ⟨j,R⟩:∃ j,k=j+1:=⟨k - 1,by omega⟩;have hp:=zX.out j R;have rP:∀ O:aj (G.alloc (.cells #[.int .i64 a,.int .i64 d,.int .i64 S] 66)),O.w.cell? ⟨b,o+j*3+1,none⟩=some (.int .i64 last):=dJ (bn (bD r) hp);have dk:decide (0<k)=true:=dT';have a7:(k:Int) - 1=(j:Int):=(by omega);have ao:=z0' j;have ap:(j:Int)<(l.length:Int):=(by omega);clear R hp y;by_cases c6:a≤last
    ·have m:Hid (lq lo f l=false):=ah (by
      rw [s.out];have:(decide (a≤last)||decide (d<a)||decide (1114111<d)||decide (a<lo)||decide (f<d))=true:=by
       simp only [Bool.or_eq_true,au];omega
      rw [this];rfl)
     have H:decide (a<0)=false:=(by rw [aA];exact E);have K:decide (d<a)=false:=(by rw [aA];exact I);have z:decide (1114111<d)=false:=(by rw [aA];exact L);have C:decide (a<lo)=false:=(by rw [aA];exact P);have J:decide (f<d)=false:=(by rw [aA];exact T);have X:decide (a≤last)=true:=(by rw [au];exact c6);clear s;go_wp2_with fail;refine rX' ?_
     repeat (go_big_quiet_step (fail))
     refine wpQuiet_nil ?_;rintro _ ⟨t,rfl⟩;have g:=(B.out.trans' r).trans' t.h;clear D;go_wp2_with fail;go_ret;exact ⟨aJ m.out.symm,g⟩
    ·have m:Hid (lq lo f l=chain lo f d (l.drop (k+1))):=ah (by
      rw [s.out];have:(decide (a≤last)||decide (d<a)||decide (1114111<d)||decide (a<lo)||decide (f<d))=false:=by
       simp only [Bool.or_eq_false_iff,aA];omega
      rw [this];rfl)
     have H:decide (a<0)=false:=(by rw [aA];exact E);have K:decide (d<a)=false:=(by rw [aA];exact I);have z:decide (1114111<d)=false:=(by rw [aA];exact L);have C:decide (a<lo)=false:=(by rw [aA];exact P);have J:decide (f<d)=false:=(by rw [aA];exact T);have X:decide (a≤last)=false:=(by rw [aA];exact c6);clear s;go_wp2_with fail;refine rX' ?_
     repeat (go_big_quiet_step (fail))
     refine wpQuiet_nil ?_;rintro _ ⟨t,rfl⟩;have g:=(B.out.trans' r).trans' t.h;clear D;go_wp2_with fail;go_roundw
     case rel=>exact ⟨k+1,d,by omega,by go_num,m,by omega,fun h=>by omega,HX,g⟩
     case measure=>simp [intOf];omega
  ·have m:=aI Q (show _=true from by rw [bW l k (by omega)];rfl);clear Q U;go_wp2_with fail;go_ret;exact ⟨aJ m.out.symm,B.out⟩
def zZ:List (List Sp)→Bool
 |[]=>true
 |c::r=>decide ((c.length:Int)≤256)&&zZ r
theorem ZY (T:ak):wE (cols T)=zZ (ny T):=rfl
theorem XF (t:TV) (T:ak) (w:World) (ht:aS w t T):
 Calls prog 77 #[t.v] w fun e w'=>e= .returned (.bool (iZ T))∧Ext w w':=by
 have O:Hid (iZ T=(zZ (ny T)&&(nO (maps T)&&decide ((T.exc.length:Int)≤256)))):=ah (by rw [iZ,ZY,Bool.and_assoc,Bool.and_comm,Bool.and_assoc]);obtain ⟨C,_,_⟩:=ht.exc.len;have D:(ny T).length=7:=rfl;have E:(maps T).length=4:=rfl;have X:=ah C;clear C;have F:=dS w t;go_enter func77,ntmps77;go_wp2_with fail;refine (Hl t T _ (ht.aF F)).mono ?_;rintro e Y ⟨b1,b2,rfl,P,_,m⟩;have U:=F.trans' m;generalize ny T=cl at*;have G:=ah D;clear D;go_wp2_with fail;go_loopw [17] (fun i wr=>∃ (k:Nat),k≤7∧i= .int .i64 k∧Hid (iZ T=(zZ (cl.drop k)&&(nO (maps T)&&decide ((T.exc.length:Int)≤256))))∧Ext Y wr) (fun i _=>7 - (intOf i).toNat)
 case atStart=>exact ⟨0,Nat.zero_le _,rfl,O,Ext.refl _⟩
 case round=>
  obtain ⟨k,hk,rfl,M,c⟩:=hrel;have g:=aQ (m.trans' c);by_cases Q:k<7
  ·have a:k<cl.length:=by rw [G.out];exact Q
   obtain ⟨b,o,Z,zn,zc,q,R,A⟩:=(P.ext c).at_ a;injection q with q;injection q with r s;subst r s;have H:Hid (cl.drop k=cl[k]::cl.drop (k+1)):=drop_at cl k a;generalize cl[k]=x at*;simp only [Nat.zero_add] at R A;obtain ⟨y,_,_⟩:=A.len;subst y;have h:=aI M (show _=(decide ((x.length:Int)≤256)&&(zZ (cl.drop (k+1))&&(nO (maps T)&&decide ((T.exc.length:Int)≤256)))) from by rw [H.out,zZ,Bool.and_assoc]);clear A M H O g;by_cases N:256<x.length
   ·have d:Hid (iZ T=false):=ah (by rw [h.out,decide_eq_false (p:=(x.length:Int)≤256) (by omega)];rfl);clear h;go_wp2_with fail;go_ret;exact ⟨aJ d.out.symm,U.trans' c⟩
   ·have d:=aI h (show _=(zZ (cl.drop (k+1))&&(nO (maps T)&&decide ((T.exc.length:Int)≤256))) from by rw [decide_eq_true (p:=(x.length:Int)≤256) (by omega)];rfl);clear h;go_wp2_with fail;go_roundw
    case rel=>exact ⟨k+1,by omega,by go_num,d,c⟩
    case measure=>simp [intOf];omega
  ·have z:=aI M (show _=(nO (maps T)&&decide ((T.exc.length:Int)≤256)) from by rw [bW cl k (by rw [G.out];omega)];rfl);clear M O;have V:=U.trans' c;go_wp2_with fail;refine (GH t T _ (ht.aF V)).mono ?_;rintro e w2 ⟨b3,rfl,I,J⟩;have S:=V.trans' J;generalize maps T=ml at*;have W:=ah E;clear E g;go_wp2_with fail;go_loopw [29] (fun i wr=>∃ (k:Nat),k≤4∧i= .int .i64 k∧Hid (iZ T=(nO (ml.drop k)&&decide ((T.exc.length:Int)≤256)))∧Ext w2 wr) (fun i _=>4 - (intOf i).toNat)
   case atStart=>exact ⟨0,Nat.zero_le _,rfl,z,Ext.refl _⟩
   case round=>
    obtain ⟨f,a3,rfl,j,B⟩:=hrel;have g:=aQ ((m.trans' c).trans' (J.trans' B));by_cases K:f<4
    ·have a:f<ml.length:=(by rw [W.out];exact K);obtain ⟨b,o,Z,zn,zc,q,R,A⟩:=(I.ext B).at_ a;injection q with q;injection q with r s;subst r s;have H:Hid (ml.drop f=ml[f]::ml.drop (f+1)):=drop_at ml f a;generalize ml[f]=x at*;simp only [Nat.zero_add] at R;obtain ⟨y,_,_⟩:=A.len;subst y;have h:=aI j (show _=(decide ((x.length:Int)≤256)&&(nO (ml.drop (f+1))&&decide ((T.exc.length:Int)≤256))) from by rw [H.out,nO,Bool.and_assoc]);clear A j H z g;by_cases N:256<x.length
     ·have d:Hid (iZ T=false):=ah (by rw [h.out,decide_eq_false (p:=(x.length:Int)≤256) (by omega)];rfl);clear h;go_wp2_with fail;go_ret;exact ⟨aJ d.out.symm,S.trans' B⟩
     ·have d:=aI h (show _=(nO (ml.drop (f+1))&&decide ((T.exc.length:Int)≤256)) from by rw [decide_eq_true (p:=(x.length:Int)≤256) (by omega)];rfl);clear h;go_wp2_with fail;go_roundw
      case rel=>exact ⟨f+1,by omega,by go_num,d,B⟩
      case measure=>simp [intOf];omega
    ·have L:=aI j (show _=decide ((T.exc.length:Int)≤256) from by rw [bW ml f (by rw [W.out];omega)];rfl);have l:Hid (iZ T=decide ((t.s10.n:Int)≤256)):=ah (by rw [L.out,X.out]);clear j z L;by_cases N:t.s10.n≤256
     ·have d:Hid (iZ T=true):=ah (by rw [l.out,au];omega);have d1:decide ((t.s10.n:Int)≤256)=true:=dT';have d2:decide (t.s10.n≤256)=true:=dT';clear N l;go_wp2_with fail;go_ret;exact ⟨aJ d.out.symm,S.trans' B⟩
     ·have d:Hid (iZ T=false):=ah (by rw [l.out,aA];omega);have d1:decide ((t.s10.n:Int)≤256)=false:=dF';have d2:decide (t.s10.n≤256)=false:=dF';clear N l;go_wp2_with fail;go_ret;exact ⟨aJ d.out.symm,S.trans' B⟩
theorem aHU (T:ak):∀ k,k<7→∃ xl x1 x2,(cols T).drop k=(xl,x1,x2)::(cols T).drop (k+1)∧(ny T)[k]? =some xl∧xA[k]? =some x2∧x1=if k=1∨k=6 then 1 else 0
 |0,_|1,_|2,_|3,_|4,_|5,_|6,_=>⟨_,_,_,rfl,rfl,rfl,rfl⟩
theorem X8 (t:TV) (T:ak) (w:World) (ht:aS w t T):
 Calls prog 79 #[t.v] w fun e w'=>e= .returned (.bool (valuesB T))∧Ext w w':=by
 have HB:Hid (valuesB T=oq ((cols T).drop 0)):=rfl;have a6:Hid (∀ k,k<7→∃ g m c,(cols T).drop k=(g,m,c)::(cols T).drop (k+1)∧(ny T)[k]? =some g∧xA[k]? =some c∧m=if k=1∨k=6 then 1 else 0):=ah (aHU T);have K:(ny T).length=7:=rfl;have L:xA.length=7:=rfl;have HN:Hid (∀ k,7≤k→oq ((cols T).drop k)=true):=ah (fun k hk=>by rw [bW (cols T) k hk];rfl);have M:=dS w t;go_enter func79,ntmps79;go_wp2_with fail;refine (Hl t T _ (ht.aF M)).mono ?_;rintro e w1 ⟨b1,b2,rfl,N,O,a7⟩;have P:=M.trans' a7;generalize cols T=cl at*;generalize ny T=sl at*;generalize xA=ml at*;have aw:=ah K;have ax:=ah L;have a8:=ah N;have a9:=ah O;clear K L N O;go_wp2_with fail;go_loopw [16] (fun i wr=>∃ (k:Nat),k≤7∧i= .int .i64 k∧Hid (valuesB T=oq (cl.drop k))∧Ext w1 wr) (fun i _=>7 - (intOf i).toNat)
 case atStart=>exact ⟨0,Nat.zero_le _,rfl,HB,Ext.refl _⟩
 case round=>
  obtain ⟨k,hk,rfl,Z,l⟩:=hrel;by_cases aa:k<7
  ·obtain ⟨g,m,c,hd,f,Q,R⟩:=a6.out k aa;obtain ⟨b,o,za,zn,zc,x,h0,h1⟩:=(a8.out.ext l).2 k g f;injection x with x;injection x with A B;subst A B;obtain ⟨b',o',x,h2⟩:=(a9.out.ext l).2 k c Q;injection x with x;injection x with A B;subst A B;simp only [Nat.zero_add] at h0 h1 h2;obtain ⟨ac,_,_⟩:=h1.len;subst ac;have H1:=ah h1;have F:=ah R;have H2:=ah h2;have C:=aI Z (show _=(valuesL m c g&&oq (cl.drop (k+1))) from by rw [hd];rfl);clear h1 hd f Q R Z h2;have aD:=z0' k;have aE:(k:Int)<7:=(by omega);obtain ⟨wo,rfl⟩:∃ wo:World,wo=wr:=⟨_,rfl⟩;go_wp2_with fail;clear h0;go_loopw [23] (fun i wi=>∃ (j:Nat),j≤g.length∧i= .int .i64 j∧Hid (valuesB T=(valuesL m c (g.drop j)&&oq (cl.drop (k+1))))∧Ext wo wi) (fun i _=>g.length - (intOf i).toNat)
   case atStart=>exact ⟨0,Nat.zero_le _,rfl,C,Ext.refl _⟩
   case round=>
    obtain ⟨j,hj,rfl,HI,D⟩:=hrel;have E:=ah D;by_cases dZ:j<g.length
    ·obtain ⟨bb,oo,x,g0,g1,g2⟩:=(H1.out.ext D).at_ dZ;subst x;have HJ:Hid (g.drop j=g[j]::g.drop (j+1)):=drop_at g j dZ;generalize g[j]=y at*;obtain ⟨yl,yh,a⟩:=y;simp only at g0 g1 g2;have p:=aI HI (show _=(!(decide (a<m)||decide (c<a))&&(valuesL m c (g.drop (j+1))&&oq (cl.drop (k+1)))) from by rw [HJ.out,valuesL,Bool.and_assoc]);obtain ⟨z,rfl⟩:∃ z:World,z=wr:=⟨_,rfl⟩;have S:z.cell? ⟨b2,k,none⟩=some (.int .i64 c):=bn (bD D) H2.out;have f:Ext z (z.alloc (.cells #[.int .i64 yl,.int .i64 yh,.int .i64 a] 66)):=(Ext.refl _).aB _;have G:∀ U:aj (z.alloc (.cells #[.int .i64 yl,.int .i64 yh,.int .i64 a] 66)),∀ q:Nat,U.w.cell? ⟨z.heap.size,q,none⟩=(#[.int .i64 yl,.int .i64 yh,.int .i64 a]:Array Value)[q]? :=fun U=>aQ U.h
     have H:∀ U:aj (z.alloc (.cells #[.int .i64 yl,.int .i64 yh,.int .i64 a] 66)),U.w.cell? ⟨b2,k,none⟩=some (.int .i64 c):=dJ (bn (bD f) S);clear HI HJ C S;by_cases I:a<0
     ·have n:Hid (valuesB T=false):=ah (by
       have s:=F.out;rw [p.out];have:(decide (a<m)||decide (c<a))=true:=by
        simp only [Bool.or_eq_true,au];split at s<;>omega
       rw [this];rfl)
      have V:decide (a<0)=true:=(by rw [au];exact I);clear p;go_wp2_with fail;refine rX' ?_
      repeat (go_big_quiet_step (fail))
      refine wpQuiet_nil ?_;rintro _ ⟨r,rfl⟩;have d:=(E.out.trans' f).trans' r.h;clear G H;go_wp2_with fail;go_ret;exact ⟨aJ n.out.symm,P.trans' (l.trans' d)⟩
     by_cases J:c<a
     ·have n:Hid (valuesB T=false):=ah (by
       have s:=F.out;rw [p.out];have:(decide (a<m)||decide (c<a))=true:=by
        simp only [Bool.or_eq_true,au];exact .inr J
       rw [this];rfl)
      have V:decide (a<0)=false:=(by rw [aA];exact I);have jL:decide (c<a)=true:=(by rw [au];exact J);clear p;go_wp2_with fail;refine rX' ?_
      repeat (go_big_quiet_step (fail))
      refine wpQuiet_nil ?_;rintro _ ⟨r,rfl⟩;have d:=(E.out.trans' f).trans' r.h;clear G H;go_wp2_with fail;go_ret;exact ⟨aJ n.out.symm,P.trans' (l.trans' d)⟩
     by_cases W:a=0
     ·have e3:(a==0)=true:=(by rw [beq_iff_eq];exact W);by_cases k1:k=1
      ·have n:Hid (valuesB T=false):=ah (by
        have s:=F.out;rw [p.out];have:(decide (a<m)||decide (c<a))=true:=by
         simp only [Bool.or_eq_true,au];rw [if_pos (.inl k1)] at s;omega
        rw [this];rfl)
       have V:decide (a<0)=false:=(by rw [aA];exact I);have jL:decide (c<a)=false:=(by rw [aA];exact J);have X:((k:Int)==1)=true:=(by rw [beq_iff_eq];omega);have Y:(k==1)=true:=(by rw [beq_iff_eq];omega);clear k1 W;clear p;go_wp2_with fail;refine rX' ?_
       repeat (go_big_quiet_step (fail))
       refine wpQuiet_nil ?_;rintro _ ⟨r,rfl⟩;have d:=(E.out.trans' f).trans' r.h;clear G H;go_wp2_with fail;go_ret;exact ⟨aJ n.out.symm,P.trans' (l.trans' d)⟩
      ·by_cases k6:k=6
       ·have n:Hid (valuesB T=false):=ah (by
         have s:=F.out;rw [p.out];have:(decide (a<m)||decide (c<a))=true:=by
          simp only [Bool.or_eq_true,au];rw [if_pos (.inr k6)] at s;omega
         rw [this];rfl)
        have V:decide (a<0)=false:=(by rw [aA];exact I);have jL:decide (c<a)=false:=(by rw [aA];exact J);have X:((k:Int)==1)=false:=bF';have Y:(k==1)=false:=bF';have af:((k:Int)==6)=true:=(by rw [beq_iff_eq];omega);have ag:(k==6)=true:=(by rw [beq_iff_eq];omega);clear k1 k6 W;clear p;go_wp2_with fail;refine rX' ?_
        repeat (go_big_quiet_step (fail))
        refine wpQuiet_nil ?_;rintro _ ⟨r,rfl⟩;have d:=(E.out.trans' f).trans' r.h;clear G H;go_wp2_with fail;go_ret;exact ⟨aJ n.out.symm,P.trans' (l.trans' d)⟩
       ·have n:Hid (valuesB T=(valuesL m c (g.drop (j+1))&&oq (cl.drop (k+1)))):=ah (by
         have s:=F.out;rw [p.out];have:(decide (a<m)||decide (c<a))=false:=by
          simp only [Bool.or_eq_false_iff,aA];rw [if_neg (by omega)] at s;omega
         rw [this];rfl)
        have V:decide (a<0)=false:=(by rw [aA];exact I);have jL:decide (c<a)=false:=(by rw [aA];exact J);have X:((k:Int)==1)=false:=bF';have Y:(k==1)=false:=bF';have af:((k:Int)==6)=false:=bF';have ag:(k==6)=false:=bF';clear k1 k6 W;clear p;go_wp2_with fail;refine rX' ?_
        repeat (go_big_quiet_step (fail))
        refine wpQuiet_nil ?_;rintro _ ⟨r,rfl⟩;have d:=(E.out.trans' f).trans' r.h;clear G H;go_wp2_with fail;go_roundw
        case rel=>exact ⟨j+1,by omega,by go_num,n,d⟩
        case measure=>simp [intOf];omega
     ·have e3:(a==0)=false:=by rw [aP];exact W
      have n:Hid (valuesB T=(valuesL m c (g.drop (j+1))&&oq (cl.drop (k+1)))):=ah (by
       have s:=F.out;rw [p.out];have:(decide (a<m)||decide (c<a))=false:=by
        simp only [Bool.or_eq_false_iff,aA];split at s<;>omega
       rw [this];rfl)
      have V:decide (a<0)=false:=(by rw [aA];exact I);have jL:decide (c<a)=false:=(by rw [aA];exact J);clear p;go_wp2_with fail;refine rX' ?_
      repeat (go_big_quiet_step (fail))
      refine wpQuiet_nil ?_;rintro _ ⟨r,rfl⟩;have d:=(E.out.trans' f).trans' r.h;clear G H;go_wp2_with fail;go_roundw
      case rel=>exact ⟨j+1,by omega,by go_num,n,d⟩
      case measure=>simp [intOf];omega
    ·have n:=aI HI (show _=oq (cl.drop (k+1)) from by rw [bW g j (by omega)];simp [valuesL]);clear HI C;go_wp2_with fail;go_roundw
     case rel=>exact ⟨k+1,by omega,by go_num,n,l.trans' E.out⟩
     case measure=>simp [intOf];omega
  ·have n:=aI Z (HN.out k (by omega));clear Z;go_wp2_with fail;go_ret;exact ⟨aJ n.out.symm,P.trans' l⟩
theorem XE (t:TV) (T:ak) (w:World) (ht:aS w t T):
 Calls prog 80 #[t.v] w fun e w'=>e= .returned (.bool (jG T))∧Ext w w':=by
 have HB:Hid (jG T=kZ ((0:Nat):Int) (maps T)):=rfl;have M:(maps T).length=4:=rfl;have N:=dS w t;go_enter func80,ntmps80;go_wp2_with fail;refine (GH t T _ (ht.aF N)).mono ?_;rintro e w1 ⟨b1,rfl,O,a2⟩;have E:=N.trans' a2;generalize maps T=ml at*;have je:=ah M;clear M;go_wp2_with fail;go_loopw [14] (fun i wr=>∃ (k:Nat),k≤4∧i= .int .i64 k∧Hid (jG T=kZ (k:Int) (ml.drop k))∧Ext w1 wr) (fun i _=>4 - (intOf i).toNat)
 case atStart=>exact ⟨0,Nat.zero_le _,rfl,HB,Ext.refl _⟩
 case round=>
  obtain ⟨k,hk,rfl,W,g⟩:=hrel;by_cases a3:k<4
  ·have C:k<ml.length:=by rw [je.out];exact a3
   obtain ⟨b,o,za,zn,zc,A,h0,P⟩:=(O.ext g).at_ C;injection A with A;injection A with a4 a5;subst a4 a5;have HD:Hid (ml.drop k=ml[k]::ml.drop (k+1)):=drop_at ml k C;generalize ml[k]=x at*;simp only [Nat.zero_add] at h0;obtain ⟨a6,_,_⟩:=P.len;subst a6;have H1:=ah P;have F:=aI W (show _=(jr k x&&kZ ((k+1:Nat):Int) (ml.drop (k+1))) from by rw [HD.out];simp [kZ]);obtain ⟨H,Q⟩:∃ H,((k:Int)==0)=H:=⟨_,rfl⟩;have a7:=ah Q;have a8:(k==0)=H:=by
    rw [← Q];by_cases h:k=0
    ·subst h;rfl
    ·rw [beq_eq_false_iff_ne.2 h,beq_eq_false_iff_ne.2 (show (k:Int)≠0 from by omega)]
   have b8:decide (0<k)= !H:=by
    rw [← a8];by_cases h:k=0
    ·subst h;rfl
    ·rw [beq_eq_false_iff_ne.2 h,decide_eq_true (p:=0<k) (by omega)];rfl
   clear W HD HB P;obtain ⟨X,rfl⟩:∃ X:World,X=wr:=⟨_,rfl⟩;go_wp2_with fail;clear h0;go_loopw [21] (fun i R=>∃ (j:Nat),j≤x.length∧i= .int .i64 j∧Hid (jG T=(jr k (x.drop j)&&kZ ((k+1:Nat):Int) (ml.drop (k+1))))∧Ext X R) (fun i _=>x.length - (intOf i).toNat)
   case atStart=>exact ⟨0,Nat.zero_le _,rfl,F,Ext.refl _⟩
   case round=>
    obtain ⟨j,hj,rfl,Y,G⟩:=hrel;have wP:=g.trans' G;by_cases dZ:j<x.length
    ·obtain ⟨bb,oo,S,yn,I,A,g0,g1,Z⟩:=(H1.out.ext G).at_ dZ;subst A;have HJ:Hid (x.drop j=x[j]::x.drop (j+1)):=drop_at x j dZ;generalize x[j]=y at*;obtain ⟨J,a⟩:=y;simp only at g0 g1 Z;obtain ⟨a9,_,_⟩:=Z.len;subst a9;have iQ:Ext wr (wr.alloc (.cells #[.int .i64 J,.slice S a.length I] 73)):=(Ext.refl _).aB _;have D:Hid (Ext X (wr.alloc (.cells #[.int .i64 J,.slice S a.length I] 73))):=ah (G.trans' iQ);have G2:=ah (Z.ext iQ)
     have HS:∀ v,(!(decide ((a.length:Int)<1)||decide (18<(a.length:Int)))&&(if H=true then kY 2 a else scalars a))=v→Hid (jG T=(v&&(jr k (x.drop (j+1))&&kZ ((k+1:Nat):Int) (ml.drop (k+1))))):=fun v U=>ah (by
      rw [Y.out,HJ.out,← U,← a7.out]
      simp [jr,Bool.and_assoc])
     have K:=ah HS;clear Y HJ F HS Z;by_cases ay:1≤a.length∧a.length≤18
     ·have m:Hid ((!(decide ((a.length:Int)<1)||decide (18<(a.length:Int))))=true):=ah (by simp;omega);have bd:decide (a.length<1)=false:=dF';have be:decide (18<a.length)=false:=dF';have bf:decide ((a.length:Int)<1)=false:=dF';have bg:decide (18<(a.length:Int))=false:=dF';cases H
      ·have d:Hid (∀ v,scalars a=v→Hid (jG T=(v&&(jr k (x.drop (j+1))&&kZ ((k+1:Nat):Int) (ml.drop (k+1)))))):=fun v U=>K.out v (by rw [m.out];simpa using U)
       clear m K;obtain ⟨wm,bh⟩:∃ wm:World,wm=wr.alloc (.cells #[.int .i64 J,.slice S a.length I] 73):=⟨_,rfl⟩;go_wp2_with fail;go_loopw [38] (fun i R=>∃ (q:Nat),q≤a.length∧i= .int .i64 q∧Hid (scalars a=scalars (a.drop q))∧wr.alloc (.cells #[.int .i64 J,.slice S a.length I] 73)=R) (fun i _=>a.length - (intOf i).toNat)
       case atStart=>exact ⟨0,Nat.zero_le _,rfl,rfl,rfl⟩
       case round=>
        obtain ⟨q,hq,rfl,n,rfl⟩:=hrel;by_cases L:q<a.length
        ·obtain ⟨b5,o5,A,g5⟩:=G2.out.at_ L;subst A;have l:Hid (a.drop q=a[q]::a.drop (q+1)):=drop_at a q L;generalize a[q]=z at*;cases B:aX z
         ·have f:=d.out false (by rw [n.out,l.out];simp [scalars,B]);have HZ:=ah B;clear n l d B;go_wp2_with (go_at_call 48;refine (yB _ _).mono ?_;rintro e w4 ⟨rfl,rfl⟩;rw [HZ.out]);go_ret;exact ⟨aJ (by rw [f.out];rfl),E.trans' (g.trans' D.out)⟩
         ·have jD:=aI n (show _=scalars (a.drop (q+1)) from by rw [l.out];simp [scalars,B]);have HZ:=ah B;clear n l B;go_wp2_with (go_at_call 48;refine (yB _ _).mono ?_;rintro e w4 ⟨rfl,rfl⟩;rw [HZ.out]);go_roundw
          case rel=>exact ⟨q+1,by omega,by go_num,jD,by trivial⟩
          case measure=>simp [intOf];omega
        ·have f:=d.out true (by rw [n.out,bW a q (by omega)];rfl);clear d n;go_wp2_with fail;go_roundw
         case rel=>exact ⟨j+1,by omega,by go_num,f,D.out⟩
         case measure=>simp [intOf];omega
      ·have d:Hid (∀ v,kY 2 a=v→Hid (jG T=(v&&(jr k (x.drop (j+1))&&kZ ((k+1:Nat):Int) (ml.drop (k+1)))))):=fun v U=>K.out v (by rw [m.out];simpa using U)
       clear m K;go_wp2_with fail;go_loopw [38] (fun i R=>∃ (q:Nat) (c:Int),q≤a.length∧i= .int .i64 q∧Hid (kY 2 a=kY c (a.drop q))∧(q=0→c=2)∧Hid (∀ (hq:q - 1<a.length),0<q→a[q - 1]=c)∧wr.alloc (.cells #[.int .i64 J,.slice S a.length I] 73)=R) (fun i _=>a.length - (intOf i).toNat)
       case atStart=>exact ⟨0,2,Nat.zero_le _,rfl,rfl,fun _=>rfl,ah (fun _ h=>by omega),rfl⟩
       case round=>
        obtain ⟨q,c,hq,rfl,n,r,mV,rfl⟩:=hrel;by_cases L:q<a.length
        ·obtain ⟨b5,o5,A,g5⟩:=G2.out.at_ L;subst A;have l:Hid (a.drop q=a[q]::a.drop (q+1)):=drop_at a q L;have HX:Hid (∀ hk:q+1 - 1<a.length,0<q+1→a[q+1 - 1]=(a[q]'L)):=ah (fun _ _=>by simp)
         have zX:Hid (∀ i,q=i+1→(wr.alloc (.cells #[.int .i64 J,.slice (some ⟨b5,o5,none⟩) a.length I] 73)).cell? ⟨b5,o5+i,none⟩=some (.int .i64 c)):=ah (fun i hj=>by
          obtain ⟨b',o',eu,P⟩:=G2.out.at_ (i:=i) (by omega);injection eu with eu;injection eu with e1 e2;subst e1 e2;have h3:=mV.out (by omega) (by omega);subst hj;simp only [Nat.add_sub_cancel] at h3
          rw [P,h3])
         generalize a[q]=z at*;have s:=aI n (show _=(!(decide (z<3)||decide (60<z)||decide (z≤c))&&kY z (a.drop (q+1))) from by rw [l.out,kY]);have bp:=z0' q;have bq:(q:Int)<(a.length:Int):=(by omega);clear n l mV;by_cases V:z<3
         ·have f:=d.out false (by
           rw [s.out];have:(decide (z<3)||decide (60<z)||decide (z≤c))=true:=by
            simp only [Bool.or_eq_true,au];omega
           rw [this];rfl)
          have iU:decide (z<3)=true:=(by rw [au];exact V);clear d s;go_wp2_with fail;go_ret;exact ⟨aJ (by rw [f.out];rfl),E.trans' (g.trans' D.out)⟩
         by_cases c2:60<z
         ·have f:=d.out false (by
           rw [s.out];have:(decide (z<3)||decide (60<z)||decide (z≤c))=true:=by
            simp only [Bool.or_eq_true,au];omega
           rw [this];rfl)
          have iU:decide (z<3)=false:=(by rw [aA];exact V);have jL:decide (60<z)=true:=(by rw [au];exact c2);clear d s;go_wp2_with fail;go_ret;exact ⟨aJ (by rw [f.out];rfl),E.trans' (g.trans' D.out)⟩
         rcases Nat.eq_zero_or_pos q with B|aR
         ·obtain rfl:=r B;have dk:decide (0<q)=false:=dF';clear B r
          have f:Hid (kY 2 a=kY z (a.drop (q+1))):=ah (by
           rw [s.out];have:(decide (z<3)||decide (60<z)||decide (z≤2))=false:=by
            simp only [Bool.or_eq_false_iff,aA];omega
           rw [this];rfl)
          have iU:decide (z<3)=false:=(by rw [aA];exact V);have jL:decide (60<z)=false:=(by rw [aA];exact c2);clear s;go_wp2_with fail;go_roundw
          case rel=>exact ⟨q+1,z,by omega,by go_num,f,fun h=>by omega,HX,by trivial⟩
          case measure=>simp [intOf];omega
         ·obtain ⟨i,hi⟩:∃ i,q=i+1:=⟨q - 1,by omega⟩;have hp:=zX.out i hi;have dk:decide (0<q)=true:=dT';have b2:(q:Int) - 1=(i:Int):=(by omega);have bs:=z0' i;have bt:(i:Int)<(a.length:Int):=(by omega);clear hi r;by_cases c3:z≤c
          ·have f:=d.out false (by
            rw [s.out];have:(decide (z<3)||decide (60<z)||decide (z≤c))=true:=by
             simp only [Bool.or_eq_true,au];omega
            rw [this];rfl)
           have iU:decide (z<3)=false:=(by rw [aA];exact V);have jL:decide (60<z)=false:=(by rw [aA];exact c2);have ag:decide (z≤c)=true:=(by rw [au];exact c3);clear d s;go_wp2_with fail;go_ret;exact ⟨aJ (by rw [f.out];rfl),E.trans' (g.trans' D.out)⟩
          ·have f:Hid (kY 2 a=kY z (a.drop (q+1))):=ah (by
            rw [s.out];have:(decide (z<3)||decide (60<z)||decide (z≤c))=false:=by
             simp only [Bool.or_eq_false_iff,aA];omega
            rw [this];rfl)
           have iU:decide (z<3)=false:=(by rw [aA];exact V);have jL:decide (60<z)=false:=(by rw [aA];exact c2);have ag:decide (z≤c)=false:=(by rw [aA];exact c3);clear s;go_wp2_with fail;go_roundw
           case rel=>exact ⟨q+1,z,by omega,by go_num,f,fun h=>by omega,HX,by trivial⟩
           case measure=>simp [intOf];omega
        ·have f:=d.out true (by rw [n.out,bW a q (by omega)];rfl);clear d n;go_wp2_with fail;go_roundw
         case rel=>exact ⟨j+1,by omega,by go_num,f,D.out⟩
         case measure=>simp [intOf];omega
     ·have f:=K.out false (by
       have:(!(decide ((a.length:Int)<1)||decide (18<(a.length:Int))))=false:=by simp;omega
       rw [this];rfl)
      clear K;by_cases ai:a.length<1
      ·go_wp2_with fail;go_ret;exact ⟨aJ (by rw [f.out];rfl),E.trans' (g.trans' D.out)⟩
      ·have al:18<a.length:=(by omega);go_wp2_with fail;go_ret;exact ⟨aJ (by rw [f.out];rfl),E.trans' (g.trans' D.out)⟩
    ·have f:=aI Y (show _=kZ ((k+1:Nat):Int) (ml.drop (k+1)) from by rw [bW x j (by omega)];simp [jr]);clear Y F;go_wp2_with fail;go_roundw
     case rel=>exact ⟨k+1,by omega,by go_num,f,wP⟩
     case measure=>simp [intOf];omega
  ·have f:=aI W (show _=true from by rw [bW ml k (by rw [je.out];omega)];simp [kZ]);clear W;go_wp2_with fail;go_ret;exact ⟨aJ f.out.symm,E.trans' g⟩
def vC:List (List Sp)→Bool
 |[]=>true
 |c::r=>lq 0 1114111 c&&oz c&&vC r
theorem YX (T:ak):pz (cols T)=vC (ny T):=rfl
theorem aIF {c:Int} (h:nameB c=true):45≤c∧c≤122:=by
 simp only [nameB,Bool.or_eq_true,aV,au] at h;omega
theorem aIG {c:Int} (h:c<45∨122<c):nameB c=false:=by
 cases a:nameB c
 ·rfl
 ·have:=aIF a;omega
def DV (b3:Bool) (last c:Int):Bool:=sU last c||(b3&&decide (last<c)&&nameB c)
theorem vk (a:Bool) (last c:Int):DV a last c=(decide (last<c)&&((decide (c≤1114111)&& !eU c)||(a&&nameB c))):=by
 unfold DV sU;cases decide (last<c)<;>cases decide (c≤1114111)<;>cases eU c<;>cases a<;>cases nameB c<;>rfl
theorem Yo (i last:Int) (m:Mp) (r:List Mp):jU i last (m::r)=(DV (i==3) last m.lo&&jU i m.lo r):=by
 rw [jU,DV,show decide (i=3)=(i==3) from by by_cases h:i=3<;>simp [h]]
theorem X7 (t:TV) (T:ak) (w:World) (ht:aS w t T):
 Calls prog 78 #[t.v] w fun e w'=>e= .returned (.bool (dM T))∧Ext w w':=by
 have HB:Hid (dM T=(vC (ny T)&&(iG 0 (maps T)&&fM (-1) T.exc))):=ah (by rw [dM,YX,Bool.and_assoc]);have ai:=ah ht.exc;have al:(ny T).length=7:=rfl;have am:(maps T).length=4:=rfl;have an:=dS w t;go_enter func78,ntmps78;go_wp2_with fail;refine (Hl t T _ (ht.aF an)).mono ?_;rintro e w1 ⟨b1,b2,rfl,ao,_,a9⟩;have dw:=an.trans' a9;generalize ny T=cl at*;have ap:=ah al;have HT:=ah ht;have bf:=ah ao;clear al ht ao;go_wp2_with fail;go_loopw [23] (fun i wr=>∃ (k:Nat),k≤7∧i= .int .i64 k∧Hid (dM T=(vC (cl.drop k)&&(iG 0 (maps T)&&fM (-1) T.exc)))∧Ext w1 wr) (fun i _=>7 - (intOf i).toNat)
 case atStart=>exact ⟨0,Nat.zero_le _,rfl,HB,Ext.refl _⟩
 case round=>
  obtain ⟨k,hk,rfl,HR,V⟩:=hrel;by_cases bh:k<7
  ·have E:k<cl.length:=by rw [ap.out];exact bh
   obtain ⟨b,o,za,zn,zc,P,h0,U⟩:=(bf.out.ext V).at_ E;injection P with P;injection P with aa ab;subst aa ab;have HD:Hid (cl.drop k=cl[k]::cl.drop (k+1)):=drop_at cl k E;generalize cl[k]=xl at*;simp only [Nat.zero_add] at h0 U;obtain ⟨W,_,_⟩:=U.len;subst W;have H1:=ah U;have g:=aI HR (show _=(lq 0 1114111 xl&&(oz xl&&(vC (cl.drop (k+1))&&(iG 0 (maps T)&&fM (-1) T.exc)))) from by rw [HD.out,vC,Bool.and_assoc,Bool.and_assoc]);clear U HR HD HB;obtain ⟨X,rfl⟩:∃ X:World,X=wr:=⟨_,rfl⟩;go_wp2_with fail;refine (X4 za _ zc xl 0 1114111 _ H1.out).mono ?_;rintro e w2 ⟨rfl,Y⟩;have uD:=V.trans' Y;cases a2:lq 0 1114111 xl
   ·have l:Hid (dM T=false):=ah (by rw [g.out,a2];rfl);clear g a2;go_wp2_with fail;go_ret;exact ⟨aJ l.out.symm,dw.trans' uD⟩
   ·have H:=aI g (show _=(oz xl&&(vC (cl.drop (k+1))&&(iG 0 (maps T)&&fM (-1) T.exc))) from by rw [a2];rfl);clear g a2 h0;go_wp2_with fail;go_loopw [32] (fun i wi=>∃ (j:Nat),j≤xl.length∧i= .int .i64 j∧Hid (dM T=(oz (xl.drop j)&&(vC (cl.drop (k+1))&&(iG 0 (maps T)&&fM (-1) T.exc))))∧Ext w2 wi) (fun i _=>xl.length - (intOf i).toNat)
    case atStart=>exact ⟨0,Nat.zero_le _,rfl,H,Ext.refl _⟩
    case round=>
     obtain ⟨j,hj,rfl,O,Q⟩:=hrel;by_cases dZ:j<xl.length
     ·obtain ⟨bb,oo,P,g0,g1,g2⟩:=((H1.out.ext Y).ext Q).at_ dZ;subst P;have HJ:Hid (xl.drop j=xl[j]::xl.drop (j+1)):=drop_at xl j dZ;generalize xl[j]=y at*;obtain ⟨d,yh,yv⟩:=y;simp only at g0 g1 g2;have g:=aI O (show _=(outsideB ⟨d,yh,yv⟩&&(oz (xl.drop (j+1))&&(vC (cl.drop (k+1))&&(iG 0 (maps T)&&fM (-1) T.exc)))) from by rw [HJ.out,oz,Bool.and_assoc]);clear O HJ H;go_wp2_with fail;refine (XC d yh yv _).mono ?_;rintro e w3 ⟨rfl,bo⟩;have vI:Ext w2 w3:=(Q.aB _).trans' bo;cases ho:outsideB ⟨d,yh,yv⟩
      ·have l:Hid (dM T=false):=ah (by rw [g.out,ho];rfl);clear ho g;go_wp2_with fail;go_ret;exact ⟨aJ l.out.symm,dw.trans' (uD.trans' vI)⟩
      ·have l:=aI g (show _=(oz (xl.drop (j+1))&&(vC (cl.drop (k+1))&&(iG 0 (maps T)&&fM (-1) T.exc))) from by rw [ho];rfl);clear ho g;go_wp2_with fail;go_roundw
       case rel=>exact ⟨j+1,by omega,by go_num,l,vI⟩
       case measure=>simp [intOf];omega
     ·have l:=aI O (show _=(vC (cl.drop (k+1))&&(iG 0 (maps T)&&fM (-1) T.exc)) from by rw [bW xl j (by omega)];rfl);clear O H;go_wp2_with fail;go_roundw
      case rel=>exact ⟨k+1,by omega,by go_num,l,uD.trans' Q⟩
      case measure=>simp [intOf];omega
  ·have H:Hid (dM T=(iG ((0:Nat):Int) (maps T)&&fM (-1) T.exc)):=aI HR (show _=_ from by rw [bW cl k (by rw [ap.out];omega)];rfl);have f:=aQ (a9.trans' V);have dG:=dw.trans' V;clear HR HB;go_wp2_with fail;refine (GH t T _ (HT.out.aF dG)).mono ?_;rintro e w2 ⟨b3,rfl,a7,Y⟩;have nH:=dG.trans' Y;have bp:Hid (Ext (tW' w t) w2):=ah ((a9.trans' V).trans' Y);have bq:=ah a7;generalize maps T=ml at*;have je:=ah am;clear am a7 f;go_wp2_with fail;go_loopw [45] (fun i wx=>∃ (k:Nat),k≤4∧i= .int .i64 k∧Hid (dM T=(iG (k:Int) (ml.drop k)&&fM (-1) T.exc))∧Ext w2 wx) (fun i _=>4 - (intOf i).toNat)
   case atStart=>exact ⟨0,Nat.zero_le _,rfl,H,Ext.refl _⟩
   case round=>
    obtain ⟨r,bE,rfl,a3,Z⟩:=hrel;by_cases az:r<4
    ·have E:r<ml.length:=(by rw [je.out];exact az);obtain ⟨b,o,za,zn,zc,P,h0,U⟩:=(bq.out.ext Z).at_ E;injection P with P;injection P with aa ab;subst aa ab;have HD:Hid (ml.drop r=ml[r]::ml.drop (r+1)):=drop_at ml r E;generalize ml[r]=x at*;simp only [Nat.zero_add] at h0;obtain ⟨W,_,_⟩:=U.len;subst W;have H1:=ah U;have I:=aI a3 (show _=(jU r (-1) x&&(iG ((r+1:Nat):Int) (ml.drop (r+1))&&fM (-1) T.exc)) from by rw [HD.out];simp [iG,Bool.and_assoc]);obtain ⟨J,SE⟩:∃ J,((r:Int)==3)=J:=⟨_,rfl⟩;have bG:(r==3)=J:=by
      rw [← SE];by_cases h:r=3
      ·subst h;rfl
      ·rw [beq_eq_false_iff_ne.2 h,beq_eq_false_iff_ne.2 (show (r:Int)≠3 from by omega)]
     have br:=ah SE;clear a3 HD U H;obtain ⟨X,rfl⟩:∃ X:World,X=wr:=⟨_,rfl⟩;go_wp2_with fail;go_loopw [52] (fun i wi=>∃ (j:Nat) (last:Int),j≤x.length∧i= .int .i64 j∧Hid (dM T=(jU r last (x.drop j)&&(iG ((r+1:Nat):Int) (ml.drop (r+1))&&fM (-1) T.exc)))∧ -1≤last∧(j=0→last= -1)∧Hid (∀ (hj:j - 1<x.length),0<j→x[j - 1].lo=last)∧Ext X wi) (fun i _=>x.length - (intOf i).toNat)
     case atStart=>exact ⟨0,-1,Nat.zero_le _,rfl,I,by omega,fun _=>rfl,ah (fun _ h=>by omega),Ext.refl _⟩
     case round=>
      obtain ⟨j,last,hj,rfl,O,bs,A,mV,Q⟩:=hrel;have R:=ah Q;by_cases dZ:j<x.length
      ·obtain ⟨bb,oo,ya,yn,yc,P,g0,g1,g2⟩:=(H1.out.ext Q).at_ dZ;subst P;have HJ:Hid (x.drop j=x[j]::x.drop (j+1)):=drop_at x j dZ;have HX:Hid (∀ hk:j+1 - 1<x.length,0<j+1→x[j+1 - 1].lo=(x[j]'dZ).lo):=ah (fun _ _=>by simp)
       have zX:Hid (∀ i,j=i+1→wr.cell? ⟨bb,oo+i*2,none⟩=some (.int .i64 last)):=ah (fun i hj=>by
        obtain ⟨b',o',_,_,_,eu,U,_⟩:=(H1.out.ext R.out).at_ (i:=i) (by omega);injection eu with eu;injection eu with e1 e2;subst e1 e2;have h3:=mV.out (by omega) (by omega);subst hj;simp only [Nat.add_sub_cancel] at h3
        rw [U,h3])
       generalize x[j]=y at*;obtain ⟨d,yt⟩:=y;simp only at g0 g1;clear g2;have g:=aI O (show _=(DV J last d&&(jU r d (x.drop (j+1))&&(iG ((r+1:Nat):Int) (ml.drop (r+1))&&fM (-1) T.exc))) from by rw [HJ.out,Yo,br.out,Bool.and_assoc]);obtain ⟨wm,rfl⟩:∃ wm:World,wm=wr:=⟨_,rfl⟩;have z:Ext wm (wm.alloc (.cells #[.int .i64 d,.slice ya yn yc] 73)):=(Ext.refl _).aB _;have rS:∀ yy:aj (wm.alloc (.cells #[.int .i64 d,.slice ya yn yc] 73)),∀ q:Nat,yy.w.cell? ⟨wm.heap.size,q,none⟩=(#[.int .i64 d,.slice ya yn yc]:Array Value)[q]? :=fun yy=>aQ yy.h
       have bw:=z0' j;have bx:(j:Int)<(x.length:Int):=(by omega);clear O HJ mV I h0;by_cases C:d<0
       ·have l:Hid (dM T=false):=ah (by rw [g.out,vk];rw [decide_eq_false (p:=last<d) (by omega)];rfl);have F:decide (d<0)=true:=(by rw [au];exact C);clear g;go_wp2_with fail;refine rX' ?_
        repeat (go_big_quiet_step (fail))
        refine wpQuiet_nil ?_;rintro _ ⟨B,rfl⟩;have f:=(R.out.trans' z).trans' B.h;clear rS;go_wp2_with fail;go_ret;exact ⟨aJ l.out.symm,nH.trans' (Z.trans' f)⟩
       by_cases G:1114111<d
       ·have l:Hid (dM T=false):=ah (by rw [g.out,vk];rw [decide_eq_false (p:=d≤1114111) (by omega),aIG (.inr (by omega))];cases J<;>cases decide (last<d)<;>rfl);have F:decide (d<0)=false:=(by rw [aA];exact C);have K:decide (1114111<d)=true:=(by rw [au];exact G);clear g;go_wp2_with fail;refine rX' ?_
        repeat (go_big_quiet_step (fail))
        refine wpQuiet_nil ?_;rintro _ ⟨B,rfl⟩;have f:=(R.out.trans' z).trans' B.h;clear rS;go_wp2_with fail;go_ret;exact ⟨aJ l.out.symm,nH.trans' (Z.trans' f)⟩
       rcases Nat.eq_zero_or_pos j with hz|aR
       ·obtain rfl:=A hz;have dk:decide (0<j)=false:=dF';clear hz A;have s:Hid (∀ w':World,Calls prog 115 #[.int .i64 d] w' fun e L=>e= .returned (.bool (eU d))∧w'=L):=ah (fun w'=>BX d w');have D:Hid (∀ w':World,Calls prog 72 #[.int .i64 d] w' fun e L=>e= .returned (.bool (nameB d))∧w'=L):=ah (fun w'=>CG d w');cases m:eU d
        ·have l:Hid (dM T=(jU r d (x.drop (j+1))&&(iG ((r+1:Nat):Int) (ml.drop (r+1))&&fM (-1) T.exc))):=ah (by rw [g.out,vk];rw [decide_eq_true (p:=(-1)<d) (by omega),decide_eq_true (p:=d≤1114111) (by omega),m];rfl);have F:decide (d<0)=false:=(by rw [aA];exact C);have K:decide (1114111<d)=false:=(by rw [aA];exact G);rw [m] at s;clear m;clear g;go_wp2_with fail;refine rX' ?_
         repeat (go_big_quiet_step ((go_at_call 115;with_reducible exact kJ (s.out _))))
         refine wpQuiet_nil ?_;rintro _ ⟨B,rfl⟩;have f:=(R.out.trans' z).trans' B.h;clear rS;go_wp2_with fail;go_roundw
         case rel=>exact ⟨j+1,d,by omega,by go_num,l,by omega,fun h=>by omega,HX,f⟩
         case measure=>simp [intOf];omega
        ·cases J
         ·have l:Hid (dM T=false):=ah (by rw [g.out,vk];rw [decide_eq_true (p:=(-1)<d) (by omega),decide_eq_true (p:=d≤1114111) (by omega),m];rfl);have F:decide (d<0)=false:=(by rw [aA];exact C);have K:decide (1114111<d)=false:=(by rw [aA];exact G);rw [m] at s;clear m;clear g;go_wp2_with fail;refine rX' ?_
          repeat (go_big_quiet_step ((go_at_call 115;with_reducible exact kJ (s.out _))))
          refine wpQuiet_nil ?_;rintro _ ⟨B,rfl⟩;have f:=(R.out.trans' z).trans' B.h;clear rS;go_wp2_with fail;go_ret;exact ⟨aJ l.out.symm,nH.trans' (Z.trans' f)⟩
         ·cases S:nameB d
          ·have l:Hid (dM T=false):=ah (by rw [g.out,vk];rw [decide_eq_true (p:=(-1)<d) (by omega),decide_eq_true (p:=d≤1114111) (by omega),m];rw [S];rfl);have F:decide (d<0)=false:=(by rw [aA];exact C);have K:decide (1114111<d)=false:=(by rw [aA];exact G);rw [m] at s;rw [S] at D;clear m S;clear g;go_wp2_with fail;refine rX' ?_
           repeat (go_big_quiet_step (first|(go_at_call 115;with_reducible exact kJ (s.out _))|(go_at_call 72;with_reducible exact kJ (D.out _))))
           refine wpQuiet_nil ?_;rintro _ ⟨B,rfl⟩;have f:=(R.out.trans' z).trans' B.h;clear rS;go_wp2_with fail;go_ret;exact ⟨aJ l.out.symm,nH.trans' (Z.trans' f)⟩
          ·have l:Hid (dM T=(jU r d (x.drop (j+1))&&(iG ((r+1:Nat):Int) (ml.drop (r+1))&&fM (-1) T.exc))):=ah (by rw [g.out,vk];rw [decide_eq_true (p:=(-1)<d) (by omega),decide_eq_true (p:=d≤1114111) (by omega),m];rw [S];rfl);have F:decide (d<0)=false:=(by rw [aA];exact C);have K:decide (1114111<d)=false:=(by rw [aA];exact G);rw [m] at s;rw [S] at D;clear m S;clear g;go_wp2_with fail;refine rX' ?_
           repeat (go_big_quiet_step (first|(go_at_call 115;with_reducible exact kJ (s.out _))|(go_at_call 72;with_reducible exact kJ (D.out _))))
           refine wpQuiet_nil ?_;rintro _ ⟨B,rfl⟩;have f:=(R.out.trans' z).trans' B.h;clear rS;go_wp2_with fail;go_roundw
           case rel=>exact ⟨j+1,d,by omega,by go_num,l,by omega,fun h=>by omega,HX,f⟩
           case measure=>simp [intOf];omega
       ·obtain ⟨i,hi⟩:∃ i,j=i+1:=⟨j - 1,by omega⟩;have hp:=zX.out i hi;have rP:∀ yy:aj (wm.alloc (.cells #[.int .i64 d,.slice ya yn yc] 73)),yy.w.cell? ⟨bb,oo+i*2,none⟩=some (.int .i64 last):=dJ (bn (bD z) hp);have dk:decide (0<j)=true:=dT';have b0:(j:Int) - 1=(i:Int):=(by omega);have bB:=z0' i;have bC:(i:Int)<(x.length:Int):=(by omega);clear hi hp A;by_cases c3:d≤last
        ·have l:Hid (dM T=false):=ah (by rw [g.out,vk];rw [decide_eq_false (p:=last<d) (by omega)];rfl);have F:decide (d<0)=false:=(by rw [aA];exact C);have K:decide (1114111<d)=false:=(by rw [aA];exact G);have M:decide (d≤last)=true:=(by rw [au];exact c3);clear g;go_wp2_with fail;refine rX' ?_
         repeat (go_big_quiet_step (fail))
         refine wpQuiet_nil ?_;rintro _ ⟨B,rfl⟩;have f:=(R.out.trans' z).trans' B.h;clear rS;go_wp2_with fail;go_ret;exact ⟨aJ l.out.symm,nH.trans' (Z.trans' f)⟩
        have s:Hid (∀ w':World,Calls prog 115 #[.int .i64 d] w' fun e L=>e= .returned (.bool (eU d))∧w'=L):=ah (fun w'=>BX d w');have D:Hid (∀ w':World,Calls prog 72 #[.int .i64 d] w' fun e L=>e= .returned (.bool (nameB d))∧w'=L):=ah (fun w'=>CG d w');cases m:eU d
        ·have l:Hid (dM T=(jU r d (x.drop (j+1))&&(iG ((r+1:Nat):Int) (ml.drop (r+1))&&fM (-1) T.exc))):=ah (by rw [g.out,vk];rw [decide_eq_true (p:=last<d) (by omega),decide_eq_true (p:=d≤1114111) (by omega),m];rfl);have F:decide (d<0)=false:=(by rw [aA];exact C);have K:decide (1114111<d)=false:=(by rw [aA];exact G);have M:decide (d≤last)=false:=(by rw [aA];exact c3);rw [m] at s;clear m;clear g;go_wp2_with fail;refine rX' ?_
         repeat (go_big_quiet_step ((go_at_call 115;with_reducible exact kJ (s.out _))))
         refine wpQuiet_nil ?_;rintro _ ⟨B,rfl⟩;have f:=(R.out.trans' z).trans' B.h;clear rS;go_wp2_with fail;go_roundw
         case rel=>exact ⟨j+1,d,by omega,by go_num,l,by omega,fun h=>by omega,HX,f⟩
         case measure=>simp [intOf];omega
        ·cases J
         ·have l:Hid (dM T=false):=ah (by rw [g.out,vk];rw [decide_eq_true (p:=last<d) (by omega),decide_eq_true (p:=d≤1114111) (by omega),m];rfl);have F:decide (d<0)=false:=(by rw [aA];exact C);have K:decide (1114111<d)=false:=(by rw [aA];exact G);have M:decide (d≤last)=false:=(by rw [aA];exact c3);rw [m] at s;clear m;clear g;go_wp2_with fail;refine rX' ?_
          repeat (go_big_quiet_step ((go_at_call 115;with_reducible exact kJ (s.out _))))
          refine wpQuiet_nil ?_;rintro _ ⟨B,rfl⟩;have f:=(R.out.trans' z).trans' B.h;clear rS;go_wp2_with fail;go_ret;exact ⟨aJ l.out.symm,nH.trans' (Z.trans' f)⟩
         ·cases S:nameB d
          ·have l:Hid (dM T=false):=ah (by rw [g.out,vk];rw [decide_eq_true (p:=last<d) (by omega),decide_eq_true (p:=d≤1114111) (by omega),m];rw [S];rfl);have F:decide (d<0)=false:=(by rw [aA];exact C);have K:decide (1114111<d)=false:=(by rw [aA];exact G);have M:decide (d≤last)=false:=(by rw [aA];exact c3);rw [m] at s;rw [S] at D;clear m S;clear g;go_wp2_with fail;refine rX' ?_
           repeat (go_big_quiet_step (first|(go_at_call 115;with_reducible exact kJ (s.out _))|(go_at_call 72;with_reducible exact kJ (D.out _))))
           refine wpQuiet_nil ?_;rintro _ ⟨B,rfl⟩;have f:=(R.out.trans' z).trans' B.h;clear rS;go_wp2_with fail;go_ret;exact ⟨aJ l.out.symm,nH.trans' (Z.trans' f)⟩
          ·have l:Hid (dM T=(jU r d (x.drop (j+1))&&(iG ((r+1:Nat):Int) (ml.drop (r+1))&&fM (-1) T.exc))):=ah (by rw [g.out,vk];rw [decide_eq_true (p:=last<d) (by omega),decide_eq_true (p:=d≤1114111) (by omega),m];rw [S];rfl);have F:decide (d<0)=false:=(by rw [aA];exact C);have K:decide (1114111<d)=false:=(by rw [aA];exact G);have M:decide (d≤last)=false:=(by rw [aA];exact c3);rw [m] at s;rw [S] at D;clear m S;clear g;go_wp2_with fail;refine rX' ?_
           repeat (go_big_quiet_step (first|(go_at_call 115;with_reducible exact kJ (s.out _))|(go_at_call 72;with_reducible exact kJ (D.out _))))
           refine wpQuiet_nil ?_;rintro _ ⟨B,rfl⟩;have f:=(R.out.trans' z).trans' B.h;clear rS;go_wp2_with fail;go_roundw
           case rel=>exact ⟨j+1,d,by omega,by go_num,l,by omega,fun h=>by omega,HX,f⟩
           case measure=>simp [intOf];omega
      ·have l:=aI O (show _=(iG ((r+1:Nat):Int) (ml.drop (r+1))&&fM (-1) T.exc) from by rw [bW x j (by omega)];simp [jU]);clear O I h0;go_wp2_with fail;go_roundw
       case rel=>exact ⟨r+1,by omega,by go_num,l,Z.trans' R.out⟩
       case measure=>simp [intOf];omega
    ·have I:Hid (dM T=fM (-1) T.exc):=ah (by rw [a3.out,bW ml r (by rw [je.out];omega)];simp [iG]);have f:=Ja (bp.out.trans' Z);have uz:=nH.trans' Z;have zh:=ai.out.ext uz;clear a3 H;change aC wr ⟨t.s10.a,t.s10.n,t.s10.c⟩ T.exc at zh;generalize T.exc=xe at*;obtain ⟨W,_,_⟩:=zh.len;have b4:=ah zh;clear ai zh;generalize t.s10.a=xa at*;generalize t.s10.n=xn at*;generalize t.s10.c=xc at*;subst W;obtain ⟨X,rfl⟩:∃ X:World,X=wr:=⟨_,rfl⟩;go_wp2_with fail;go_loopw [100] (fun i wi=>∃ (j:Nat) (last:Int),j≤xe.length∧i= .int .i64 j∧Hid (dM T=fM last (xe.drop j))∧ -1≤last∧(j=0→last= -1)∧Hid (∀ (hj:j - 1<xe.length),0<j→xe[j - 1]=last)∧X=wi) (fun i _=>xe.length - (intOf i).toNat)
     case atStart=>exact ⟨0,-1,Nat.zero_le _,rfl,I,by omega,fun _=>rfl,ah (fun _ h=>by omega),rfl⟩
     case round=>
      obtain ⟨j,last,hj,rfl,O,bs,A,mV,rfl⟩:=hrel;by_cases dZ:j<xe.length
      ·obtain ⟨bb,oo,P,g0⟩:=b4.out.at_ dZ;subst P;have HJ:Hid (xe.drop j=xe[j]::xe.drop (j+1)):=drop_at xe j dZ;have HX:Hid (∀ hk:j+1 - 1<xe.length,0<j+1→xe[j+1 - 1]=(xe[j]'dZ)):=ah (fun _ _=>by simp)
       have zX:Hid (∀ i,j=i+1→X.cell? ⟨bb,oo+i,none⟩=some (.int .i64 last)):=ah (fun i hj=>by
        obtain ⟨b',o',eu,U⟩:=b4.out.at_ (i:=i) (by omega);injection eu with eu;injection eu with e1 e2;subst e1 e2;have h3:=mV.out (by omega) (by omega);subst hj;simp only [Nat.add_sub_cancel] at h3
        rw [U,h3])
       generalize xe[j]=y at*;have g:=aI O (show _=(decide (last<y)&&decide (y≤1114111)&& !eU y&&fM y (xe.drop (j+1))) from by rw [HJ.out];rfl);have bw:=z0' j;have bx:(j:Int)<(xe.length:Int):=(by omega);clear O HJ mV I;by_cases C:y<0
       ·have l:Hid (dM T=false):=ah (by rw [g.out];rw [decide_eq_false (p:=last<y) (by omega)];rfl);have F:decide (y<0)=true:=(by rw [au];exact C);clear g;go_wp2_with fail;go_ret;exact ⟨aJ l.out.symm,uz⟩
       by_cases G:1114111<y
       ·have l:Hid (dM T=false):=ah (by rw [g.out];rw [decide_eq_false (p:=y≤1114111) (by omega)];cases decide (last<y)<;>rfl);have F:decide (y<0)=false:=(by rw [aA];exact C);have K:decide (1114111<y)=true:=(by rw [au];exact G);clear g;go_wp2_with fail;go_ret;exact ⟨aJ l.out.symm,uz⟩
       rcases Nat.eq_zero_or_pos j with hz|aR
       ·obtain rfl:=A hz;have dk:decide (0<j)=false:=dF';clear hz A;cases m:eU y
        ·have l:Hid (dM T=fM y (xe.drop (j+1))):=ah (by rw [g.out];rw [decide_eq_true (p:=(-1)<y) (by omega),decide_eq_true (p:=y≤1114111) (by omega),m];rfl);have F:decide (y<0)=false:=(by rw [aA];exact C);have K:decide (1114111<y)=false:=(by rw [aA];exact G);have N:=ah m;clear m;clear g;go_wp2_with (go_at_call 115;refine (BX y _).mono ?_;rintro e w4 ⟨rfl,rfl⟩;rw [N.out]);go_roundw
         case rel=>exact ⟨j+1,y,by omega,by go_num,l,by omega,fun h=>by omega,HX,by trivial⟩
         case measure=>simp [intOf];omega
        ·have l:Hid (dM T=false):=ah (by rw [g.out];rw [decide_eq_true (p:=(-1)<y) (by omega),decide_eq_true (p:=y≤1114111) (by omega),m];rfl);have F:decide (y<0)=false:=(by rw [aA];exact C);have K:decide (1114111<y)=false:=(by rw [aA];exact G);have N:=ah m;clear m;clear g;go_wp2_with (go_at_call 115;refine (BX y _).mono ?_;rintro e w4 ⟨rfl,rfl⟩;rw [N.out]);go_ret;exact ⟨aJ l.out.symm,uz⟩
       ·obtain ⟨i,hi⟩:∃ i,j=i+1:=⟨j - 1,by omega⟩;have hp:=zX.out i hi;have dk:decide (0<j)=true:=dT';have b0:(j:Int) - 1=(i:Int):=(by omega);have bB:=z0' i;have bC:(i:Int)<(xe.length:Int):=(by omega);clear hi A;by_cases c3:y≤last
        ·have l:Hid (dM T=false):=ah (by rw [g.out];rw [decide_eq_false (p:=last<y) (by omega)];rfl);have F:decide (y<0)=false:=(by rw [aA];exact C);have K:decide (1114111<y)=false:=(by rw [aA];exact G);have M:decide (y≤last)=true:=(by rw [au];exact c3);clear g;go_wp2_with fail;go_ret;exact ⟨aJ l.out.symm,uz⟩
        cases m:eU y
        ·have l:Hid (dM T=fM y (xe.drop (j+1))):=ah (by rw [g.out];rw [decide_eq_true (p:=last<y) (by omega),decide_eq_true (p:=y≤1114111) (by omega),m];rfl);have F:decide (y<0)=false:=(by rw [aA];exact C);have K:decide (1114111<y)=false:=(by rw [aA];exact G);have M:decide (y≤last)=false:=(by rw [aA];exact c3);have N:=ah m;clear m;clear g;go_wp2_with (go_at_call 115;refine (BX y _).mono ?_;rintro e w4 ⟨rfl,rfl⟩;rw [N.out]);go_roundw
         case rel=>exact ⟨j+1,y,by omega,by go_num,l,by omega,fun h=>by omega,HX,by trivial⟩
         case measure=>simp [intOf];omega
        ·have l:Hid (dM T=false):=ah (by rw [g.out];rw [decide_eq_true (p:=last<y) (by omega),decide_eq_true (p:=y≤1114111) (by omega),m];rfl);have F:decide (y<0)=false:=(by rw [aA];exact C);have K:decide (1114111<y)=false:=(by rw [aA];exact G);have M:decide (y≤last)=false:=(by rw [aA];exact c3);have N:=ah m;clear m;clear g;go_wp2_with (go_at_call 115;refine (BX y _).mono ?_;rintro e w4 ⟨rfl,rfl⟩;rw [N.out]);go_ret;exact ⟨aJ l.out.symm,uz⟩
      ·have l:=aI O (show _=true from by rw [bW xe j (by omega)];rfl);clear O I;go_wp2_with fail;go_ret;exact ⟨aJ l.out.symm,uz⟩
def Du (T:ak) (a b:Mp):Bool:=gZ T a&&gZ T b&&decide (a.to=b.to)
def sV (T:ak) (a:Mp):List Mp→Bool
 |[]=>true
 |b::r=> !Du T a b&&sV T a r
def qL (T:ak):List Mp→List Mp→Bool
 |_,[]=>true
 |seen,m::r=>sV T m seen&&qL T (seen++[m]) r
theorem MV {T:ak} {m:Mp} (h:gZ T m=false):∀ l,sV T m l=true
 |[]=>rfl
 |b::r=>by rw [sV,Du,h,MV h r];rfl
theorem MB {T:ak} {m:Mp} (h:gZ T m=true):∀ l:List Mp,sV T m l= !((l.filter (gZ T)).map (·.to)).contains m.to
 |[]=>rfl
 |b::r=>by
  rw [sV,Du,h,MB h r];cases c:gZ T b
  ·rw [List.filter_cons_of_neg (by rw [c];simp)];simp
  ·rw [List.filter_cons_of_pos c,List.map_cons,List.contains_cons];by_cases a:m.to=b.to
   ·rw [a];simp
   ·have d:(m.to==b.to)=false:=(by rw [aP];exact a);rw [decide_eq_false a,d];simp
theorem uniq_dup (T:ak):∀ (r seen:List Mp),uniqL T ((seen.filter (gZ T)).map (·.to)) r=qL T seen r
 |[],_=>rfl
 |m::r,seen=>by
  have b:=uniq_dup T r (seen++[m]);rw [uniqL,qL,← b];cases a:gZ T m
  ·rw [if_pos rfl,MV a,List.filter_append,List.filter_cons_of_neg (by rw [a];simp),List.filter_nil,List.append_nil];rfl
  ·rw [if_neg (by simp),MB a,List.filter_append,List.filter_cons_of_pos a,List.filter_nil,List.map_append];cases ((seen.filter (gZ T)).map (·.to)).contains m.to<;>rfl
theorem unique_dup (T:ak):uniqueB T=qL T [] T.dec:=uniq_dup T T.dec []
def Ag (T:ak):Int:=if nJ T T.dX=true then 0 else 9
theorem Xq {T:ak} (a:iZ T=true) (b:dM T=true) (c:valuesB T=true) (d:jG T=true) (f:lH T=true) (g:kX T=true):
 mO T=if qY T.dec T.exc=true then (if qL T [] T.dec=true then Ag T else 8) else 7:=by
 unfold mO;rw [a,b,c,d,f,g,unique_dup];unfold tY sO Ag;cases qY T.dec T.exc<;>cases qL T [] T.dec<;>cases nJ T T.dX<;>rfl
theorem aHf (T:ak) (D:List Mp) (i:Nat) (h:i<D.length):qL T (D.take i) (D.drop i)=(sV T D[i] (D.take i)&&qL T (D.take (i+1)) (D.drop (i+1))):=by
 rw [drop_at D i h,qL,List.take_succ_eq_append_getElem h]
theorem Xg (D:List Mp) (i j:Nat) (h:j<i) (b:i≤D.length):(D.take i).drop j=D[j]'(by omega)::(D.take i).drop (j+1):=by
 have a:j<(D.take i).length:=by rw [List.length_take];omega
 rw [drop_at _ j a,List.getElem_take]
theorem GI {D:List Mp} (b:uU D) {i:Nat} (h:i<D.length):aO D D[i].lo=D[i].to:=EK i h rfl fun j a=>b j i a h
end Go.Proofs.YtjccgagakfndpaaGreatDoor
