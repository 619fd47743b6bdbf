/- Part Ya47. -/
import Derived.Test.YtjccgagakfndpaaGreatDoorYa46
import Derived.Laws.Tables
open Go.Proofs.Tryz
namespace Go.Proofs.YtjccgagakfndpaaGreatDoor
set_option maxHeartbeats 25600000
set_option maxRecDepth 100000
open Go.RowKit
def Y4:bK:=⟨[],[],[],[],[],[],[],[],[],[],[],[]⟩
abbrev OG:TV:=⟨dR,dR,dR,dR,dR,dR,dR,dR,dR,dR,dR,dR⟩
theorem SA {w:World} (hg:Glob w):bT w OG Y4:=
 ⟨bP.nil_ _,bP.nil_ _,bP.nil_ _,bP.nil_ _,bP.nil_ _,bP.nil_ _,bP.nil_ _,fA.nil_ _,fA.nil_ _,fA.nil_ _,aX.nil_ _,fA.nil_ _,hg⟩
def aWk (w:World) (d:List Int × Int × Int) (e:Ending) (w':World):Prop:=e= .returned (.tuple #[.int .i64 d.2.1,.int .i64 d.2.2])∧Ext w w'
theorem aWi (T:bK) (t:TV) (s:List Int) (w:World) (ht:bT w t T) (d:IsB s):Calls prog 41 #[t.v,.string (sB s)] w (aWk w (aSI T s)):=by
 have a:=aUt w t;have f:=aW0 (aSS T t s (tW' w t) (ht.aQ a) d);generalize aSI T s=D at*;clear ht d;go_enter func41,ntmps41;go_wp2_with fail;refine f.out.mono ?_;rintro e g ⟨rfl,b⟩;have c:=a.trans' b;clear b;go_wp2_with fail;go_ret2;exact ⟨rfl,c⟩
theorem aw0:aSI Y4 [69,120,97,109,112,108,101]=([101,120,97,109,112,108,101],0,0):=by decide+kernel
theorem aw1:aSI Y4 [97,46,46,98]=([],1,10):=by decide+kernel
theorem aw2:aSI Y4 [120,110,45,45,57]=([],0,12):=by decide+kernel
theorem aWs (w:World) (hg:Glob w):Calls prog 14 #[] w fun e w'=>e= .returned (.bool true)∧Ext w w':=by
 have j:=aW0 hg;have d:Ext w (w.alloc (.cells #[.slice none 0 0,.slice none 0 0,.slice none 0 0,.slice none 0 0,.slice none 0 0,.slice none 0 0,.slice none 0 0,.slice none 0 0,.slice none 0 0,.slice none 0 0,.slice none 0 0,.slice none 0 0] 26)):=(Ext.refl _).aB _;have a:=aW0 d;have c0:(⟨#[69,120,97,109,112,108,101]⟩:ByteArray)=sB [69,120,97,109,112,108,101]:=rfl;have c1:(⟨#[97,46,46,98]⟩:ByteArray)=sB [97,46,46,98]:=rfl;have c2:(⟨#[120,110,45,45,57]⟩:ByteArray)=sB [120,110,45,45,57]:=rfl;have c3:(⟨#[101,120,97,109,112,108,101]⟩:ByteArray)=sB [101,120,97,109,112,108,101]:=rfl;have l:((sB [101,120,97,109,112,108,101]).toList==(sB [101,120,97,109,112,108,101]).toList)=true:=beq_self_eq_true _;have m:Hid (∀ w',Ext (w.alloc (.cells #[.slice none 0 0,.slice none 0 0,.slice none 0 0,.slice none 0 0,.slice none 0 0,.slice none 0 0,.slice none 0 0,.slice none 0 0,.slice none 0 0,.slice none 0 0,.slice none 0 0,.slice none 0 0] 26)) w'→∀ k:Nat,w'.cell? ⟨w.heap.size,k,none⟩=OG.v.cells[k]?):=aW0 (fun w' h=>aO h);have n:IsB [69,120,97,109,112,108,101]:=by unfold IsB;decide
 have o:IsB [97,46,46,98]:=by unfold IsB;decide
 have p:IsB [120,110,45,45,57]:=by unfold IsB;decide
 have q:Hid (∀ w',Ext (w.alloc (.cells #[.slice none 0 0,.slice none 0 0,.slice none 0 0,.slice none 0 0,.slice none 0 0,.slice none 0 0,.slice none 0 0,.slice none 0 0,.slice none 0 0,.slice none 0 0,.slice none 0 0,.slice none 0 0] 26)) w'→Calls prog 12 #[OG.v,.string (sB [69,120,97,109,112,108,101])] w' (aSg w' ([101,120,97,109,112,108,101],0,0))):=aW0 (fun w' h=>by
  have:=aSS Y4 OG _ w' (SA (j.out.ext (a.out.trans' h))) n
  rwa [aw0] at this)
 have r:Hid (∀ w',Ext (w.alloc (.cells #[.slice none 0 0,.slice none 0 0,.slice none 0 0,.slice none 0 0,.slice none 0 0,.slice none 0 0,.slice none 0 0,.slice none 0 0,.slice none 0 0,.slice none 0 0,.slice none 0 0,.slice none 0 0] 26)) w'→Calls prog 41 #[OG.v,.string (sB [97,46,46,98])] w' (aWk w' ([],1,10))):=aW0 (fun w' h=>by
  have:=aWi Y4 OG _ w' (SA (j.out.ext (a.out.trans' h))) o
  rwa [aw1] at this)
 have s:Hid (∀ w',Ext (w.alloc (.cells #[.slice none 0 0,.slice none 0 0,.slice none 0 0,.slice none 0 0,.slice none 0 0,.slice none 0 0,.slice none 0 0,.slice none 0 0,.slice none 0 0,.slice none 0 0,.slice none 0 0,.slice none 0 0] 26)) w'→Calls prog 41 #[OG.v,.string (sB [120,110,45,45,57])] w' (aWk w' ([],0,12))):=aW0 (fun w' h=>by
  have:=aWi Y4 OG _ w' (SA (j.out.ext (a.out.trans' h))) p
  rwa [aw2] at this)
 clear hg d n o p;go_enter func14,ntmps14;go_wp2_with fail;refine (q.out _ (Ext.refl _)).mono ?_;rintro e z ⟨rfl,f⟩;have b:=aW0 f;have t:=m.out _ b.out;clear f;go_wp2_with fail;refine (r.out _ b.out).mono ?_;rintro e A ⟨rfl,g⟩;have c:=aW0 (b.out.trans' g);have x:=m.out _ c.out;clear g t;go_wp2_with fail;refine (s.out _ c.out).mono ?_;rintro e B ⟨rfl,i⟩;have y:=a.out.trans' (c.out.trans' i);clear i x;go_wp2_with fail;go_ret;exact ⟨rfl,y⟩
end Go.Proofs.YtjccgagakfndpaaGreatDoor
