/- keep.Tables in plain words: its decompositions, mappings and prototypes; the tables that it makes. -/
import Derived.Test.YtgfdecfcbnnemaaDoorKt
import Derived.Test.YtgfdecfcbnnemaaDoorKc
namespace Go.Proofs.YtgfdecfcbnnemaaDoor

def marksL : List Int := [0x301, 0x308, 0x323, 0x345, 0x3b1]
/-- The first element of a decomposition; what is left of the choices. -/
def decFst (k : Nat) (r : List Int) : Int × List Int :=
  if k = 0 then (97 + nxV 2 r, r.tail) else if nxV 3 r.tail = 0 then (7680 + nxV k r.tail.tail, r.tail.tail.tail) else (97 + nxV 2 r, r.tail.tail)
def decSeq (k : Nat) (r : List Int) : List Int × List Int :=
  if 0 < nxV 8 (decFst k r).2 then ([(decFst k r).1, marksL.getD (nxV 5 (decFst k r).2.tail).toNat 0], (decFst k r).2.tail.tail) else ([(decFst k r).1], (decFst k r).2.tail)
def anySame (to : List Int) : Bool → List Mp → Bool
  | b, [] => b
  | b, m :: r => anySame to (b || sameB m.to to) r
structure Decs where
  dec : List Mp
  exc : List Int
def stepD (k : Nat) (D : Decs) (r : List Int) : Decs × List Int :=
  if nxV 4 r = 0 then (D, r.tail) else
    (⟨D.dec ++ [⟨7680 + k, (decSeq k r.tail).1⟩], if anySame (decSeq k r.tail).1 (nxV 6 (decSeq k r.tail).2 == 0) D.dec = true then D.exc ++ [7680 + (k : Int)] else D.exc⟩, (decSeq k r.tail).2.tail)
/-- Rounds from k on, n of them. -/
def runD : Nat → Nat → Decs → List Int → Decs × List Int
  | 0, _, D, r => (D, r)
  | n + 1, k, D, r => runD n (k + 1) (stepD k D r).1 (stepD k D r).2

structure Mps where
  mps : List Mp
  sta : List Sp
/-- May the code point be mapped; what is left of the choices. -/
def isMapC (c : Int) (r : List Int) : Bool × List Int := if (c == 128512 || c == 7684) = true then (true, r) else if c = 947 then (nxV 2 r == 0, r.tail) else (false, r)
def mapTo (r : List Int) : List Int × List Int := (if nxV 2 r.tail = 0 then [97 + nxV 3 r, 46] else [97 + nxV 3 r], r.tail.tail)
def stepM (c st : Int) (M : Mps) (r : List Int) : Mps × List Int :=
  if (isMapC c r).1 = true then
    if 0 < nxV 3 (mapTo (isMapC c r).2).2 then (⟨M.mps ++ [⟨c, (mapTo (isMapC c r).2).1⟩], addL M.sta c c 3⟩, (mapTo (isMapC c r).2).2.tail) else (⟨M.mps, addL M.sta c c st⟩, (mapTo (isMapC c r).2).2.tail)
  else (⟨M.mps, addL M.sta c c st⟩, (isMapC c r).2)
def runM : List Int → List Int → Mps → List Int → Mps × List Int
  | c :: cs, st :: ss, M, r => runM cs ss (stepM c st M r).1 (stepM c st M r).2
  | _, _, M, r => (M, r)

def protosL : List Mp := [⟨48, [111]⟩, ⟨109, [114, 110]⟩, ⟨945, [97]⟩, ⟨1072, [97]⟩, ⟨1632, [111, 803]⟩]
def stepP (ign : List Sp) (m : Mp) (P : List Mp) (r : List Int) : List Mp × List Int :=
  (if ((nxV 3 r == 0) || (spFind ign m.lo == 1) || (spFind ign (lastI m.to) == 1)) = true then P else P ++ [m], r.tail)
def runP (ign : List Sp) : List Mp → List Mp → List Int → List Mp × List Int
  | [], P, r => (P, r)
  | m :: l, P, r => runP ign l (stepP ign m P r).1 (stepP ign m P r).2

def nilCols : Cols := ⟨[], [], [], [], [], [], []⟩
def madeC (l : List Int) : Cols × List Int := runC (nxV 3 l == 0) poolL nilCols l.tail
def madeD (l : List Int) : Decs × List Int := runD 5 0 ⟨[], []⟩ (madeC l).2
def madeM (l : List Int) : Mps × List Int := runM poolL (madeC l).1.sta ⟨[], []⟩ (madeD l).2
def madeP (l : List Int) : List Mp × List Int := runP (madeC l).1.ign protosL [] (madeM l).2
def madeE (l : List Int) : List Mp := if nxV 2 (madeP l).2 = 0 then [⟨12539, [7, 8]⟩] else []
def mkT (C : Cols) (D : Decs) (M : Mps) (P E : List Mp) : Tbl := ⟨C.cat, C.cls, C.joi, C.bid, C.scr, M.sta, C.ign, E, M.mps, D.dec, D.exc, P⟩
/-- The tables that keep.Tables makes of a list of choices. -/
def madeT (l : List Int) : Tbl := mkT (madeC l).1 (madeD l).1 (madeM l).1 (madeP l).1 (madeE l)
end Go.Proofs.YtgfdecfcbnnemaaDoor
