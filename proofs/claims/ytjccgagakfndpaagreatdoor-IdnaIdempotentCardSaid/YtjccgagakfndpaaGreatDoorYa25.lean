/- Part Ya25. -/
import Derived.Test.YtjccgagakfndpaaGreatDoorYa00
namespace Go.Proofs.YtjccgagakfndpaaGreatDoor
set_option maxHeartbeats 25600000
set_option maxRecDepth 100000
def enc1 (c:Int):List Int:=
 if c≤127 then [c] else if c≤2047 then [192+c / 64,128+c % 64]
 else if c≤65535 then [224+c / 4096,128+c / 64 % 64,128+c % 64]
 else [240+c / 262144,128+c / 4096 % 64,128+c / 64 % 64,128+c % 64]
def a4l (l:List Int):List Int:=l.flatMap enc1
def a3a (b:Int):Bool:=decide (128≤b)&&decide (b≤191)
def a3b:List Int→Int × Nat
 |[]=>(0,0)
 |a::r=>
  if a≤127 then (a,1)
  else if 192≤a∧a≤223 then match r with
   |b::_=>if a3a b=true∧utfLen ((a - 192)*64+(b - 128))=2 then ((a - 192)*64+(b - 128),2) else (0,0)
   |_=>(0,0)
  else if 224≤a∧a≤239 then match r with
   |b::c::_=>if a3a b=true∧a3a c=true∧utfLen (((a - 224)*64+(b - 128))*64+(c - 128))=3 then (((a - 224)*64+(b - 128))*64+(c - 128),3) else (0,0)
   |_=>(0,0)
  else if 240≤a∧a≤247 then match r with
   |b::c::d::_=>if a3a b=true∧a3a c=true∧a3a d=true∧utfLen ((((a - 240)*64+(b - 128))*64+(c - 128))*64+(d - 128))=4 then ((((a - 240)*64+(b - 128))*64+(c - 128))*64+(d - 128),4) else (0,0)
   |_=>(0,0)
  else (0,0)
theorem a4r {c:Int} (h:bD c=true):0≤c∧c≤1114111:=by
 simp only [bD,aYr,aYu] at h;exact h.1
theorem a4m {c:Int} (h:bD c=true) (r:List Int):a3b (enc1 c++r)=(c,(enc1 c).length):=by
 have l:=a4r h;have b:utfLen c=if c≤127 then 1 else if c≤2047 then 2 else if c≤65535 then 3 else 4:=by unfold utfLen;rw [h];simp
 unfold enc1;by_cases a:c≤127
 ·simp [a,a3b]
 by_cases d:c≤2047
 ·rw [if_neg a,if_pos d];have e:(192+c / 64 - 192)*64+(128+c % 64 - 128)=c:=by omega
  have k:a3a (128+c % 64)=true:=by simp [a3a];omega
  rw [if_neg a,if_pos d] at b;show a3b ((192+c / 64)::(128+c % 64)::r)=_
  simp only [a3b];rw [if_neg (by omega),if_pos (by omega)];simp only [e];rw [if_pos ⟨k,b⟩];rfl
 by_cases f:c≤65535
 ·rw [if_neg a,if_neg d,if_pos f];have e:((224+c / 4096 - 224)*64+(128+c / 64 % 64 - 128))*64+(128+c % 64 - 128)=c:=by omega
  have g:a3a (128+c / 64 % 64)=true:=by simp [a3a];omega
  have i:a3a (128+c % 64)=true:=by simp [a3a];omega
  rw [if_neg a,if_neg d,if_pos f] at b;show a3b ((224+c / 4096)::(128+c / 64 % 64)::(128+c % 64)::r)=_
  simp only [a3b];rw [if_neg (by omega),if_neg (by omega),if_pos (by omega)];simp only [e];rw [if_pos ⟨g,i,b⟩];rfl
 ·rw [if_neg a,if_neg d,if_neg f];have e:(((240+c / 262144 - 240)*64+(128+c / 4096 % 64 - 128))*64+(128+c / 64 % 64 - 128))*64+(128+c % 64 - 128)=c:=by omega
  have g:a3a (128+c / 4096 % 64)=true:=by simp [a3a];omega
  have i:a3a (128+c / 64 % 64)=true:=by simp [a3a];omega
  have j:a3a (128+c % 64)=true:=by simp [a3a];omega
  rw [if_neg a,if_neg d,if_neg f] at b;show a3b ((240+c / 262144)::(128+c / 4096 % 64)::(128+c / 64 % 64)::(128+c % 64)::r)=_
  simp only [a3b];rw [if_neg (by omega),if_neg (by omega),if_neg (by omega),if_pos (by omega)];simp only [e];rw [if_pos ⟨g,i,j,b⟩];rfl
def a3e:Nat→List Int→List Int × Nat
 |0,_=>([],0)
 |f+1,l=>if (a3b l).2=0 then ([],0) else let d:=a3e f (l.drop (a3b l).2);((a3b l).1::d.1,(a3b l).2+d.2)
def a4A (l:List Int):List Int × Nat:=a3e l.length l
theorem a4q (l:List Int):(a3b l).2≤l.length:=by
 unfold a3b;split
 ·simp
 ·split
  ·simp
  ·split
   ·split
    ·split<;>simp
    ·simp
   ·split
    ·split
     ·split<;>simp
     ·simp
    ·split
     ·split
      ·split<;>simp
      ·simp
     ·simp
theorem a3c:∀ (f g:Nat) (l:List Int),l.length≤f→l.length≤g→a3e f l=a3e g l
 |0,0,_,_,_=>rfl
 |0,g+1,l,h,_=>by
  have:l=[]:=List.eq_nil_of_length_eq_zero (by omega);subst this;simp [a3e,a3b]
 |f+1,0,l,_,h=>by
  have:l=[]:=List.eq_nil_of_length_eq_zero (by omega);subst this;simp [a3e,a3b]
 |f+1,g+1,l,h1,h2=>by
  unfold a3e;by_cases a:(a3b l).2=0
  ·simp [a]
  ·rw [if_neg a,if_neg a];have b:(l.drop (a3b l).2).length=l.length - (a3b l).2:=List.length_drop;rw [a3c f g _ (by omega) (by omega)]
theorem a4O {l:List Int} (h:(a3b l).2≠0):a4A l=((a3b l).1::(a4A (l.drop (a3b l).2)).1,(a3b l).2+(a4A (l.drop (a3b l).2)).2):=by
 have b:=a4q l;unfold a4A;obtain ⟨n,a⟩:∃ n,l.length=n+1:=⟨l.length - 1,by omega⟩;rw [a,a3e,if_neg h,a3c n (l.drop (a3b l).2).length _ (by rw [List.length_drop];omega) (Nat.le_refl _)]
theorem a4v {l:List Int} (h:(a3b l).2=0):a4A l=([],0):=by
 unfold a4A;cases a:l.length with
 |zero=>rfl
 |succ n=>rw [a3e,if_pos h]
theorem a4p (c:Int):(enc1 c).length≠0:=by unfold enc1;split;simp;split;simp;split<;>simp
theorem a4k:∀ {l:List Int},(∀ c∈l,bD c=true)→a4A (a4l l)=(l,(a4l l).length)
 |[],_=>rfl
 |c::r,h=>by
  have a:=a4m (h c (by simp)) (a4l r);have e:a4l (c::r)=enc1 c++a4l r:=rfl;rw [e,a4O (by rw [a];exact a4p c),a];simp only [List.drop_left];rw [a4k (fun x hx=>h x (by simp [hx]))];simp
end Go.Proofs.YtjccgagakfndpaaGreatDoor
