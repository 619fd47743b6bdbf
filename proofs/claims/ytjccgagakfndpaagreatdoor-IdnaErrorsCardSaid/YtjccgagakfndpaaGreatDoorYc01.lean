/- Part Yc01. -/
import Derived.Test.YtjccgagakfndpaaGreatDoorYc00
import Derived.Outline
open Go.Proofs.Tryz
namespace Go.Proofs.YtjccgagakfndpaaGreatDoor
set_option maxHeartbeats 25600000
set_option maxRecDepth 100000
open Go.RowKit
def hide (M:List Nat) (w:World):World:= {w with heap:=w.heap.mapIdx fun i o=>if i∈M then .pending #[] 0 else o}
theorem GX (M:List Nat) (w:World):(hide M w).heap.size=w.heap.size:=by simp [hide]
theorem qR (M:List Nat) (w:World) (p:Addr):(hide M w).cell? p=if p.block∈M then none else w.cell? p:=by
 unfold World.cell? hide;simp only [Array.getElem?_mapIdx];cases h:w.heap[p.block]? with
 |none=>simp
 |some o=>
  by_cases a:p.block∈M
  ·simp [a]
  ·simp [a]
structure Kp (M:List Nat) (w w':World):Prop where
 os:w'.os=w.os
 tape:w'.tape=w.tape
 output:w'.output=w.output
 size:w.heap.size≤w'.heap.size
 block:∀ k,k<w.heap.size→k∉M→w'.heap[k]? =w.heap[k]?
theorem Kp.cell {M:List Nat} {w w':World} (h:Kp M w w'):∀ p:Addr,p.block<w.heap.size→p.block∉M→w'.cell? p=w.cell? p:=fun _ a b=>World.cell?_of_block (h.block _ a b)
theorem Kp.frozen {M:List Nat} {w w':World} (h:Kp M w w'):∀ p:Addr,p.block<w.heap.size→p.block∉M→w'.frozen? p=w.frozen? p:=fun _ a b=>World.frozen?_of_block (h.block _ a b)
theorem Kp.refl (M:List Nat) (w:World):Kp M w w:=⟨rfl,rfl,rfl,Nat.le_refl _,fun _ _ _=>rfl⟩
theorem Kp.trans {M:List Nat} {a b c:World} (h:Kp M a b) (k:Kp M b c):Kp M a c:=
 ⟨k.os.trans h.os,k.tape.trans h.tape,k.output.trans h.output,Nat.le_trans h.size k.size,fun p d f=>(k.block p (Nat.lt_of_lt_of_le d h.size) f).trans (h.block p d f)⟩
theorem Kp.mono {M M':List Nat} {w w':World} (h:Kp M w w') (f:∀ b∈M,b∈M'∨w.heap.size≤b):Kp M' w w':=
 ⟨h.os,h.tape,h.output,h.size,fun p a c=>h.block p a fun d=>(f _ d).elim c (fun h=>by omega)⟩
theorem Kp.dH {M:List Nat} {w w':World} (h:Ext w w'):Kp M w w':=⟨h.b.os,h.b.tape,h.b.output,h.b.size,fun _ a _=>h.b.block _ a⟩
theorem Kp.oK {M:List Nat} {w w':World} {row:Option Nat} (h:w.grownBy w' row) (d:∀ b,row=some b→b∈M):Kp M w w':=
 ⟨h.os,h.tape,h.output,h.size,fun k a c=>h.block k a fun e=>c (d _ e.symm)⟩
theorem Kp.setCell (M:List Nat) (w:World) (p:Addr) (v:Value) (c:p.block∈M):Kp M w (w.setCell p v):=by
 refine ⟨rfl,rfl,rfl,by simp,fun k _ b=> ?_⟩;have a:p.block≠k:=fun e=>b (e▸c)
 simp [World.setCell,Array.getElem?_modify,a]
theorem Own.kp {M:List Nat} {w w':World} {f n c:Nat} {e:TypeId} {size:Nat} {A:Option Addr} {o:List Value} (h:Own w f e size A n c o) (s:Kp M w w') (t:∀ b,aG A=some b→b∉M):Own w' f e size A n c o:=by
 cases A with
 |none=>
  rcases h.2 with k|⟨g,i,j,d,_⟩
  ·exact ⟨h.1,.inl k⟩
  ·cases d
 |some a=>
  have l:=(h.lt a.block rfl).2;have p:=s.block a.block l (t _ rfl);rcases h.2 with ⟨d,_⟩|⟨g,i,j,d,q,k,r⟩
  ·cases d
  ·have m:a.block=g:=by injection d with d;injection d with d;rw [d]
   refine ⟨h.1,.inr ⟨g,i,j,d,q,?_,r⟩⟩;rw [← m,p,m];exact k
theorem wZ {M M':List Nat} {w w':World} (h:Kp M w w') (f:∀ b∈M,b∈M') (g:∀ b∈M',b∈M∨w.heap.size≤b):∀ p:Addr,p.block<(hide M w).heap.size→(hide M' w').cell? p=(hide M w).cell? p:=by
 intro p c;rw [GX] at c;rw [qR,qR];by_cases a:p.block∈M
 ·rw [if_pos a,if_pos (f _ a)]
 ·rw [if_neg a,if_neg (fun d=>(g _ d).elim a (fun h=>by omega)),h.cell p c a]
theorem fE {M:List Nat} {w w':World} (h:Kp M w w'):∀ p:Addr,p.block<(hide M w).heap.size→(hide M w').cell? p=(hide M w).cell? p:=wZ h (fun _ h=>h) (fun _ h=> .inl h)
theorem uT {M:List Nat} {w:World} {p:Addr} {v:Value} (h:(hide M w).cell? p=some v):w.cell? p=some v:=by
 rw [qR] at h;by_cases a:p.block∈M
 ·rw [if_pos a] at h;cases h
 ·rw [if_neg a] at h;exact h
theorem aC.sub {w w':World} {s:SV} {l:List Int} (h:aC w s l) (f:∀ p v,w.cell? p=some v→w'.cell? p=some v):aC w' s l:=
 ⟨h.1,fun i x a=>by obtain ⟨b,o,c,d⟩:=h.2 i x a;exact ⟨b,o,c,f _ _ d⟩⟩
theorem bK.sub {w w':World} {s:SV} {l:List Sp} (h:bK w s l) (a:∀ p v,w.cell? p=some v→w'.cell? p=some v):bK w' s l:=
 ⟨h.1,fun i x c=>by obtain ⟨b,o,d,f,g,j⟩:=h.2 i x c;exact ⟨b,o,d,a _ _ f,a _ _ g,a _ _ j⟩⟩
theorem cZ.sub {w w':World} {s:SV} {l:List Mp} (h:cZ w s l) (a:∀ p v,w.cell? p=some v→w'.cell? p=some v):cZ w' s l:=
 ⟨h.1,fun i x c=>by obtain ⟨b,o,d,f,g,j,k,m,n⟩:=h.2 i x c;exact ⟨b,o,d,f,g,j,a _ _ k,a _ _ m,n.sub a⟩⟩
def eY (v n:Int):Int:=v % 18446744073709551616 % n
def aW (n:Int):List Int→Int
 |[]=>0
 |v::_=>eY v n
theorem uM (v:Int) {n:Int} (h:0<n):0≤eY v n∧eY v n<n:=⟨Int.emod_nonneg _ (by omega),Int.emod_lt_of_pos _ h⟩
theorem jg (r:List Int) {n:Int} (h:0<n):0≤aW n r∧aW n r<n:=by
 cases r with
 |nil=>exact ⟨Int.le_refl 0,h⟩
 |cons v r=>exact uM v h
theorem u64wrap (v:Int):IntKind.u64.wrap v=v % 18446744073709551616:=rfl
theorem aIU {v n:Int} (c:0<n) (d:n≤4611686018427387904):wrap64 ((IntKind.u64.wrap v).tmod n)=eY v n:=by
 have a:0≤v % 18446744073709551616:=Int.emod_nonneg _ (by omega);have b:(v % 18446744073709551616).tmod n=eY v n:=Int.tmod_eq_emod_of_nonneg a;rw [u64wrap,b];have:=uM v c;unfold wrap64;omega
theorem kG (v n:Int) (c:0<n) (a:n≤4611686018427387904) (w:World):
 Calls prog 18 #[.int .i64 v,.int .i64 n] w fun e w'=>e= .returned (.int .i64 (eY v n))∧w=w':=by
 have b:=ah (aIU (v:=v) c a);go_enter func18,ntmps18;go_wp2_with fail;go_ret;exact ⟨aT b.out,rfl⟩
def Src (w0 w:World) (g:Nat) (r:List Int):Prop:=∃ A n c L k,aC w0 ⟨A,n,c⟩ L∧w0.heap.size≤g∧w.cell? ⟨g,0,none⟩=some (.slice A n c)∧w.cell? ⟨g,1,none⟩=some (.int .i64 (k:Nat))∧w.frozen? ⟨g,1,none⟩=false∧k≤L.length∧r=L.drop k
theorem Src.kp {i w w':World} {g:Nat} {r:List Int} {M:List Nat} (h:Src i w g r) (b:Kp M w w') (d:g∉M):Src i w' g r:=by
 obtain ⟨A,n,c,L,k,j,l,f,m,o,p,q⟩:=h;have a:=World.block_lt_of_cell? w _ f;exact ⟨A,n,c,L,k,j,l,by rw [b.cell _ a d];exact f,by rw [b.cell ⟨g,1,none⟩ a d];exact m,by rw [b.frozen ⟨g,1,none⟩ a d];exact o,p,q⟩
theorem V6 (l:List Int) (A:Option Addr) (n c:Nat) (w:World) (h:aC w ⟨A,n,c⟩ l):
 Calls prog 29 #[.slice A n c] w fun e w'=>e= .returned (.pointer (some ⟨w.heap.size,0,none⟩))∧Src w w' w.heap.size l∧Ext w w':=by
 go_enter func29,ntmps29;go_wp2_with fail;go_ret;refine ⟨rfl,⟨A,n,c,l,0,h,Nat.le_refl _,?_,?_,?_,Nat.zero_le _,rfl⟩,(Ext.refl w).aB _⟩
 ·exact World.cell?_alloc_new w _ _ 0
 ·exact World.cell?_alloc_new w _ _ 1
 ·simp
theorem jJ (j w:World) (g:Nat) (r:List Int) (m:Int) (hm:0<m) (F:m≤4611686018427387904) (hs:Src j w g r) (Q:Ext j w):
 Calls prog 30 #[.pointer (some ⟨g,0,none⟩),.int .i64 m] w fun e w'=>e= .returned (.int .i64 (aW m r))∧Src j w' g r.tail∧Kp [g] w w'∧Ext j w':=by
 obtain ⟨A,n,c,L,k,t,y,G,H,I,R,rfl⟩:=hs;obtain ⟨S,_,_⟩:=t.len;subst S;have T:=z0' k;have J:=ah t;by_cases l:k<L.length
 ·have z:=ah (drop_at L k l);obtain ⟨b,o,U,K⟩:=t.at_ l;subst U;have V:=World.block_lt_of_cell? j _ K;generalize L[k]=x at*;have W:(k:Int)<(L.length:Int):=by omega
  have X:decide ((L.length:Int)≤(k:Int))=false:=dF';have B:decide (L.length≤k)=false:=dF';go_enter func30,ntmps30;go_wp2_with fail;go_region;go_wp2_with fail;obtain ⟨d,a⟩:∃ d,d=(w.setCell ⟨g,1,none⟩ (.int .i64 ((k:Int)+1))).drew:=⟨_,rfl⟩;rw [← a];have f:Ext j d:=by rw [a];exact (Q.jT y _).dU
  have C:Kp [g] w d:=by rw [a];exact Kp.trans (Kp.setCell _ _ _ _ (by simp)) (Kp.dH (Ext.refl _).dU)
  have Y:d.cell? ⟨g,0,none⟩=some (.slice (some ⟨b,o,none⟩) L.length c):=by rw [a];exact (World.cell?_setCell_other _ _ _ _ (by simp)).trans G
  have M:d.cell? ⟨g,1,none⟩=some (.int .i64 ((k:Int)+1)):=by rw [a];exact World.cell?_setCell_same _ _ _ H
  have Z:d.frozen? ⟨g,1,none⟩=false:=by rw [a];exact (World.frozen?_setCell _ _ _ _).trans I
  have cx:d.cell? ⟨b,o+k,none⟩=some (.int .i64 x):=bn (bD f) K;clear a;have N:∀ q:aj d,q.w.cell? ⟨g,0,none⟩=some (.slice (some ⟨b,o,none⟩) L.length c):=dJ Y;have O:∀ q:aj d,q.w.cell? ⟨g,1,none⟩=some (.int .i64 ((k:Int)+1)):=dJ M;have r2:∀ q:aj d,q.w.cell? ⟨b,o+k,none⟩=some (.int .i64 x):=dJ cx;have P:(k:Int)+1 - 1=(k:Int):=by omega
  refine rX' ?_
  repeat (go_big_quiet_step ((go_at_call 18;exact kJ (kG x m hm F _))))
  refine wpQuiet_nil ?_;rintro _ ⟨i,rfl⟩;have D:Hid (aW m (L.drop k)=eY x m):=ah (by rw [z.out];rfl);have E:Hid ((L.drop k).tail=L.drop (k+1)):=ah (by rw [z.out];rfl);have e0:=N i;have e1:=O i;have ef:i.w.frozen? ⟨g,1,none⟩=false:=by rw [i.h.b.frozen (p:=⟨g,1,none⟩) (World.block_lt_of_cell? d _ M)];exact Z
  clear N O r2 z;go_wp2_with fail;go_ret;exact ⟨aT D.out.symm,⟨_,_,_,L,k+1,J.out,y,e0,by rw [e1];rfl,ef,by omega,E.out⟩,C.trans (Kp.dH i.h),f.trans' i.h⟩
 ·have s:k=L.length:=by omega
  have X:decide ((L.length:Int)≤(k:Int))=true:=dT';have B:decide (L.length≤k)=true:=dT';go_enter func30,ntmps30;go_wp2_with fail;go_region;go_wp2_with fail;have D:Hid (aW m (L.drop k)=0):=ah (by rw [s,List.drop_length];rfl);have E:Hid ((L.drop k).tail=L.drop k):=ah (by rw [s,List.drop_length];rfl);go_ret;exact ⟨aT D.out.symm,⟨_,_,_,L,k,J.out,y,G,H,I,R,E.out⟩,Kp.dH (Ext.refl _).dU,Q.dU⟩
def dn:List Int:=[0xad,0xb7,0x301,0x308,0x323,0x345,0x375,0x3b1,0x3b2,0x3b3,0x430,0x5d0,0x5f3,0x628,0x629,0x660,0x6f0,0x94d,0x1e00,0x1e01,0x1e02,0x1e03,0x1e04,0x200c,0x200d,0x30fb,0x4e00,0x1f600]
structure Us where
 cat:Int
 cls:Int
 bP:Int
 bQ:Int
 scr:Int
 aU:Int
deriving DecidableEq
def usV (c:Int):Us:=
 if (c==0xad||c==0x200c||c==0x200d)=true then ⟨8,0,5,9,1,4⟩
 else if (c==0xb7||c==0x375||c==0x30fb)=true then ⟨5,0,0,8,1,1⟩
 else if c=0x323 then ⟨2,220,5,10,2,1⟩
 else if c=0x94d then ⟨2,9,5,10,20,1⟩
 else if 0x301≤c∧c≤0x345 then ⟨2,230,5,10,2,1⟩
 else if 0x3b1≤c∧c≤0x3b3 then ⟨1,0,0,0,4,1⟩
 else if c=0x430 then ⟨1,0,0,0,5,1⟩
 else if (c==0x5d0||c==0x5f3)=true then ⟨1,0,0,1,11,1⟩
 else if (c==0x628||c==0x629)=true then ⟨1,0,3,2,12,1⟩
 else if c=0x660 then ⟨3,0,0,3,1,1⟩
 else if c=0x6f0 then ⟨3,0,0,4,1,1⟩
 else if c=0x4e00 then ⟨1,0,0,0,6,1⟩
 else if 0x1e00≤c∧c≤0x1e04 then ⟨1,0,0,0,3,1⟩
 else ⟨6,0,0,8,1,0⟩
abbrev Us.v (u:Us):Value:= .agg #[.int .i64 u.cat,.int .i64 u.cls,.int .i64 u.bP,.int .i64 u.bQ,.int .i64 u.scr,.int .i64 u.aU]
theorem usual_spec (c:Int) (a:c∈dn) (w:World):Calls prog 32 #[.int .i64 c] w fun e w'=>e= .returned (usV c).v∧Ext w w':=by
 simp only [dn,List.mem_cons,List.not_mem_nil,or_false] at a;rcases a with rfl|rfl|rfl|rfl|rfl|rfl|rfl|rfl|rfl|rfl|rfl|rfl|rfl|rfl|rfl|rfl|rfl|rfl|rfl|rfl|rfl|rfl|rfl|rfl|rfl|rfl|rfl|rfl
 all_goals
  go_enter func32,ntmps32;go_wp2_with fail;refine bodyPost_ret (v:=(usV _).v) ?_ rfl ⟨rfl,?_⟩
  ·simp [results,Tryz.results32,go_sem];decide
  ·exact (Ext.refl w).aB _
theorem uK (w:World) (l:List Int) (t:TypeId) (h:l.length≤maxLen):aC (w.alloc (.cells (l.map (Value.int .i64)).toArray t)) ⟨some ⟨w.heap.size,0,none⟩,l.length,l.length⟩ l:=by
 refine ⟨⟨rfl,Nat.le_refl _,h⟩,fun i x a=>⟨w.heap.size,0,rfl,?_⟩⟩;rw [Nat.zero_add,World.cell?_alloc_new];simp [a]
theorem aC.kS {w:World} {q o n c:Nat} {l:List Int} {M:List Nat} (h:aC w ⟨some ⟨q,o,none⟩,n,c⟩ l) (k:q∉M):aC (hide M w) ⟨some ⟨q,o,none⟩,n,c⟩ l:=by
 refine ⟨h.1,fun i x d=> ?_⟩;obtain ⟨b,f,a,g⟩:=h.2 i x d;refine ⟨b,f,a,?_⟩;simp only [Option.some.injEq] at a;have j:q=b:=by injection a
 rw [qR,if_neg (by rw [← j];exact k)];exact g
theorem Ij (w:World):Calls prog 31 #[] w fun e w'=>e= .returned (.slice (some ⟨w.heap.size,0,none⟩) 28 28)∧aC w' ⟨some ⟨w.heap.size,0,none⟩,28,28⟩ dn∧Ext w w':=by
 go_enter func31,ntmps31;go_wp2_with fail;go_ret;exact ⟨rfl,uK w dn _ (by decide),(Ext.refl w).aB _⟩
def fO (r:List Int) (vs:List Int):Int:=if 0<aW 3 r then vs.getD 0 0 else vs.getD (aW vs.length r.tail).toNat 0
def bI (r:List Int):List Int:=if 0<aW 3 r then r.tail else r.tail.tail
theorem choose_spec (j w:World) (g:Nat) (r vs:List Int) (A:Option Addr) (n c:Nat) (Y:Src j w g r) (Z:Ext j w) (H:aC (hide [g] w) ⟨A,n,c⟩ vs) (K:0<vs.length) (h1:vs.length≤1000):
 Calls prog 33 #[.pointer (some ⟨g,0,none⟩),.slice A n c] w fun e w'=>e= .returned (.int .i64 (fO r vs))∧Src j w' g (bI r)∧Kp [g] w w'∧Ext j w':=by
 obtain ⟨L,_,_⟩:=H.len;subst L;have M:=ah H;obtain ⟨b,o,N,a⟩:=H.at_ K;subst N;simp only [Nat.add_zero] at a;have O:Hid (vs.getD 0 0=vs[0]):=getD_lt vs 0 0 K;generalize vs[0]=x at*;go_enter func33,ntmps33;go_wp2_with fail;refine (jJ j w g r 3 (by decide) (by decide) Y Z).mono ?_;rintro e I ⟨rfl,m,i,k⟩;have J:=ah m;by_cases f:0<aW 3 r
 ·have P:decide (0<aW 3 r)=true:=by rw [au];exact f
  have p:Hid (fO r vs=x):=ah (by rw [fO,if_pos f,O.out]);have s:Hid (bI r=r.tail):=ah (if_pos f);have Q:I.cell? ⟨b,o,none⟩=some (.int .i64 x):=by
   rw [i.cell _ (by have:=World.block_lt_of_cell? _ _ a;rw [GX] at this;exact this) (fun t=>by rw [qR,if_pos t] at a;cases a)];exact uT a
  clear f;go_wp2_with fail;go_ret;exact ⟨aT p.out.symm,by rw [s.out];exact J.out,i,k⟩
 ·have P:decide (0<aW 3 r)=false:=by rw [aA];exact f
  have z:=jg r.tail (n:=(vs.length:Int)) (by omega);obtain ⟨q,B⟩:∃ q:Nat,aW (vs.length:Int) r.tail=q:=⟨(aW (vs.length:Int) r.tail).toNat,by omega⟩;have l:q<vs.length:=by omega
  have p:Hid (fO r vs=vs[q]):=ah (by rw [fO,if_neg f,B,Int.toNat_natCast];exact getD_lt vs q 0 l);have s:Hid (bI r=r.tail.tail):=ah (if_neg f);obtain ⟨b',o',C,d⟩:=M.out.at_ l;injection C with C;injection C with R S;subst R S;generalize vs[q]=y at*;have T:=ah B;have U:=z0' q;have V:(q:Int)<(vs.length:Int):=by omega
  clear f z B;go_wp2_with fail;refine (jJ j I g r.tail vs.length (by omega) (by omega) J.out k).mono ?_;rintro e W ⟨rfl,D,E,F⟩;rw [T.out];have G:=ah D;have h:=i.trans E;have X:W.cell? ⟨b,o+q,none⟩=some (.int .i64 y):=by
   rw [h.cell _ (by have:=World.block_lt_of_cell? _ _ d;rw [GX] at this;exact this) (fun t=>by rw [qR,if_pos t] at d;cases d)];exact uT d
  go_wp2_with fail;go_ret;exact ⟨aT p.out.symm,by rw [s.out];exact G.out,h,F⟩
def jQ:List Int→List Int→Bool
 |[],[]=>true
 |x::r,y::s=>x==y&&jQ r s
 |_,_=>false
theorem EL:∀ (l m:List Int),l.length≠m.length→jQ l m=false
 |[],[],h=>absurd rfl h
 |[],_::_,_=>rfl
 |_::_,[],_=>rfl
 |x::r,y::s,h=>by
  simp only [jQ,EL r s (by simpa using h),Bool.and_false]
theorem LG:∀ (l m:List Int),jQ l m=true↔l=m
 |[],[]=>by simp [jQ]
 |[],_::_=>by simp [jQ]
 |_::_,[]=>by simp [jQ]
 |x::r,y::s=>by simp [jQ,LG r s]
theorem UO (l m:List Int) (A:Option Addr) (n c:Nat) (I:Option Addr) (J K:Nat) (w:World) (h:aC w ⟨A,n,c⟩ l) (L:aC w ⟨I,J,K⟩ m):
 Calls prog 64 #[.slice A n c,.slice I J K] w fun e w'=>e= .returned (.bool (jQ l m))∧Ext w w':=by
 obtain ⟨M,_,_⟩:=h.len;obtain ⟨t,_,_⟩:=L.len;subst M t;have N:=ah h;have O:=ah L;by_cases a:l.length=m.length
 ·have P:((l.length:Int) != (m.length:Int))=false:=by rw [a];simp
  have D:=ah a;have Q:Hid ((m.length:Int)=(l.length:Int)):=ah (by rw [a]);clear a;go_enter func64,ntmps64;go_wp2_with fail;go_loopw [13] (fun i wr=>∃ (k:Nat),k≤l.length∧i= .int .i64 k∧Hid (jQ l m=jQ (l.drop k) (m.drop k))∧Ext w wr) (fun i _=>l.length - (intOf i).toNat)
  case atStart=>exact ⟨0,Nat.zero_le _,rfl,rfl,Ext.refl _⟩
  case round=>
   obtain ⟨k,hk,rfl,r,f⟩:=hrel;by_cases j:k<l.length
   ·have g:k<m.length:=(by rw [← D.out];exact j);obtain ⟨b,o,R,E⟩:=(N.out.ext f).at_ j;obtain ⟨S,T,z,F⟩:=(O.out.ext f).at_ g;subst R z;have G:=ah (drop_at l k j);have H:=ah (drop_at m k g);generalize l[k]=x at*;generalize m[k]=y at*;have s:=aI r (show _=(x==y&&jQ (l.drop (k+1)) (m.drop (k+1))) from by rw [G.out,H.out];rfl);clear r G H;have U:∀ B:aj wr,B.w.cell? ⟨b,o+k,none⟩=some (.int .i64 x):=dJ E;have V:∀ B:aj wr,B.w.cell? ⟨S,T+k,none⟩=some (.int .i64 y):=dJ F;have W:=z0' k;have X:(k:Int)<(l.length:Int):=(by omega);have Y:(k:Int)<(m.length:Int):=(by omega);go_wp2_with fail;refine rX' ?_
    repeat (go_big_quiet_step (fail))
    refine wpQuiet_nil ?_;rintro _ ⟨Z,rfl⟩;have q:=f.trans' Z.h;clear U V E F;by_cases d:x=y
    ·have C:(x != y)=false:=(by rw [d];simp);have p:=aI s (show _=jQ (l.drop (k+1)) (m.drop (k+1)) from by rw [d];simp);clear s d;go_wp2_with fail;go_roundw
     case rel=>exact ⟨k+1,by omega,by go_num,p,q⟩
     case measure=>simp [intOf];omega
    ·have C:(x != y)=true:=bN' d;have p:=aI s (show _=false from by rw [beq_eq_false_iff_ne.2 d];rfl);clear s d;go_wp2_with fail;go_ret;exact ⟨aJ p.out.symm,q⟩
   ·have p:=aI r (show _=true from by rw [bW l k (by omega),bW m k (by rw [← D.out];omega)];rfl);clear r;go_wp2_with fail;go_ret;exact ⟨aJ p.out.symm,f⟩
 ·have P:((l.length:Int) != (m.length:Int))=true:=by rw [bne_iff_ne];omega
  have p:=ah (EL l m a);clear a;go_enter func64,ntmps64;go_wp2_with fail;go_ret;exact ⟨aJ p.out.symm,Ext.refl _⟩
structure KpW (M:List Nat) (w0:World) where
 w:World
 h:Kp M w0 w
instance (M:List Nat) (w0:World):Nonempty (KpW M w0):=⟨⟨w0,Kp.refl M w0⟩⟩
section
variable {P:Program} {ops:Array Oper} {Q:Exit→Act→World→Prop}
def wG (M:List Nat) (P:Program) (ops:Array Oper) (Q:Exit→Act→World→Prop):Nat→Array Bool→Act→World→Prop
 |0,listed,a,w=>Region.ready .any ops listed=[]∧Q .normal a w
 |fuel+1,listed,a,w=>(Region.ready .any ops listed=[]→Q .normal a w)∧
  ∀ i∈Region.ready .any ops listed,wpOp P ops Q i (fun a' w'=>Kp M w w'∧wG M P ops Q fuel (listed.setIfInBounds i true) a' w') a w
theorem Nv {M:List Nat} {Post:Act→World→Prop} (b:∀ a w,Post a w→Q .normal a w):∀ (fuel:Nat) (listed:Array Bool) (a:Act) (w:World),wG M P ops (lu Q Post) fuel listed a w→wpAny P .any ops Q fuel listed a w
 |0,_,_,_,h=>⟨h.1,b _ _ h.2⟩
 |fuel+1,_,_,_,h=>⟨fun c=>b _ _ (h.1 c),fun i d=>wpOp_mono (fun f g j=>Nv b fuel _ f g j.2) (MN (h.2 i d))⟩
theorem WR {M:List Nat} {o:Oper} {v:Value} {a:Act} {w w':World} (h:YieldsIf P ops (Kp M w) o v a) (c:Kp M w w'):YieldsIf P ops (Kp M w') o v a:=
 h.imp (fun ⟨hw,hv⟩=>⟨hw,fun x b=>hv x (c.trans b)⟩) id
theorem Xn {M:List Nat} {Post:Act→World→Prop} {i:Nat} {q:Oper} {v:Value} (G:ops[i]? =some q) (l:∀ (j:Nat) (o:Oper) cs b,ops[j]? =some o→o.op≠ .select cs b):
 ∀ (fuel:Nat) (listed:Array Bool) (a:Act) (w:World),
  (∀ j oj,ops[j]? =some oj→j≠i→listed.getD j true=false→(∀ e∈oj.after,Region.binds .any e=true→e.on≠i)→q.apart ops oj=true)→
  i∈Region.ready .any ops listed→YieldsIf P ops (Kp M w) q v a→
  wG M P ops (lu Q Post) fuel (listed.setIfInBounds i true) (a.put q.dst v) w→wG M P ops (lu Q Post) (fuel+1) listed a w:=by
 intro fuel
 induction fuel with
 |zero=>
  intro listed a w _ m z H;refine ⟨fun h=>(by rw [h] at m;cases m),fun j A=> ?_⟩;by_cases c:j=i
  ·subst c;exact z.wpOp G (Kp.refl M w) ⟨Kp.refl M w,H⟩
  ·have:=ready_mono A c;rw [H.1] at this;cases this
 |succ fuel ih=>
  intro listed a w d m z H;refine ⟨fun h=>(by rw [h] at m;cases m),fun j A=> ?_⟩;by_cases c:j=i
  ·subst c;exact z.wpOp G (Kp.refl M w) ⟨Kp.refl M w,H⟩
  ·have n:=H.2 j (ready_mono A c);obtain ⟨g,oj,p,r⟩:=mem_ready.1 A;have s:∀ e∈oj.after,Region.binds .any e=true→e.on≠i:=fun e J K C=>by
    have n:=r e J K;have I:=(mem_ready.1 m).1;rw [C] at n;rcases Nat.lt_or_ge i listed.size with D|D
    ·simp [D] at I n;rw [I] at n;cases n
    ·simp [Array.getElem?_eq_none D] at n
   have L:=wpOp_putIf p (d j oj p c g s) (fun cs b=>l i q cs b G) (fun cs b=>l j oj cs b p) (fun _ _ _ h=>h) z n;have f:∀ k t,ops[k]? =some t→k≠i→(listed.setIfInBounds j true).getD k true=false→
    (∀ e∈t.after,Region.binds .any e=true→e.on≠i)→q.apart ops t=true:=fun k t N E x F=>by
    refine d k t N E ?_ F;by_cases y:j=k
    ·subst y;exact g
    ·rw [getD_set_ne true y] at x;exact x
   refine wpOp_mono (fun O R B=>⟨B.2.1,ih (listed.setIfInBounds j true) O R f (ready_mono m (Ne.symm c)) (WR B.1 B.2.1) ?_⟩) L;rw [Array.setIfInBounds_comm _ _ c];exact B.2.2
theorem Y0 {M:List Nat} {Post:Act→World→Prop} {b:Array Bool} {a:Act} {w:World} (d:Region.ready .any ops b=[]) (h:Post a w):∀ fuel,wG M P ops (lu Q Post) fuel b a w
 |0=>⟨d,h⟩
 |fuel+1=>⟨fun _=>h,fun i c=>by rw [d] at c;cases c⟩
def Jd (M:List Nat) (w:World) (next:Act→World→Prop) (a':Act) (w':World):Prop:=Kp M w w'∧next a' w'
def wI (M:List Nat) (P:Program) (ops:Array Oper) (Q:Exit→Act→World→Prop) (Post:Act→World→Prop):List (List Nat × Nat)→List Nat→Act→World→Prop
 |[],last,a,w=>wpQuiet P ops (fun w'=>∃ x:KpW M w,w'=x.w) (fun a'=>Post a' w) (opsOf ops last) a
 |(s,i)::r,last,a,w=>wpQuiet P ops (fun w'=>∃ x:KpW M w,w'=x.w) (fun a'=>wpList P ops (lu Q (Jd M w (wI M P ops Q Post r last))) (opsOf ops [i]) a' w) (opsOf ops s) a
theorem Hf {M:List Nat} {Post:Act→World→Prop} {w:World} (p:Region.noSelect ops=true):∀ (s:List Nat) (fuel:Nat) (listed:Array Bool) (a:Act),zK ops s listed=true→
 wpQuiet P ops (fun w'=>∃ x:KpW M w,w'=x.w) (fun a'=>wG M P ops (lu Q Post) fuel (uO s listed) a' w) (opsOf ops s) a→wG M P ops (lu Q Post) (s.length+fuel) listed a w
 |[],fuel,listed,a,_,h=>by simpa [opsOf,wpQuiet,uO] using h
 |i::s,fuel,listed,a,hB,h=>by
  simp only [zK,aV] at hB;obtain ⟨⟨⟨f,q⟩,b⟩,g⟩:=hB;cases c:ops[i]? with
  |none=>rw [c] at f;cases f
  |some o=>
   rw [c] at f;have j:opsOf ops (i::s)=o::opsOf ops s:=(by simp [opsOf,c]);rw [j] at h;unfold wpQuiet at h;have k:∃ v,YieldsIf P ops (Kp M w) o v a∧wpQuiet P ops (fun w'=>∃ x:KpW M w,w'=x.w) (fun a'=>wG M P ops (lu Q Post) fuel (uO s (listed.setIfInBounds i true)) a' w) (opsOf ops s) (a.put o.dst v):=by
    split at h
    ·rename_i l;obtain ⟨v,r,t⟩:=h;refine ⟨v,.inl ⟨l,fun w' m=> ?_⟩,t⟩;have d:=r w' ⟨⟨w',m⟩,rfl⟩;unfold Oper.quietAt at d;cases b:(execOp a.eval o).run P w' with
     |ok n w2=>
      obtain ⟨u,rfl⟩:=N8 f b;rw [b] at d;obtain ⟨j,y⟩:=d;rw [j,y]
     |halt x w2=>rw [b] at d;exact d.elim
    ·rename_i l;exact ⟨undef,.inr ⟨by simpa using l,rfl⟩,h⟩
   obtain ⟨v,z,A⟩:=k;rw [show (i::s).length+fuel=(s.length+fuel)+1 from by simp only [List.length_cons];omega];exact Xn c (Region.noSelect_spec p) (s.length+fuel) listed a w (Region.free_spec c q) (by simpa using b) z (Hf p s fuel _ _ g A)
theorem O5 {M:List Nat} {Post:Act→World→Prop} (n:Region.noSelect ops=true):∀ (ord:List (List Nat × Nat)) (last:List Nat) (fuel:Nat) (listed:Array Bool) (a:Act) (w:World),xP ord last≤fuel→xO ops ord last listed=true→
 wI M P ops Q Post ord last a w→wG M P ops (lu Q Post) fuel listed a w
 |[],last,fuel,listed,a,w,hn,hB,h=>by
  simp only [xO,aV,au] at hB;simp only [xP] at hn;rw [show fuel=last.length+(fuel - last.length) from by omega];refine Hf n last _ listed a hB.1 ?_;unfold wI at h;exact yJ (fun k c=>Y0 hB.2 c _) _ _ h
 |(s,i)::r,last,fuel,listed,a,w,hn,hB,h=>by
  simp only [xO,aV,au] at hB;obtain ⟨⟨⟨A,p⟩,q⟩,B⟩:=hB;simp only [xP] at hn;rw [show fuel=s.length+((fuel - s.length - 1)+1) from by omega];refine Hf n s _ listed a A ?_;unfold wI at h;refine yJ (fun k c=> ?_) _ _ h;refine ⟨fun t=>(by rw [p] at t;cases t),fun j x=> ?_⟩;rw [p] at x;obtain rfl:j=i:=by simpa using x
  cases m:ops[j]? with
  |none=>rw [m] at q;cases q
  |some o=>
   have D:opsOf ops [j]=[o]:=(by simp [opsOf,m]);rw [D] at c;have y:∀ d b,Kp M w b∧wI M P ops Q Post r last d b→Kp M w b∧wG M P ops (lu Q Post) (fuel - s.length - 1) ((uO s listed).setIfInBounds j true) d b:=fun d b z=>
    ⟨z.1,O5 n r last _ _ d b (by omega) B z.2⟩
   unfold wpOp;simp only [m];unfold wpList at c;split
   ·rename_i f;rw [if_pos f] at c;rcases c with c|c
    ·exact .inl (Na (Oper.wp_mono (fun d b g=>y d b g) c))
    ·exact .inr c
   ·rename_i f;rw [if_neg f] at c;exact y _ _ c
where
 yJ {C:World→Prop} {K K':Act→Prop} (g:∀ a,K a→K' a):∀ (l:List Oper) (a:Act),wpQuiet P ops C K l a→wpQuiet P ops C K' l a
  |[],a,h=>g a h
  |o::l,a,h=>by
   unfold wpQuiet at*;split
   ·rename_i f;rw [if_pos f] at h;exact Oper.quiet_mono (fun k c=>yJ g l k c) h
   ·rename_i f;rw [if_neg f] at h;exact yJ g l _ h
theorem region_xk (M:List Nat) {d:Nat} {a:Act} {w:World} {l:List Oper} (b:List (List Nat × Nat)) (last:List Nat) (f:P.follows .mixedOrders=true)
 (c:(Region.noSelect l.toArray&&xO l.toArray b last (Array.replicate l.length false)&&decide (xP b last≤l.length))=true)
 (h:wI M P l.toArray Q (fun a' w'=>Q .normal a' w') b last a w.drew):(Code.region d l.toArray true).wp P Q a w:=by
 simp only [aV,au] at c;refine wp_region_any f (Nv (M:=M) (Post:=fun a' w'=>Q .normal a' w') (fun _ _ h=>h) _ _ _ _ ?_);have:=O5 c.1.1 b last l.length (Array.replicate l.length false) a w.drew c.2 c.1.2 h;simpa using this
theorem xY {M:List Nat} {Post:Act→World→Prop} {s:List Nat} {i:Nat} {r:List (List Nat × Nat)} {last:List Nat} {a:Act} {w:World} {l:List Oper}
 {b:List Oper} {o:Oper} (f:eF l s b) (g:cO l i o) (h:wpQuiet P l.toArray (fun w'=>∃ x:KpW M w,w'=x.w) (fun a'=>wpList P l.toArray (lu Q (Jd M w (wI M P l.toArray Q Post r last))) [o] a' w) b a):wI M P l.toArray Q Post ((s,i)::r) last a w:=by
 have c:=f.eq;have d:=(eF.cons g eF.nil).eq;subst c;unfold wI;rw [d];exact h
theorem KE {M:List Nat} {Post:Act→World→Prop} {last:List Nat} {a:Act} {w:World} {l:List Oper} {b:List Oper} (d:eF l last b) (h:wpQuiet P l.toArray (fun w'=>∃ x:KpW M w,w'=x.w) (fun a'=>Post a' w) b a):wI M P l.toArray Q Post [] last a w:=by
 have c:=d.eq;subst c;exact h
theorem yH {M:List Nat} {w w':World} {next:Act→World→Prop} {a:Act} (b:Kp M w w') (h:next a w'):Jd M w next a w':=⟨b,h⟩
end
theorem Ip (c:Int) (w:World):Calls prog 103 #[.int .i64 c] w fun e w'=>e= .returned (.bool (aX c))∧w=w':=by
 go_enter func103,ntmps103;go_wp2
 all_goals (go_ret;refine ⟨aJ ?_,rfl⟩;(first|(simp [aX, *];done)|(rw [Bool.eq_iff_iff];simp [aX];omega)|(simp [aX, *];omega)))
theorem wY (c:Int) (w:World):Calls prog 148 #[.int .i64 c] w fun e w'=>e= .returned (.int .i64 (utfLen c))∧w=w':=by
 cases a:aX c
 ·have H:=ah a;clear a;go_enter func148,ntmps148;go_wp2_with (go_at_call 103;refine (Ip _ _).mono ?_;rintro e w' ⟨rfl,rfl⟩;rw [H.out])
  all_goals (go_ret;refine ⟨aT ?_,rfl⟩;simp [utfLen,H.out])
 ·have H:=ah a;clear a;go_enter func148,ntmps148;go_wp2_with (go_at_call 103;refine (Ip _ _).mono ?_;rintro e w' ⟨rfl,rfl⟩;rw [H.out])
  all_goals (go_ret;refine ⟨aT ?_,rfl⟩;simp [utfLen,H.out];try omega)
theorem Ef (c:Int) (w:World):Calls prog 173 #[.int .i64 c] w fun e w'=>e= .returned (.bool (aY c))∧w=w':=by
 go_enter func173,ntmps173;go_wp2
 all_goals (go_ret;refine ⟨aJ ?_,rfl⟩;(first|(simp [aY, *];done)|(rw [Bool.eq_iff_iff];simp [aY];omega)|(simp [aY, *];omega)))
theorem Ie (c:Int) (w:World):Calls prog 174 #[.int .i64 c] w fun e w'=>e= .returned (.bool (dD c))∧w=w':=by
 go_enter func174,ntmps174;go_wp2
 all_goals (go_ret;refine ⟨aJ ?_,rfl⟩;(first|(simp [dD, *];done)|(rw [Bool.eq_iff_iff];simp [dD];omega)|(simp [dD, *];omega)))
theorem Wu (c:Int) (w:World):Calls prog 229 #[.int .i64 c] w fun e w'=>e= .returned (.bool (qo c))∧w=w':=by
 go_enter func229,ntmps229;go_wp2
 all_goals (go_ret;refine ⟨aJ ?_,rfl⟩;(first|(simp [qo, *];done)|(rw [Bool.eq_iff_iff];simp [qo];omega)|(simp [qo, *];omega)))
theorem YM (c:Int) (w:World):Calls prog 171 #[.int .i64 c] w fun e w'=>e= .returned (.bool (nameB c))∧w=w':=by
 go_enter func171,ntmps171;go_wp2
 all_goals (go_ret;refine ⟨aJ ?_,rfl⟩;(first|(simp [nameB, *];done)|(rw [Bool.eq_iff_iff];simp [nameB];omega)|(simp [nameB, *];omega)))
theorem GU (c:Int) (w:World):Calls prog 206 #[.int .i64 c] w fun e w'=>e= .returned (.bool (eU c))∧w=w':=by
 have H:Hid (eU c=(decide (0≤c)&&decide (c≤127)||qo c||aY c||dD c)):=rfl;go_enter func206,ntmps206
 go_wp2_with (first
  |(go_at_call 229;refine (Wu _ _).mono ?_;rintro e w' ⟨rfl,rfl⟩;cases a:qo c)
  |(go_at_call 173;refine (Ef _ _).mono ?_;rintro e w' ⟨rfl,rfl⟩;cases b:aY c)
  |(go_at_call 174;refine (Ie _ _).mono ?_;rintro e w' ⟨rfl,rfl⟩;cases d:dD c))
 all_goals (go_ret;refine ⟨aJ ?_,rfl⟩;rw [H.out];(first|(simp [*];done)|(simp [*];omega)))
theorem NQ (last c:Int) (w:World):Calls prog 170 #[.int .i64 last,.int .i64 c] w fun e w'=>e= .returned (.bool (sU last c))∧w=w':=by
 have H:Hid (sU last c=(decide (last<c)&&decide (c≤1114111)&& !eU c)):=rfl;go_enter func170,ntmps170;go_wp2_with (go_at_call 206;refine (GU _ _).mono ?_;rintro e w' ⟨rfl,rfl⟩;cases a:eU c)
 all_goals (go_ret;refine ⟨aJ ?_,rfl⟩;rw [H.out];(first|(simp [*];done)|(simp [*];omega)))
theorem X3 (A:Option Addr) (n c:Nat) (l:List Sp) (lo f:Int) (w:World) (h:bK w ⟨A,n,c⟩ l):
 Calls prog 168 #[.slice A n c,.int .i64 lo,.int .i64 f] w fun e w'=>e= .returned (.bool (lq lo f l))∧Ext w w':=by
 obtain ⟨m,p,q⟩:=h.len;subst m;go_enter func168,ntmps168;go_wp2;go_loopw [7,12] (fun r i wr=>∃ (k:Nat) (last:Int),k≤l.length∧i= .int .i64 k∧r= .int .i64 last∧Hid (lq lo f l=(chain lo f last (l.drop k)&&decide ((l.length:Int)≤256)))∧Ext w wr) (fun _ i _=>l.length - (intOf i).toNat)
 case atStart=>exact ⟨0,-1,Nat.zero_le _,rfl,rfl,rfl,Ext.refl _⟩
 case round=>
  obtain ⟨k,last,C,rfl,rfl,g,d⟩:=hrel;by_cases a:k<l.length
  ·obtain ⟨b,o,s,t,y,z⟩:=(bK.ext h d).at_ a;subst s;have j:=ah (drop_at l k a);generalize l[k]=x at*;obtain ⟨D,B,E⟩:=x;simp only at t y z;go_wp2
   all_goals first
    |(go_ret;exact ⟨aJ (by rw [g.out,j.out,Zk (by simp only;omega)];rfl),d.aB _⟩)
    |(go_roundw
      case rel=>exact ⟨k+1,B,by omega,by go_num,rfl,aI g (by rw [j.out,Oa (by simp only;omega)]),d.aB _⟩
      case measure=>simp [intOf];omega)
  ·go_wp2;go_ret;exact ⟨aJ (by rw [g.out,bW l k (by omega)];simp [chain]),d⟩
theorem WY (lo a val:Int) (w:World) (G:Glob w):
 Calls prog 169 #[.agg #[.int .i64 lo,.int .i64 a,.int .i64 val]] w fun e w'=>e= .returned (.bool (outsideB ⟨lo,a,val⟩))∧Ext w w':=by
 obtain ⟨A,n,c,m,f⟩:=G;have r:=bn (w':=w.alloc (.cells #[.int .i64 lo,.int .i64 a,.int .i64 val] 66)) (bD ((Ext.refl w).aB _)) m;have s:Hid (outsideB ⟨lo,a,val⟩=ql lo a uZ):=rfl;have g:uZ.length=6:=rfl;generalize uZ=l at*;obtain ⟨t,y,z⟩:=f.len;subst t;have B:=ah g;clear g;go_enter func169,ntmps169;go_wp2;go_loopw [7] (fun i wr=>∃ (k:Nat),k≤l.length∧i= .int .i64 k∧Hid (outsideB ⟨lo,a,val⟩=ql lo a (l.drop k))∧Ext (w.alloc (.cells #[.int .i64 lo,.int .i64 a,.int .i64 val] 66)) wr) (fun i _=>l.length - (intOf i).toNat)
 case atStart=>exact ⟨0,Nat.zero_le _,rfl,s,Ext.refl _⟩
 case round=>
  obtain ⟨k,H,rfl,p,j⟩:=hrel;have d:Ext w wr:=((Ext.refl w).aB _).trans' j;obtain ⟨I,J⟩:=vG j;by_cases h:k<l.length
  ·obtain ⟨b,o,C,D,E,F⟩:=(bK.ext f d).at_ h;subst C;have q:=ah (drop_at l k h);generalize l[k]=x at*;obtain ⟨K,L,M⟩:=x;simp only at D E F;have N:w.heap.size<wr.heap.size:=(by have:=j.b.size;simp at this;omega);go_wp2
   all_goals first
    |(go_ret;exact ⟨aJ (by rw [p.out,q.out,zM (by simp only;omega)]),d.aB _⟩)
    |(go_roundw
      case rel=>exact ⟨k+1,by omega,by go_num,aI p (by rw [q.out,zJ (by simp only;omega)]),j.aB _⟩
      case measure=>simp [intOf];omega)
  ·go_wp2;go_ret;exact ⟨aJ (by rw [p.out,bW l k (by omega)];simp [ql]),d⟩
theorem Ho (f:FuncId) (d:Array Value) (n:Nat) (p:Nat→Bool) (w:World) (F:n≤4611686018427387904)
 (q:∀ args w,(callFunc f args).run prog w= .ok (.enter f args) w)
 (t:∀ i,i<n→∀ w',Ext w w'→Calls prog f (#[.int .i64 i]++d) w' fun e w''=>e= .returned (.bool (p i))∧Ext w' w''):
 Calls prog 207 #[.int .i64 n,.func (.func f) #[] d] w fun e w'=>∃ i:Nat,e= .returned (.int .i64 i)∧i≤n∧(i<n→p i=true)∧(0<i→p (i - 1)=false)∧Ext w w':=by
 have x:=ah t;clear t;go_enter func207,ntmps207;go_wp2;go_loopw [5,6] (fun a b wr=>∃ (i j:Nat),i≤j∧j≤n∧a= .int .i64 i∧b= .int .i64 j∧Hid (j<n→p j=true)∧Hid (0<i→p (i - 1)=false)∧Ext w wr) (fun a b _=>(intOf b).toNat - (intOf a).toNat)
 case atStart=>exact ⟨0,n,Nat.zero_le _,Nat.le_refl _,rfl,rfl,fun h=>absurd h (by omega),fun h=>absurd h (by omega),Ext.refl _⟩
 case round=>
  obtain ⟨i,j,y,z,rfl,rfl,r,s,k⟩:=hrel;by_cases A:i<j
  ·go_wp2;obtain ⟨m,B⟩:∃ m:Nat,m=(i+j) / 2:=⟨_,rfl⟩;rw [show ((i:Int)+j) / 2=(m:Int) from by omega];have C:i≤m:=(by omega);have D:m<j:=(by omega);clear B;refine (x.out m (by omega) wr k).mono ?_;rintro e E ⟨rfl,l⟩;have g:=k.trans' l;cases c:p m
   ·have o:=ah c;clear c;go_wp2;go_roundw
    case rel=>exact ⟨m+1,j,by omega,z,by go_num,rfl,r,fun _=>by simpa using o.out,g⟩
    case measure=>simp [intOf];omega
   ·have o:=ah c;clear c;go_wp2;go_roundw
    case rel=>exact ⟨i,m,by omega,by omega,rfl,rfl,fun _=>o.out,s,g⟩
    case measure=>simp [intOf];omega
  ·go_wp2;go_ret;exact ⟨i,rfl,by omega,fun h=>r.out (by omega)▸(by rw [show i=j from by omega]),s.out,k⟩
theorem XM (l:List Sp) (A:Option Addr) (n a:Nat) (i:Nat) (c:Int) (d f:Addr) (w:World) (r:i<l.length)
 (s:w.cell? d=some (.slice A n a)) (t:w.cell? f=some (.int .i64 c)) (g:bK w ⟨A,n,a⟩ l):
 Calls prog 232 (#[.int .i64 i]++ #[.pointer (some d),.pointer (some f)]) w fun e w'=>e= .returned (.bool (decide (c≤l[i].hi)))∧Ext w w':=by
 obtain ⟨h,j,k⟩:=g.len;subst h;obtain ⟨b,o,m,x,y,B⟩:=g.at_ r;subst m;have p:=z0' i;have q:(i:Int)<(l.length:Int):=by omega
 generalize l[i].hi=z at*;go_enter func232,ntmps232;go_wp2;go_quiet (fail);go_wp2;go_ret;exact ⟨rfl,(Ext.refl _).mJ _⟩
theorem EC (l:List Sp) (A:Option Addr) (n f:Nat) (c:Int) (w:World) (t:bK w ⟨A,n,f⟩ l) (g:vT l) (y:l.length≤256):
 Calls prog 216 #[.slice A n f,.int .i64 c] w fun e w'=>e= .returned (.int .i64 (dQ l c))∧Ext w w':=by
 obtain ⟨z,B,C⟩:=t.len;subst z;go_enter func216,ntmps216;go_wp2_with fail;refine (Ho 232 _ l.length (fun i=>decide (c≤(l.getD i ⟨0,0,0⟩).hi)) _ (by omega) Tryz.call232 ?_).mono ?_
 ·intro i p w' j;have a:Ext w w':=(((Ext.refl w).aB _).aB _).trans' j;rw [getD_lt l i _ p];exact XM l A l.length f i c _ _ w' p (bn (bD j) (Je _ _ _ _)) (bn (bD j) (Jf _ _ _ _)) (t.ext a)
 ·rintro e D ⟨i,rfl,p,q,r,j⟩;have a:Ext w D:=(((Ext.refl w).aB _).aB _).trans' j;have s:=ah (WQ g (c:=c) p (fun h=>by have k:=q h;simp only [getD_lt l i _ h] at k;simpa using k) (fun h=>by have k:=r h;simp only [getD_lt l (i - 1) _ (by omega)] at k;simpa using k));obtain ⟨J,K⟩:=vG j.b;clear q r;by_cases d:i<l.length
  ·have E:((i:Int)==(l.length:Int))=false:=bF';obtain ⟨b,o,F,r,q,G⟩:=(t.ext a).at_ d;subst F;have m:Hid (dQ l c=if c<l[i].lo then 0 else l[i].val):=(by have h:=s.out;rw [dif_pos d] at h;exact h);clear s;have H:=z0' i;have I:(i:Int)<(l.length:Int):=(by omega);generalize l[i]=x at*;obtain ⟨L,M,N⟩:=x;simp only at r q G m;go_wp2;go_quiet (fail);go_wp2
   ·go_ret;exact ⟨aT (by rw [m.out,if_pos (by assumption)]),a.mJ _⟩
   ·go_ret;exact ⟨aT (by rw [m.out,if_neg (by omega)]),a.mJ _⟩
  ·obtain rfl:i=l.length:=by omega
   have m:Hid (dQ l c=0):=(by have h:=s.out;rw [dif_neg d] at h;exact h);clear s;go_wp2;go_quiet (fail);go_wp2;go_ret;exact ⟨aT (by rw [m.out]),a.mJ _⟩
theorem Y8 (l:List Mp) (A:Option Addr) (n a:Nat) (i:Nat) (c:Int) (d f:Addr) (w:World) (t:i<l.length)
 (x:w.cell? d=some (.slice A n a)) (y:w.cell? f=some (.int .i64 c)) (g:cZ w ⟨A,n,a⟩ l):
 Calls prog 208 (#[.int .i64 i]++ #[.pointer (some d),.pointer (some f)]) w fun e w'=>e= .returned (.bool (decide (c≤l[i].lo)))∧Ext w w':=by
 obtain ⟨h,j,k⟩:=g.len;subst h;obtain ⟨b,o,B,C,D,m,E,p,q⟩:=g.at_ t;subst m;have r:=z0' i;have s:(i:Int)<(l.length:Int):=by omega
 clear p q;generalize l[i].lo=z at*;go_enter func208,ntmps208;go_wp2;go_quiet (fail);go_wp2;go_ret;exact ⟨rfl,(Ext.refl _).mJ _⟩
theorem Hz {l:List Mp} {c:Int} (h:uo l c=false):∀ i (hi:i<l.length),l[i].lo≠c:=by
 intro i hi a;simp only [uo,List.any_eq_false,au] at h;exact h l[i] (by simp) a
theorem OI (l:List Mp) (A:Option Addr) (n k:Nat) (c:Int) (w:World) (B:Option Addr) (C D:Nat) (E:cZ w ⟨A,n,k⟩ l) (m:uU l) (G:l.length≤256)
 (H:∀ i b o (hi:i<l.length),A=some ⟨b,o,none⟩→l[i].lo=c→w.cell? ⟨b,o+i*2+1,none⟩=some (.slice B C D))
 (r:(∀ i (hi:i<l.length),l[i].lo≠c)→B=none∧C=0∧D=0):
 Calls prog 176 #[.slice A n k,.int .i64 c] w fun e w'=>e= .returned (.slice B C D)∧Ext w w':=by
 obtain ⟨I,J,K⟩:=E.len;subst I;have x:=ah H;have d:=ah r;clear H r;go_enter func176,ntmps176;go_wp2_with fail;refine (Ho 208 _ l.length (fun i=>decide (c≤(l.getD i ⟨0,[]⟩).lo)) _ (by omega) Tryz.call208 ?_).mono ?_
 ·intro i hi w' p;have a:Ext w w':=(((Ext.refl w).aB _).aB _).trans' p;rw [getD_lt l i _ hi];exact Y8 l A l.length k i c _ _ w' hi (bn (bD p) (Je _ _ _ _)) (bn (bD p) (Jf _ _ _ _)) (E.ext a)
 ·rintro e L ⟨i,rfl,hi,s,y,p⟩;have a:Ext w L:=(((Ext.refl w).aB _).aB _).trans' p;have t:=ah (WL m (c:=c) hi (fun h=>by have q:=s h;simp only [getD_lt l i _ h] at q;simpa using q) (fun h=>by have q:=y h;simp only [getD_lt l (i - 1) _ (by omega)] at q;simpa using q)).2;obtain ⟨U,V⟩:=vG p.b;clear s y;by_cases f:i<l.length
  ·have M:((i:Int)==(l.length:Int))=false:=bF';obtain ⟨b,o,W,X,Y,F,y,s,N⟩:=(E.ext a).at_ f;have g:=ah fun h=>bn (bD a) (x.out i b o f F h)
   subst F;have z:Hid (uo l c=decide (l[i].lo=c)):=(by have h:=t.out;rw [dif_pos f] at h;exact h);clear t x N;have O:=z0' i;have P:(i:Int)<(l.length:Int):=(by omega);generalize l[i].lo=xl at*;by_cases j:xl=c
   ·subst j;have e:=s.symm.trans (g.out rfl);injection e with e;injection e with Q R S;subst Q R S;clear g z d;go_wp2;go_quiet (fail);go_wp2;go_ret;exact ⟨rfl,a.mJ _⟩
   ·obtain ⟨rfl,rfl,rfl⟩:=d.out (Hz (by rw [z.out];simpa using j));have T:(xl != c)=true:=bN' j;clear g z d;go_wp2;go_quiet (fail);go_wp2;go_ret;exact ⟨rfl,a.mJ _⟩
  ·obtain rfl:i=l.length:=by omega
   obtain ⟨rfl,rfl,rfl⟩:=d.out (Hz (by have h:=t.out;rw [dif_neg f] at h;exact h));clear t x d;go_wp2;go_quiet (fail);go_wp2;go_ret;exact ⟨rfl,a.mJ _⟩
theorem CW (l:List Mp) (A:Option Addr) (n f:Nat) (c:Int) (w:World) (B:cZ w ⟨A,n,f⟩ l) (a:uU l) (g:l.length≤256):
 ∃ za zn zc,aC w ⟨za,zn,zc⟩ (aO l c)∧(uo l c=false→za=none∧zn=0∧zc=0)∧
  ∀ w',Ext w w'→Calls prog 176 #[.slice A n f,.int .i64 c] w' fun e w''=>e= .returned (.slice za zn zc)∧Ext w' w'':=by
 cases x:uo l c
 ·have C:=Hz x;have D:aO l c=[]:=zF fun s y=>by
   obtain ⟨j,k,rfl⟩:=List.getElem_of_mem y;exact C j k
  refine ⟨none,0,0,by rw [D];exact aC.nil_ w,fun _=>⟨rfl,rfl,rfl⟩,fun w' t=> ?_⟩;exact OI l A n f c w' none 0 0 (B.ext t) a g (fun i b o p _ h=>absurd h (C i p)) fun _=>⟨rfl,rfl,rfl⟩
 ·simp only [uo,List.any_eq_true,au] at x;obtain ⟨m,y,q⟩:=x;obtain ⟨i,p,rfl⟩:=List.getElem_of_mem y;obtain ⟨b,o,za,zn,zc,E,K,F,G⟩:=B.at_ p;have t:∀ j (k:j<i),l[j].lo<c:=fun j k=>by have:=a j i k p;omega
  refine ⟨za,zn,zc,by rw [EK i p q t];exact G,(fun h=>by cases h),fun w' r=> ?_⟩;refine OI l A n f c w' za zn zc (B.ext r) a g (fun j L M k d H=> ?_) fun z=>absurd q (z i p)
  obtain rfl:j=i:=by
   rcases Nat.lt_trichotomy j i with h|h|h
   ·have:=t j h;omega
   ·exact h
   ·have:=a i j h k;omega
  rw [E] at d;injection d with d;injection d with I J;subst I J;exact bn (bD r) F
theorem find_spec (l:List Mp) (A:Option Addr) (n a:Nat) (c:Int) (w:World) (k:cZ w ⟨A,n,a⟩ l) (b:uU l) (f:Ae l) (d:l.length≤256):
 Calls prog 176 #[.slice A n a,.int .i64 c] w fun e w'=>∃ za zn zc,e= .returned (.slice za zn zc)∧aC w' ⟨za,zn,zc⟩ (aO l c)∧(aO l c=[]→za=none∧zc=0)∧Ext w w':=by
 obtain ⟨za,zn,zc,g,i,j⟩:=CW l A n a c w k b d;refine (j w (Ext.refl w)).mono fun e w' ⟨he,hb⟩=>⟨za,zn,zc,he,g.ext hb,fun h=> ?_,hb⟩
 have:=i (CO f h);exact ⟨this.1,this.2.2⟩
theorem zG {w:World} {a:Option Addr} {d c:Nat} {l:List Int} (h:aC w ⟨a,d,c⟩ l) (k:l=[]→a=none∧c=0):
 (l=[]∧a=none∧d=0∧c=0)∨∃ b o,l≠[]∧a=some ⟨b,o,none⟩:=by
 cases l with
 |nil=>
  obtain ⟨f,g⟩:=k rfl;exact .inl ⟨rfl,f,h.len.1,g⟩
 |cons x r=>
  obtain ⟨b,o,j,_⟩:=h.at_ (i:=0) (by simp);exact .inr ⟨b,o,by simp,j⟩
theorem VE (l:List Int) (A:Option Addr) (n a:Nat) (i:Nat) (c:Int) (d f:Addr) (w:World) (r:i<l.length)
 (s:w.cell? d=some (.slice A n a)) (t:w.cell? f=some (.int .i64 c)) (g:aC w ⟨A,n,a⟩ l):
 Calls prog 247 (#[.int .i64 i]++ #[.pointer (some d),.pointer (some f)]) w fun e w'=>e= .returned (.bool (decide (c≤l[i])))∧Ext w w':=by
 obtain ⟨h,j,k⟩:=g.len;subst h;obtain ⟨b,o,m,x⟩:=g.at_ r;subst m;have p:=z0' i;have q:(i:Int)<(l.length:Int):=by omega
 generalize l[i]=z at*;go_enter func247,ntmps247;go_wp2;go_quiet (fail);go_wp2;go_ret;exact ⟨rfl,(Ext.refl _).mJ _⟩
theorem VP (l:List Int) (A:Option Addr) (n b:Nat) (c:Int) (w:World) (m:aC w ⟨A,n,b⟩ l) (o:l.length≤256):
 Calls prog 230 #[.slice A n b,.int .i64 c] w fun e w'=>∃ i:Nat,e= .returned (.int .i64 i)∧i≤l.length∧(∀ h:i<l.length,c≤l[i])∧(∀ _:0<i,∀ _:i - 1<l.length,l[i - 1]<c)∧Ext w w':=by
 obtain ⟨p,q,r⟩:=m.len;subst p;go_enter func230,ntmps230;go_wp2_with fail;refine (Ho 247 _ l.length (fun i=>decide (c≤l.getD i 0)) _ (by omega) Tryz.call247 ?_).mono ?_
 ·intro i g w' d;have a:Ext w w':=(((Ext.refl w).aB _).aB _).trans' d;rw [getD_lt l i _ g];exact VE l A l.length b i c _ _ w' g (bn (bD d) (Je _ _ _ _)) (bn (bD d) (Jf _ _ _ _)) (m.ext a)
 ·rintro e s ⟨i,rfl,g,j,k,d⟩;have a:Ext w s:=(((Ext.refl w).aB _).aB _).trans' d;have t:Hid (∀ h:i<l.length,c≤l[i]):=fun h=>by have f:=j h;simp only [getD_lt l i _ h] at f;simpa using f
  have x:Hid (∀ _:0<i,∀ _:i - 1<l.length,l[i - 1]<c):=fun h y=>by have f:=k h;simp only [getD_lt l (i - 1) _ y] at f;simpa using f
  clear j k;go_wp2;go_ret;exact ⟨i,rfl,g,t.out,x.out,a⟩
theorem WG (t:TV) (T:ak) (c:Int) (w:World) (ht:aS w t T) (f:EM T.exc) (g:T.exc.length≤256):
 Calls prog 209 #[t.v,.int .i64 c] w fun e w'=>e= .returned (.bool (iY T.exc c))∧Ext w w':=by
 obtain ⟨I,J,K,L,M,N,O,P,Q,R,⟨A,n,s⟩,x⟩:=t;have j:aC w ⟨A,n,s⟩ T.exc:=ht.exc;clear ht;generalize T.exc=l at*;obtain ⟨y,B,C⟩:=j.len;subst y;simp only [TV.v];go_enter func209,ntmps209;go_wp2_with fail;refine (VP l _ _ _ c _ (j.ext ((Ext.refl w).aB _)) g).mono ?_;rintro e D ⟨i,rfl,E,p,q,r⟩;have a:Ext w D:=((Ext.refl w).aB _).trans' r;have k:=ah (WV f E p fun h=>q h (by omega));clear p q;obtain ⟨S,U⟩:=vG r.b;by_cases d:i<l.length
 ·obtain ⟨b,o,F,j⟩:=(j.ext a).at_ d;subst F;have G:=z0' i;have H:(i:Int)<(l.length:Int):=by omega
  have m:Hid (iY l c=decide (l[i]=c)):=by have h:=k.out;rw [dif_pos d] at h;exact h
  clear k;generalize l[i]=z at*;go_wp2;go_ret;exact ⟨aJ (by rw [m.out,Bool.eq_iff_iff];simp),a⟩
 ·obtain rfl:i=l.length:=by omega
  have m:Hid (iY l c=false):=by have h:=k.out;rw [dif_neg d] at h;exact h
  clear k;go_wp2;go_ret;exact ⟨aJ (by rw [m.out]),a⟩
def FM (c:Int):Value:= .agg #[.int .i64 (qG c),.int .i64 (oU c),.int .i64 (xq c),.int .i64 (vY c)]
theorem Y9 (c:Int) (w:World):Calls prog 215 #[.int .i64 c] w fun e w'=>e= .returned (FM c)∧Ext w w':=by
 go_enter func215,ntmps215
 go_wp2_with (first
  |(go_at_call 173;refine (Ef _ _).mono ?_;rintro e w' ⟨rfl,rfl⟩;cases a:aY c)
  |(go_at_call 174;refine (Ie _ _).mono ?_;rintro e w' ⟨rfl,rfl⟩;cases b:dD c))
 all_goals (refine bodyPost_ret (v:=FM c) ?_ rfl ⟨rfl,?_⟩)
 all_goals first
  |(refine Ext.aB (Ext.refl _) _)
  |(simp [results,Tryz.results215,go_sem,FM]
    try (simp only [beq_iff_eq,aP,ne_eq] at*)
    unfold qG oU xq vY
    first
     |omega
     |(repeat (first|rw [if_pos (by first|omega|assumption)]|rw [if_neg (by first|omega|(simp [*];done))])
       simp))
theorem Xa (a b c d:Int) (w:World):Calls prog 253 #[.agg #[.int .i64 a,.int .i64 b,.int .i64 c,.int .i64 d]] w fun e w'=>e= .returned (.int .i64 c)∧Ext w w':=by
 go_enter func253,ntmps253;go_wp2;go_ret;exact ⟨rfl,(Ext.refl w).aB _⟩
theorem Xf (a b c d:Int) (w:World):Calls prog 183 #[.agg #[.int .i64 a,.int .i64 b,.int .i64 c,.int .i64 d]] w fun e w'=>e= .returned (.int .i64 d)∧Ext w w':=by
 go_enter func183,ntmps183;go_wp2;go_ret;exact ⟨rfl,(Ext.refl w).aB _⟩
theorem EP (f:FuncId) (own:Int→Int) (l:List Sp) (A:Option Addr) (n i:Nat) (c:Int) (w:World) (k:bK w ⟨A,n,i⟩ l) (d:vT l) (j:l.length≤256)
 (q:∀ args w,(callFunc f args).run prog w= .ok (.enter f args) w)
 (b:∀ w,Calls prog f #[FM c] w fun e w'=>e= .returned (.int .i64 (own c))∧Ext w w'):
 Calls prog 182 #[.slice A n i,.int .i64 c,.func (.func f) #[] #[]] w fun e w'=>e= .returned (.int .i64 (nP l own c))∧Ext w w':=by
 have t:=ah b;clear b;cases r:utfLen c==0
 ·have a:aX c=true:=by
   cases k:aX c
   ·have:=(utfLen_eq_zero c).2 k;simp [this] at r
   ·rfl
  cases g:eU c
  ·have h:Hid (nP l own c=dQ l c):=by unfold nP;rw [a,g];rfl
   have m:=ah g;clear g a;go_enter func182,ntmps182
   go_wp2_with (first
    |(go_at_call 148;refine (wY _ _).mono ?_;rintro e w' ⟨rfl,rfl⟩)
    |(go_at_call 206;refine (GU _ _).mono ?_;rintro e w' ⟨rfl,rfl⟩;rw [m.out])
    |(go_at_call 216;refine (EC l _ _ _ _ _ k d j).mono ?_;rintro e s ⟨rfl,o⟩))
   go_ret;exact ⟨aT (by rw [h.out]),o⟩
  ·have h:Hid (nP l own c=own c):=by unfold nP;rw [a,g];rfl
   have m:=ah g;clear g a;go_enter func182,ntmps182
   go_wp2_with (first
    |(go_at_call 148;refine (wY _ _).mono ?_;rintro e w' ⟨rfl,rfl⟩)
    |(go_at_call 206;refine (GU _ _).mono ?_;rintro e w' ⟨rfl,rfl⟩;rw [m.out])
    |(go_at_call 215;refine (Y9 _ _).mono ?_;rintro e s ⟨rfl,o⟩))
   refine (t.out s).mono ?_;rintro e x ⟨rfl,p⟩;go_wp2;go_ret;exact ⟨aT (by rw [h.out]),o.trans' p⟩
 ·have h:Hid (nP l own c=0):=by
   have:=(utfLen_eq_zero c).1 (by simpa using r);unfold nP;rw [this];rfl
  go_enter func182,ntmps182
  go_wp2_with (first
   |(go_at_call 148;refine (wY _ _).mono ?_;rintro e w' ⟨rfl,rfl⟩))
  go_ret;exact ⟨aT (by rw [h.out]),Ext.refl _⟩
structure gU (T:ak):Prop where
 cat:vT T.cat∧T.cat.length≤256
 cls:vT T.cls∧T.cls.length≤256
 bP:vT T.bP∧T.bP.length≤256
 bQ:vT T.bQ∧T.bQ.length≤256
 scr:vT T.scr∧T.scr.length≤256
 aU:vT T.aU∧T.aU.length≤256
 aZ:vT T.aZ∧T.aZ.length≤256
 ext:uU T.ext∧T.ext.length≤256
 mps:uU T.mps∧T.mps.length≤256
 dec:uU T.dec∧T.dec.length≤256
 exc:EM T.exc∧T.exc.length≤256
 dX:uU T.dX∧T.dX.length≤256
structure nN (T:ak):Prop where
 ext:Ae T.ext
 mps:Ae T.mps
 dec:Ae T.dec
 dX:Ae T.dX
theorem iM (t:TV) (T:ak) (c:Int) (w:World) (ht:aS w t T) (a:gU T):
 Calls prog 187 #[t.v,.int .i64 c] w fun e w'=>e= .returned (.int .i64 (aH T c))∧Ext w w':=by
 have b:=ht.cls.ext ((Ext.refl w).aB (.cells t.v.cells 26));go_enter func187,ntmps187;go_wp2_with (go_at_call 216;refine (EC T.cls _ _ _ _ _ b a.cls.1 a.cls.2).mono ?_;rintro e f ⟨rfl,d⟩);go_ret;exact ⟨rfl,((Ext.refl w).aB _).trans' d⟩
theorem H7 (t:TV) (T:ak) (c:Int) (w:World) (ht:aS w t T) (a:gU T):
 Calls prog 250 #[t.v,.int .i64 c] w fun e w'=>e= .returned (.int .i64 (jX T c))∧Ext w w':=by
 have b:=ht.bP.ext ((Ext.refl w).aB (.cells t.v.cells 26));go_enter func250,ntmps250;go_wp2_with (go_at_call 216;refine (EC T.bP _ _ _ _ _ b a.bP.1 a.bP.2).mono ?_;rintro e f ⟨rfl,d⟩);go_ret;exact ⟨rfl,((Ext.refl w).aB _).trans' d⟩
theorem Wh (t:TV) (T:ak) (c:Int) (w:World) (ht:aS w t T) (a:gU T):
 Calls prog 211 #[t.v,.int .i64 c] w fun e w'=>e= .returned (.bool (wR T c))∧Ext w w':=by
 have b:=ht.aZ.ext ((Ext.refl w).aB (.cells t.v.cells 26));go_enter func211,ntmps211;go_wp2_with (go_at_call 216;refine (EC T.aZ _ _ _ _ _ b a.aZ.1 a.aZ.2).mono ?_;rintro e f ⟨rfl,d⟩);go_ret;exact ⟨rfl,((Ext.refl w).aB _).trans' d⟩
theorem EF (t:TV) (T:ak) (c:Int) (w:World) (ht:aS w t T) (a:gU T):
 Calls prog 139 #[t.v,.int .i64 c] w fun e w'=>e= .returned (.int .i64 (dV T c))∧Ext w w':=by
 have b:=ht.aU.ext ((Ext.refl w).aB (.cells t.v.cells 26));go_enter func139,ntmps139;go_wp2_with (go_at_call 182;refine (EP 183 vY T.aU _ _ _ _ _ b a.aU.1 a.aU.2 Tryz.call183 (fun _=>Xf _ _ _ _ _)).mono ?_;rintro e f ⟨rfl,d⟩);go_ret;exact ⟨rfl,((Ext.refl w).aB _).trans' d⟩
theorem GK (t:TV) (T:ak) (c:Int) (w:World) (ht:aS w t T) (a:gU T):
 Calls prog 251 #[t.v,.int .i64 c] w fun e w'=>e= .returned (.int .i64 (lJ T c))∧Ext w w':=by
 have b:=ht.scr.ext ((Ext.refl w).aB (.cells t.v.cells 26));go_enter func251,ntmps251;go_wp2_with (go_at_call 182;refine (EP 253 xq T.scr _ _ _ _ _ b a.scr.1 a.scr.2 Tryz.call253 (fun _=>Xa _ _ _ _ _)).mono ?_;rintro e f ⟨rfl,d⟩);go_ret;exact ⟨rfl,((Ext.refl w).aB _).trans' d⟩
theorem NP (t:TV) (T:ak) (c:Int) (w:World) (ht:aS w t T) (l:gU T) (q:nN T):
 Calls prog 178 #[t.v,.int .i64 c] w fun e w'=>e= .returned (.bool (pq T c))∧Ext w w':=by
 have n:=ht.dec.ext ((Ext.refl w).aB (.cells t.v.cells 26));have h:Hid (pq T c=((aO T.dec c).isEmpty&& !wR T c)):=rfl;go_enter func178,ntmps178;go_wp2_with fail;refine (find_spec T.dec _ _ _ c _ n l.dec.1 q.dec l.dec.2).mono ?_;rintro e p ⟨r,s,x,rfl,i,a,m⟩;have d:Ext w p:=((Ext.refl w).aB _).trans' m;obtain ⟨y,z⟩:=vG m.b;rcases zG i a with ⟨f,rfl,rfl,rfl⟩|⟨b,o,f,rfl⟩
 ·have g:Hid (aO T.dec c=[]):=f;clear f i a;go_wp2_with fail;refine (Wh t T c _ (ht.aF d) l).mono ?_;rintro e A ⟨rfl,j⟩;have k:Hid (pq T c= !wR T c):=by rw [h.out,g.out];rfl
  clear h g;go_wp2;go_ret;exact ⟨aJ (by rw [k.out]),d.trans' j⟩
 ·have g:Hid (aO T.dec c≠[]):=f;clear f i a;have k:Hid (pq T c=false):=by
   rw [h.out];have:(aO T.dec c).isEmpty=false:=by simpa using g.out
   rw [this];rfl
  clear h g;go_wp2_with fail;go_ret;exact ⟨aJ (by rw [k.out]),d⟩
end Go.Proofs.YtjccgagakfndpaaGreatDoor
