/- Part Yb01. -/
import Derived.Test.YtjccgagakfndpaaGreatDoorYb00
open Go.Proofs.Tryz
namespace Go.Proofs.YtjccgagakfndpaaGreatDoor
set_option maxHeartbeats 25600000
set_option maxRecDepth 100000
open Go.RowKit
def hide (M:List Nat) (w:World):World:= {w with heap:=w.heap.mapIdx fun i o=>if i∈M then .pending #[] 0 else o}
theorem KY (M:List Nat) (w:World):(hide M w).heap.size=w.heap.size:=by simp [hide]
theorem kK (M:List Nat) (w:World) (p:Addr):(hide M w).cell? p=if p.block∈M then none else w.cell? p:=by
 unfold World.cell? hide;simp only [Array.getElem?_mapIdx];cases h:w.heap[p.block]? with
 |none=>simp
 |some o=>
  by_cases a:p.block∈M
  ·simp [a]
  ·simp [a]
structure Kp (M:List Nat) (w w':World):Prop where
 os:w'.os=w.os
 tape:w'.tape=w.tape
 output:w'.output=w.output
 size:w.heap.size≤w'.heap.size
 block:∀ k,k<w.heap.size→k∉M→w'.heap[k]? =w.heap[k]?
theorem Kp.cell {M:List Nat} {w w':World} (h:Kp M w w'):∀ p:Addr,p.block<w.heap.size→p.block∉M→w'.cell? p=w.cell? p:=fun _ hp hm=>World.cell?_of_block (h.block _ hp hm)
theorem Kp.frozen {M:List Nat} {w w':World} (h:Kp M w w'):∀ p:Addr,p.block<w.heap.size→p.block∉M→w'.frozen? p=w.frozen? p:=fun _ hp hm=>World.frozen?_of_block (h.block _ hp hm)
theorem Kp.refl (M:List Nat) (w:World):Kp M w w:=⟨rfl,rfl,rfl,Nat.le_refl _,fun _ _ _=>rfl⟩
theorem Kp.trans {M:List Nat} {a b c:World} (h:Kp M a b) (k:Kp M b c):Kp M a c:=
 ⟨k.os.trans h.os,k.tape.trans h.tape,k.output.trans h.output,Nat.le_trans h.size k.size,fun p hp hm=>(k.block p (Nat.lt_of_lt_of_le hp h.size) hm).trans (h.block p hp hm)⟩
theorem Kp.mono {M M':List Nat} {w w':World} (h:Kp M w w') (a:∀ b∈M,b∈M'∨w.heap.size≤b):Kp M' w w':=
 ⟨h.os,h.tape,h.output,h.size,fun p hp hn=>h.block p hp fun hb=>(a _ hb).elim hn (fun h=>by omega)⟩
theorem Kp.dG {M:List Nat} {w w':World} (h:Ext w w'):Kp M w w':=⟨h.b.os,h.b.tape,h.b.output,h.b.size,fun _ hp _=>h.b.block _ hp⟩
theorem Kp.eH {M:List Nat} {w w':World} {row:Option Nat} (h:w.grownBy w' row) (a:∀ b,row=some b→b∈M):Kp M w w':=
 ⟨h.os,h.tape,h.output,h.size,fun k hk hm=>h.block k hk fun e=>hm (a _ e.symm)⟩
theorem Kp.setCell (M:List Nat) (w:World) (p:Addr) (v:Value) (b:p.block∈M):Kp M w (w.setCell p v):=by
 refine ⟨rfl,rfl,rfl,by simp,fun k _ hm=> ?_⟩;have a:p.block≠k:=fun e=>hm (e▸b)
 simp [World.setCell,Array.getElem?_modify,a]
theorem Own.kp {M:List Nat} {w w':World} {f n c:Nat} {e:TypeId} {size:Nat} {A:Option Addr} {m:List Value} (h:Own w f e size A n c m) (r:Kp M w w') (hM:∀ b,aT A=some b→b∉M):Own w' f e size A n c m:=by
 cases A with
 |none=>
  rcases h.2 with k|⟨g,i,j,d,_⟩
  ·exact ⟨h.1,.inl k⟩
  ·cases d
 |some a=>
  have l:=(h.lt a.block rfl).2;have o:=r.block a.block l (hM _ rfl);rcases h.2 with ⟨d,_⟩|⟨g,i,j,d,p,k,q⟩
  ·cases d
  ·have hg:a.block=g:=by injection d with d;injection d with d;rw [d]
   refine ⟨h.1,.inr ⟨g,i,j,d,p,?_,q⟩⟩;rw [← hg,o,hg];exact k
theorem rF {M M':List Nat} {w w':World} (h:Kp M w w') (d:∀ b∈M,b∈M') (f:∀ b∈M',b∈M∨w.heap.size≤b):∀ p:Addr,p.block<(hide M w).heap.size→(hide M' w').cell? p=(hide M w).cell? p:=by
 intro p c;rw [KY] at c;rw [kK,kK];by_cases a:p.block∈M
 ·rw [if_pos a,if_pos (d _ a)]
 ·rw [if_neg a,if_neg (fun h'=>(f _ h').elim a (fun h=>by omega)),h.cell p c a]
theorem bQ {M:List Nat} {w w':World} (h:Kp M w w'):∀ p:Addr,p.block<(hide M w).heap.size→(hide M w').cell? p=(hide M w).cell? p:=rF h (fun _ h=>h) (fun _ h=> .inl h)
theorem rG {M:List Nat} {w:World} {p:Addr} {v:Value} (h:(hide M w).cell? p=some v):w.cell? p=some v:=by
 rw [kK] at h;by_cases a:p.block∈M
 ·rw [if_pos a] at h;cases h
 ·rw [if_neg a] at h;exact h
theorem aX.sub {w w':World} {s:SV} {l:List Int} (h:aX w s l) (d:∀ p v,w.cell? p=some v→w'.cell? p=some v):aX w' s l:=
 ⟨h.1,fun i x hx=>by obtain ⟨b,o,a,c⟩:=h.2 i x hx;exact ⟨b,o,a,d _ _ c⟩⟩
theorem bP.sub {w w':World} {s:SV} {l:List Sp} (h:bP w s l) (a:∀ p v,w.cell? p=some v→w'.cell? p=some v):bP w' s l:=
 ⟨h.1,fun i x hx=>by obtain ⟨b,o,c,d,f,g⟩:=h.2 i x hx;exact ⟨b,o,c,a _ _ d,a _ _ f,a _ _ g⟩⟩
theorem fA.sub {w w':World} {s:SV} {l:List Mp} (h:fA w s l) (a:∀ p v,w.cell? p=some v→w'.cell? p=some v):fA w' s l:=
 ⟨h.1,fun i x hx=>by obtain ⟨b,o,c,d,f,g,j,k,m⟩:=h.2 i x hx;exact ⟨b,o,c,d,f,g,a _ _ j,a _ _ k,m.sub a⟩⟩
def fV (v n:Int):Int:=v % 18446744073709551616 % n
def jY (n:Int):List Int→Int
 |[]=>0
 |v::_=>fV v n
theorem jA (v:Int) {n:Int} (h:0<n):0≤fV v n∧fV v n<n:=⟨Int.emod_nonneg _ (by omega),Int.emod_lt_of_pos _ h⟩
theorem iI (r:List Int) {n:Int} (h:0<n):0≤jY n r∧jY n r<n:=by
 cases r with
 |nil=>exact ⟨Int.le_refl 0,h⟩
 |cons v r=>exact jA v h
theorem u64wrap (v:Int):IntKind.u64.wrap v=v % 18446744073709551616:=rfl
theorem aIU {v n:Int} (c:0<n) (d:n≤4611686018427387904):wrap64 ((IntKind.u64.wrap v).tmod n)=fV v n:=by
 have a:0≤v % 18446744073709551616:=Int.emod_nonneg _ (by omega);have b:(v % 18446744073709551616).tmod n=fV v n:=Int.tmod_eq_emod_of_nonneg a;rw [u64wrap,b];have:=jA v c;unfold wrap64;omega
theorem dD (v n:Int) (c:0<n) (a:n≤4611686018427387904) (w:World):
 Calls prog 18 #[.int .i64 v,.int .i64 n] w fun e w'=>e= .returned (.int .i64 (fV v n))∧w=w':=by
 have b:=aW0 (aIU (v:=v) c a);go_enter func18,ntmps18;go_wp2_with fail;go_ret;exact ⟨aY b.out,rfl⟩
def Src (w0 w:World) (g:Nat) (r:List Int):Prop:=∃ A n c L k,aX w0 ⟨A,n,c⟩ L∧w0.heap.size≤g∧w.cell? ⟨g,0,none⟩=some (.slice A n c)∧w.cell? ⟨g,1,none⟩=some (.int .i64 (k:Nat))∧w.frozen? ⟨g,1,none⟩=false∧k≤L.length∧r=L.drop k
theorem Src.kp {i w w':World} {g:Nat} {r:List Int} {M:List Nat} (h:Src i w g r) (b:Kp M w w') (d:g∉M):Src i w' g r:=by
 obtain ⟨A,n,c,L,k,j,l,f,m,o,p,h6⟩:=h;have a:=World.block_lt_of_cell? w _ f;exact ⟨A,n,c,L,k,j,l,by rw [b.cell _ a d];exact f,by rw [b.cell ⟨g,1,none⟩ a d];exact m,by rw [b.frozen ⟨g,1,none⟩ a d];exact o,p,h6⟩
theorem zQ (l:List Int) (A:Option Addr) (n c:Nat) (w:World) (h:aX w ⟨A,n,c⟩ l):
 Calls prog 29 #[.slice A n c] w fun e w'=>e= .returned (.pointer (some ⟨w.heap.size,0,none⟩))∧Src w w' w.heap.size l∧Ext w w':=by
 go_enter func29,ntmps29;go_wp2_with fail;go_ret;refine ⟨rfl,⟨A,n,c,l,0,h,Nat.le_refl _,?_,?_,?_,Nat.zero_le _,rfl⟩,(Ext.refl w).aB _⟩
 ·exact World.cell?_alloc_new w _ _ 0
 ·exact World.cell?_alloc_new w _ _ 1
 ·simp
theorem dP (j w:World) (g:Nat) (r:List Int) (m:Int) (hm:0<m) (E:m≤4611686018427387904) (hs:Src j w g r) (O:Ext j w):
 Calls prog 30 #[.pointer (some ⟨g,0,none⟩),.int .i64 m] w fun e w'=>e= .returned (.int .i64 (jY m r))∧Src j w' g r.tail∧Kp [g] w w'∧Ext j w':=by
 obtain ⟨A,n,c,L,k,s,t,F,G,H,P,rfl⟩:=hs;obtain ⟨Q,_,_⟩:=s.len;subst Q;have R:=z0' k;have I:=aW0 s;by_cases l:k<L.length
 ·have y:=aW0 (drop_at L k l);obtain ⟨b,o,S,J⟩:=s.at_ l;subst S;have T:=World.block_lt_of_cell? j _ J;generalize L[k]=x at*;have U:(k:Int)<(L.length:Int):=by omega
  have V:decide ((L.length:Int)≤(k:Int))=false:=dF';have z:decide (L.length≤k)=false:=dF';go_enter func30,ntmps30;go_wp2_with fail;go_region;go_wp2_with fail;obtain ⟨d,a⟩:∃ d,d=(w.setCell ⟨g,1,none⟩ (.int .i64 ((k:Int)+1))).drew:=⟨_,rfl⟩;rw [← a];have f:Ext j d:=by rw [a];exact (O.jS t _).dK
  have B:Kp [g] w d:=by rw [a];exact Kp.trans (Kp.setCell _ _ _ _ (by simp)) (Kp.dG (Ext.refl _).dK)
  have c0:d.cell? ⟨g,0,none⟩=some (.slice (some ⟨b,o,none⟩) L.length c):=by rw [a];exact (World.cell?_setCell_other _ _ _ _ (by simp)).trans F
  have c1:d.cell? ⟨g,1,none⟩=some (.int .i64 ((k:Int)+1)):=by rw [a];exact World.cell?_setCell_same _ _ _ G
  have W:d.frozen? ⟨g,1,none⟩=false:=by rw [a];exact (World.frozen?_setCell _ _ _ _).trans H
  have X:d.cell? ⟨b,o+k,none⟩=some (.int .i64 x):=aW (bC f) J;clear a;have K:∀ yy:aS d,yy.w.cell? ⟨g,0,none⟩=some (.slice (some ⟨b,o,none⟩) L.length c):=bU c0;have M:∀ yy:aS d,yy.w.cell? ⟨g,1,none⟩=some (.int .i64 ((k:Int)+1)):=bU c1;have Y:∀ yy:aS d,yy.w.cell? ⟨b,o+k,none⟩=some (.int .i64 x):=bU X;have N:(k:Int)+1 - 1=(k:Int):=by omega
  refine rX' ?_
  repeat (go_big_quiet_step ((go_at_call 18;exact gK (dD x m hm E _))))
  refine wpQuiet_nil ?_;rintro _ ⟨i,rfl⟩;have C:Hid (jY m (L.drop k)=fV x m):=aW0 (by rw [y.out];rfl);have D:Hid ((L.drop k).tail=L.drop (k+1)):=aW0 (by rw [y.out];rfl);have Z:=K i;have e1:=M i;have ef:i.w.frozen? ⟨g,1,none⟩=false:=by rw [i.h.b.frozen (p:=⟨g,1,none⟩) (World.block_lt_of_cell? d _ c1)];exact W
  clear K M Y y;go_wp2_with fail;go_ret;exact ⟨aY C.out.symm,⟨_,_,_,L,k+1,I.out,t,Z,by rw [e1];rfl,ef,by omega,D.out⟩,B.trans (Kp.dG i.h),f.trans' i.h⟩
 ·have q:k=L.length:=by omega
  have V:decide ((L.length:Int)≤(k:Int))=true:=dT';have z:decide (L.length≤k)=true:=dT';go_enter func30,ntmps30;go_wp2_with fail;go_region;go_wp2_with fail;have C:Hid (jY m (L.drop k)=0):=aW0 (by rw [q,List.drop_length];rfl);have D:Hid ((L.drop k).tail=L.drop k):=aW0 (by rw [q,List.drop_length];rfl);go_ret;exact ⟨aY C.out.symm,⟨_,_,_,L,k,I.out,t,F,G,H,P,D.out⟩,Kp.dG (Ext.refl _).dK,O.dK⟩
def fM:List Int:=[0xad,0xb7,0x301,0x308,0x323,0x345,0x375,0x3b1,0x3b2,0x3b3,0x430,0x5d0,0x5f3,0x628,0x629,0x660,0x6f0,0x94d,0x1e00,0x1e01,0x1e02,0x1e03,0x1e04,0x200c,0x200d,0x30fb,0x4e00,0x1f600]
structure Us where
 cat:Int
 cls:Int
 nY:Int
 tY:Int
 scr:Int
 jQ:Int
deriving DecidableEq
def usV (c:Int):Us:=
 if (c==0xad||c==0x200c||c==0x200d)=true then ⟨8,0,5,9,1,4⟩
 else if (c==0xb7||c==0x375||c==0x30fb)=true then ⟨5,0,0,8,1,1⟩
 else if c=0x323 then ⟨2,220,5,10,2,1⟩
 else if c=0x94d then ⟨2,9,5,10,20,1⟩
 else if 0x301≤c∧c≤0x345 then ⟨2,230,5,10,2,1⟩
 else if 0x3b1≤c∧c≤0x3b3 then ⟨1,0,0,0,4,1⟩
 else if c=0x430 then ⟨1,0,0,0,5,1⟩
 else if (c==0x5d0||c==0x5f3)=true then ⟨1,0,0,1,11,1⟩
 else if (c==0x628||c==0x629)=true then ⟨1,0,3,2,12,1⟩
 else if c=0x660 then ⟨3,0,0,3,1,1⟩
 else if c=0x6f0 then ⟨3,0,0,4,1,1⟩
 else if c=0x4e00 then ⟨1,0,0,0,6,1⟩
 else if 0x1e00≤c∧c≤0x1e04 then ⟨1,0,0,0,3,1⟩
 else ⟨6,0,0,8,1,0⟩
abbrev Us.v (u:Us):Value:= .agg #[.int .i64 u.cat,.int .i64 u.cls,.int .i64 u.nY,.int .i64 u.tY,.int .i64 u.scr,.int .i64 u.jQ]
theorem usual_spec (c:Int) (a:c∈fM) (w:World):Calls prog 32 #[.int .i64 c] w fun e w'=>e= .returned (usV c).v∧Ext w w':=by
 simp only [fM,List.mem_cons,List.not_mem_nil,or_false] at a;rcases a with rfl|rfl|rfl|rfl|rfl|rfl|rfl|rfl|rfl|rfl|rfl|rfl|rfl|rfl|rfl|rfl|rfl|rfl|rfl|rfl|rfl|rfl|rfl|rfl|rfl|rfl|rfl|rfl
 all_goals
  go_enter func32,ntmps32;go_wp2_with fail;refine bodyPost_ret (v:=(usV _).v) ?_ rfl ⟨rfl,?_⟩
  ·simp [results,Tryz.results32,go_sem];decide
  ·exact (Ext.refl w).aB _
theorem eU (w:World) (l:List Int) (t:TypeId) (h:l.length≤maxLen):aX (w.alloc (.cells (l.map (Value.int .i64)).toArray t)) ⟨some ⟨w.heap.size,0,none⟩,l.length,l.length⟩ l:=by
 refine ⟨⟨rfl,Nat.le_refl _,h⟩,fun i x hx=>⟨w.heap.size,0,rfl,?_⟩⟩;rw [Nat.zero_add,World.cell?_alloc_new];simp [hx]
theorem aX.qQ {w:World} {q o n c:Nat} {l:List Int} {M:List Nat} (h:aX w ⟨some ⟨q,o,none⟩,n,c⟩ l) (j:q∉M):aX (hide M w) ⟨some ⟨q,o,none⟩,n,c⟩ l:=by
 refine ⟨h.1,fun i x hx=> ?_⟩;obtain ⟨b,d,a,f⟩:=h.2 i x hx;refine ⟨b,d,a,?_⟩;simp only [Option.some.injEq] at a;have g:q=b:=by injection a
 rw [kK,if_neg (by rw [← g];exact j)];exact f
theorem YN (w:World):Calls prog 31 #[] w fun e w'=>e= .returned (.slice (some ⟨w.heap.size,0,none⟩) 28 28)∧aX w' ⟨some ⟨w.heap.size,0,none⟩,28,28⟩ fM∧Ext w w':=by
 go_enter func31,ntmps31;go_wp2_with fail;go_ret;exact ⟨rfl,eU w fM _ (by decide),(Ext.refl w).aB _⟩
def GL (r:List Int) (vs:List Int):Int:=if 0<jY 3 r then vs.getD 0 0 else vs.getD (jY vs.length r.tail).toNat 0
def lZ (r:List Int):List Int:=if 0<jY 3 r then r.tail else r.tail.tail
theorem choose_spec (j w:World) (g:Nat) (r vs:List Int) (A:Option Addr) (n c:Nat) (X:Src j w g r) (Y:Ext j w) (G:aX (hide [g] w) ⟨A,n,c⟩ vs) (J:0<vs.length) (h1:vs.length≤1000):
 Calls prog 33 #[.pointer (some ⟨g,0,none⟩),.slice A n c] w fun e w'=>e= .returned (.int .i64 (GL r vs))∧Src j w' g (lZ r)∧Kp [g] w w'∧Ext j w':=by
 obtain ⟨K,_,_⟩:=G.len;subst K;have L:=aW0 G;obtain ⟨b,o,M,a⟩:=G.at_ J;subst M;simp only [Nat.add_zero] at a;have N:Hid (vs.getD 0 0=vs[0]):=getD_lt vs 0 0 J;generalize vs[0]=x at*;go_enter func33,ntmps33;go_wp2_with fail;refine (dP j w g r 3 (by decide) (by decide) X Y).mono ?_;rintro e H ⟨rfl,m,i,k⟩;have I:=aW0 m;by_cases f:0<jY 3 r
 ·have O:decide (0<jY 3 r)=true:=by rw [aYu];exact f
  have p:Hid (GL r vs=x):=aW0 (by rw [GL,if_pos f,N.out]);have s:Hid (lZ r=r.tail):=aW0 (if_pos f);have P:H.cell? ⟨b,o,none⟩=some (.int .i64 x):=by
   rw [i.cell _ (by have:=World.block_lt_of_cell? _ _ a;rw [KY] at this;exact this) (fun hm=>by rw [kK,if_pos hm] at a;cases a)];exact rG a
  clear f;go_wp2_with fail;go_ret;exact ⟨aY p.out.symm,by rw [s.out];exact I.out,i,k⟩
 ·have O:decide (0<jY 3 r)=false:=by rw [aYt];exact f
  have t:=iI r.tail (n:=(vs.length:Int)) (by omega);obtain ⟨q,z⟩:∃ q:Nat,jY (vs.length:Int) r.tail=q:=⟨(jY (vs.length:Int) r.tail).toNat,by omega⟩;have l:q<vs.length:=by omega
  have p:Hid (GL r vs=vs[q]):=aW0 (by rw [GL,if_neg f,z,Int.toNat_natCast];exact getD_lt vs q 0 l);have s:Hid (lZ r=r.tail.tail):=aW0 (if_neg f);obtain ⟨Z,o',B,d⟩:=L.out.at_ l;injection B with B;injection B with Q R;subst Q R;generalize vs[q]=y at*;have S:=aW0 z;have T:=z0' q;have U:(q:Int)<(vs.length:Int):=by omega
  clear f t z;go_wp2_with fail;refine (dP j H g r.tail vs.length (by omega) (by omega) I.out k).mono ?_;rintro e V ⟨rfl,C,D,E⟩;rw [S.out];have F:=aW0 C;have h:=i.trans D;have W:V.cell? ⟨b,o+q,none⟩=some (.int .i64 y):=by
   rw [h.cell _ (by have:=World.block_lt_of_cell? _ _ d;rw [KY] at this;exact this) (fun hm=>by rw [kK,if_pos hm] at d;cases d)];exact rG d
  go_wp2_with fail;go_ret;exact ⟨aY p.out.symm,by rw [s.out];exact F.out,h,E⟩
def kE:List Int→List Int→Bool
 |[],[]=>true
 |x::r,y::s=>x==y&&kE r s
 |_,_=>false
theorem SG:∀ (l m:List Int),l.length≠m.length→kE l m=false
 |[],[],h=>absurd rfl h
 |[],_::_,_=>rfl
 |_::_,[],_=>rfl
 |x::r,y::s,h=>by
  simp only [kE,SG r s (by simpa using h),Bool.and_false]
theorem jB:∀ (l m:List Int),kE l m=true↔l=m
 |[],[]=>by simp [kE]
 |[],_::_=>by simp [kE]
 |_::_,[]=>by simp [kE]
 |x::r,y::s=>by simp [kE,jB r s]
theorem jG (l m:List Int) (A:Option Addr) (n c:Nat) (A2:Option Addr) (H c2:Nat) (w:World) (h:aX w ⟨A,n,c⟩ l) (I:aX w ⟨A2,H,c2⟩ m):
 Calls prog 64 #[.slice A n c,.slice A2 H c2] w fun e w'=>e= .returned (.bool (kE l m))∧Ext w w':=by
 obtain ⟨J,_,_⟩:=h.len;obtain ⟨t,_,_⟩:=I.len;subst J t;have K:=aW0 h;have L:=aW0 I;by_cases a:l.length=m.length
 ·have M:((l.length:Int) != (m.length:Int))=false:=by rw [a];simp
  have C:=aW0 a;have N:Hid ((m.length:Int)=(l.length:Int)):=aW0 (by rw [a]);clear a;go_enter func64,ntmps64;go_wp2_with fail;go_loopw [13] (fun i wr=>∃ (k:Nat),k≤l.length∧i= .int .i64 k∧Hid (kE l m=kE (l.drop k) (m.drop k))∧Ext w wr) (fun i _=>l.length - (intOf i).toNat)
  case atStart=>exact ⟨0,Nat.zero_le _,rfl,rfl,Ext.refl _⟩
  case round=>
   obtain ⟨k,X,rfl,r,f⟩:=hrel;by_cases j:k<l.length
   ·have g:k<m.length:=by rw [← C.out];exact j
    obtain ⟨b,o,O,D⟩:=(K.out.ext f).at_ j;obtain ⟨P,Q,z,E⟩:=(L.out.ext f).at_ g;subst O z;have F:=aW0 (drop_at l k j);have G:=aW0 (drop_at m k g);generalize l[k]=x at*;generalize m[k]=y at*;have s:=aJ r (show _=(x==y&&kE (l.drop (k+1)) (m.drop (k+1))) from by rw [F.out,G.out];rfl);clear r F G;have R:∀ yy:aS wr,yy.w.cell? ⟨b,o+k,none⟩=some (.int .i64 x):=bU D;have S:∀ yy:aS wr,yy.w.cell? ⟨P,Q+k,none⟩=some (.int .i64 y):=bU E;have T:=z0' k;have U:(k:Int)<(l.length:Int):=by omega
    have V:(k:Int)<(m.length:Int):=by omega
    go_wp2_with fail;refine rX' ?_
    repeat (go_big_quiet_step (fail))
    refine wpQuiet_nil ?_;rintro _ ⟨W,rfl⟩;have q:=f.trans' W.h;clear R S D E;by_cases d:x=y
    ·have B:(x != y)=false:=by rw [d];simp
     have p:=aJ s (show _=kE (l.drop (k+1)) (m.drop (k+1)) from by rw [d];simp);clear s d;go_wp2_with fail;go_roundw
     case rel=>exact ⟨k+1,by omega,by go_num,p,q⟩
     case measure=>simp [intOf];omega
    ·have B:(x != y)=true:=bN' d;have p:=aJ s (show _=false from by rw [beq_eq_false_iff_ne.2 d];rfl);clear s d;go_wp2_with fail;go_ret;exact ⟨aK p.out.symm,q⟩
   ·have p:=aJ r (show _=true from by rw [bH l k (by omega),bH m k (by rw [← C.out];omega)];rfl);clear r;go_wp2_with fail;go_ret;exact ⟨aK p.out.symm,f⟩
 ·have M:((l.length:Int) != (m.length:Int))=true:=by rw [bne_iff_ne];omega
  have p:=aW0 (SG l m a);clear a;go_enter func64,ntmps64;go_wp2_with fail;go_ret;exact ⟨aK p.out.symm,Ext.refl _⟩
structure KpW (M:List Nat) (w0:World) where
 w:World
 h:Kp M w0 w
instance (M:List Nat) (w0:World):Nonempty (KpW M w0):=⟨⟨w0,Kp.refl M w0⟩⟩
section
variable {P:Program} {ops:Array Oper} {Q:Exit→Act→World→Prop}
def TN (M:List Nat) (P:Program) (ops:Array Oper) (Q:Exit→Act→World→Prop):Nat→Array Bool→Act→World→Prop
 |0,listed,a,w=>Region.ready .any ops listed=[]∧Q .normal a w
 |fuel+1,listed,a,w=>(Region.ready .any ops listed=[]→Q .normal a w)∧
  ∀ i∈Region.ready .any ops listed,wpOp P ops Q i (fun a' w'=>Kp M w w'∧TN M P ops Q fuel (listed.setIfInBounds i true) a' w') a w
theorem a0D {M:List Nat} {Post:Act→World→Prop} (b:∀ a w,Post a w→Q .normal a w):∀ (fuel:Nat) (listed:Array Bool) (a:Act) (w:World),TN M P ops (lG Q Post) fuel listed a w→wpAny P .any ops Q fuel listed a w
 |0,_,_,_,h=>⟨h.1,b _ _ h.2⟩
 |fuel+1,_,_,_,h=>⟨fun h0=>b _ _ (h.1 h0),fun i hi=>wpOp_mono (fun a' w' h'=>a0D b fuel _ a' w' h'.2) (VF (h.2 i hi))⟩
theorem a3V {M:List Nat} {o:Oper} {v:Value} {a:Act} {w w':World} (h:YieldsIf P ops (Kp M w) o v a) (b:Kp M w w'):YieldsIf P ops (Kp M w') o v a:=
 h.imp (fun ⟨hw,hv⟩=>⟨hw,fun x hxx=>hv x (b.trans hxx)⟩) id
theorem a6t {M:List Nat} {Post:Act→World→Prop} {i:Nat} {q:Oper} {v:Value} (hi:ops[i]? =some q) (l:∀ (j:Nat) (o:Oper) cs b,ops[j]? =some o→o.op≠ .select cs b):
 ∀ (fuel:Nat) (listed:Array Bool) (a:Act) (w:World),
  (∀ j oj,ops[j]? =some oj→j≠i→listed.getD j true=false→(∀ e∈oj.after,Region.binds .any e=true→e.on≠i)→q.apart ops oj=true)→
  i∈Region.ready .any ops listed→YieldsIf P ops (Kp M w) q v a→
  TN M P ops (lG Q Post) fuel (listed.setIfInBounds i true) (a.put q.dst v) w→TN M P ops (lG Q Post) (fuel+1) listed a w:=by
 intro fuel
 induction fuel with
 |zero=>
  intro listed a w _ m x H;refine ⟨fun h=>(by rw [h] at m;cases m),fun j hj=> ?_⟩;by_cases c:j=i
  ·subst c;exact x.wpOp hi (Kp.refl M w) ⟨Kp.refl M w,H⟩
  ·have:=ready_mono hj c;rw [H.1] at this;cases this
 |succ fuel ih=>
  intro listed a w d m x H;refine ⟨fun h=>(by rw [h] at m;cases m),fun j hj=> ?_⟩;by_cases c:j=i
  ·subst c;exact x.wpOp hi (Kp.refl M w) ⟨Kp.refl M w,H⟩
  ·have n:=H.2 j (ready_mono hj c);obtain ⟨g,oj,p,r⟩:=mem_ready.1 hj;have s:∀ e∈oj.after,Region.binds .any e=true→e.on≠i:=fun e he hb heq=>by
    have n:=r e he hb;have z:=(mem_ready.1 m).1;rw [heq] at n;rcases Nat.lt_or_ge i listed.size with y|y
    ·simp [y] at z n;rw [z] at n;cases n
    ·simp [Array.getElem?_eq_none y] at n
   have A:=wpOp_putIf p (d j oj p c g s) (fun cs b=>l i q cs b hi) (fun cs b=>l j oj cs b p) (fun _ _ _ h=>h) x n;have f:∀ k ok,ops[k]? =some ok→k≠i→(listed.setIfInBounds j true).getD k true=false→
    (∀ e∈ok.after,Region.binds .any e=true→e.on≠i)→q.apart ops ok=true:=fun k ok hk hki hun hno=>by
    refine d k ok hk hki ?_ hno;by_cases t:j=k
    ·subst t;exact g
    ·rw [getD_set_ne true t] at hun;exact hun
   refine wpOp_mono (fun a' w' h3=>⟨h3.2.1,ih (listed.setIfInBounds j true) a' w' f (ready_mono m (Ne.symm c)) (a3V h3.1 h3.2.1) ?_⟩) A;rw [Array.setIfInBounds_comm _ _ c];exact h3.2.2
theorem aA3 {M:List Nat} {Post:Act→World→Prop} {b:Array Bool} {a:Act} {w:World} (c:Region.ready .any ops b=[]) (h:Post a w):∀ fuel,TN M P ops (lG Q Post) fuel b a w
 |0=>⟨c,h⟩
 |fuel+1=>⟨fun _=>h,fun i hi=>by rw [c] at hi;cases hi⟩
def aEV (M:List Nat) (w:World) (next:Act→World→Prop) (a':Act) (w':World):Prop:=Kp M w w'∧next a' w'
def TU (M:List Nat) (P:Program) (ops:Array Oper) (Q:Exit→Act→World→Prop) (Post:Act→World→Prop):List (List Nat × Nat)→List Nat→Act→World→Prop
 |[],last,a,w=>wpQuiet P ops (fun w'=>∃ x:KpW M w,w'=x.w) (fun a'=>Post a' w) (opsOf ops last) a
 |(s,i)::r,last,a,w=>wpQuiet P ops (fun w'=>∃ x:KpW M w,w'=x.w) (fun a'=>wpList P ops (lG Q (aEV M w (TU M P ops Q Post r last))) (opsOf ops [i]) a' w) (opsOf ops s) a
theorem PD {M:List Nat} {Post:Act→World→Prop} {w:World} (l:Region.noSelect ops=true):∀ (s:List Nat) (fuel:Nat) (listed:Array Bool) (a:Act),EZ ops s listed=true→
 wpQuiet P ops (fun w'=>∃ x:KpW M w,w'=x.w) (fun a'=>TN M P ops (lG Q Post) fuel (nD s listed) a' w) (opsOf ops s) a→TN M P ops (lG Q Post) (s.length+fuel) listed a w
 |[],fuel,listed,a,_,h=>by simpa [opsOf,wpQuiet,nD] using h
 |i::s,fuel,listed,a,hB,h=>by
  simp only [EZ,aYr] at hB;obtain ⟨⟨⟨f,m⟩,b⟩,g⟩:=hB;cases c:ops[i]? with
  |none=>rw [c] at f;cases f
  |some o=>
   rw [c] at f;have j:opsOf ops (i::s)=o::opsOf ops s:=by simp [opsOf,c]
   rw [j] at h;unfold wpQuiet at h;have key:∃ v,YieldsIf P ops (Kp M w) o v a∧wpQuiet P ops (fun w'=>∃ x:KpW M w,w'=x.w) (fun a'=>TN M P ops (lG Q Post) fuel (nD s (listed.setIfInBounds i true)) a' w) (opsOf ops s) (a.put o.dst v):=by
    split at h
    ·rename_i k;obtain ⟨v,p,q⟩:=h;refine ⟨v,.inl ⟨k,fun w' hw'=> ?_⟩,q⟩;have d:=p w' ⟨⟨w',hw'⟩,rfl⟩;unfold Oper.quietAt at d;cases b:(execOp a.eval o).run P w' with
     |ok n w2=>
      obtain ⟨u,rfl⟩:=YD f b;rw [b] at d;obtain ⟨j,r⟩:=d;rw [j,r]
     |halt x w2=>rw [b] at d;exact d.elim
    ·rename_i k;exact ⟨undef,.inr ⟨by simpa using k,rfl⟩,h⟩
   obtain ⟨v,t,y⟩:=key;rw [show (i::s).length+fuel=(s.length+fuel)+1 from by simp only [List.length_cons];omega];exact a6t c (Region.noSelect_spec l) (s.length+fuel) listed a w (Region.free_spec c m) (by simpa using b) t (PD l s fuel _ _ g y)
theorem a3g {M:List Nat} {Post:Act→World→Prop} (f:Region.noSelect ops=true):∀ (ord:List (List Nat × Nat)) (last:List Nat) (fuel:Nat) (listed:Array Bool) (a:Act) (w:World),a5r ord last≤fuel→a5q ops ord last listed=true→
 TU M P ops Q Post ord last a w→TN M P ops (lG Q Post) fuel listed a w
 |[],last,fuel,listed,a,w,hn,hB,h=>by
  simp only [a5q,aYr,aYu] at hB;simp only [a5r] at hn;rw [show fuel=last.length+(fuel - last.length) from by omega];refine PD f last _ listed a hB.1 ?_;unfold TU at h;exact xA (fun a' b=>aA3 hB.2 b _) _ _ h
 |(s,i)::r,last,fuel,listed,a,w,hn,hB,h=>by
  simp only [a5q,aYr,aYu] at hB;obtain ⟨⟨⟨n,g⟩,k⟩,p⟩:=hB;simp only [a5r] at hn;rw [show fuel=s.length+((fuel - s.length - 1)+1) from by omega];refine PD f s _ listed a n ?_;unfold TU at h;refine xA (fun a' b=> ?_) _ _ h;refine ⟨fun h0=>(by rw [g] at h0;cases h0),fun j hj=> ?_⟩;rw [g] at hj;obtain rfl:j=i:=by simpa using hj
  cases d:ops[j]? with
  |none=>rw [d] at k;cases k
  |some o=>
   have q:opsOf ops [j]=[o]:=by simp [opsOf,d]
   rw [q] at b;have m:∀ a'' w'',Kp M w w''∧TU M P ops Q Post r last a'' w''→Kp M w w''∧TN M P ops (lG Q Post) (fuel - s.length - 1) ((nD s listed).setIfInBounds j true) a'' w'':=fun a'' w'' hx=>
    ⟨hx.1,a3g f r last _ _ a'' w'' (by omega) p hx.2⟩
   unfold wpOp;simp only [d];unfold wpList at b;split
   ·rename_i c;rw [if_pos c] at b;rcases b with b|b
    ·exact .inl (Z9 (Oper.wp_mono (fun a'' w'' hk=>m a'' w'' hk) b))
    ·exact .inr b
   ·rename_i c;rw [if_neg c] at b;exact m _ _ b
where
 xA {C:World→Prop} {K K':Act→Prop} (hk:∀ a,K a→K' a):∀ (l:List Oper) (a:Act),wpQuiet P ops C K l a→wpQuiet P ops C K' l a
  |[],a,h=>hk a h
  |o::l,a,h=>by
   unfold wpQuiet at*;split
   ·rename_i c;rw [if_pos c] at h;exact Oper.quiet_mono (fun a' b=>xA hk l a' b) h
   ·rename_i c;rw [if_neg c] at h;exact xA hk l _ h
theorem region_xk (M:List Nat) {c:Nat} {a:Act} {w:World} {l:List Oper} (ord:List (List Nat × Nat)) (last:List Nat) (d:P.follows .mixedOrders=true)
 (b:(Region.noSelect l.toArray&&a5q l.toArray ord last (Array.replicate l.length false)&&decide (a5r ord last≤l.length))=true)
 (h:TU M P l.toArray Q (fun a' w'=>Q .normal a' w') ord last a w.drew):(Code.region c l.toArray true).wp P Q a w:=by
 simp only [aYr,aYu] at b;refine wp_region_any d (a0D (M:=M) (Post:=fun a' w'=>Q .normal a' w') (fun _ _ h=>h) _ _ _ _ ?_);have:=a3g b.1.1 ord last l.length (Array.replicate l.length false) a w.drew b.2 b.1.2 h;simpa using this
theorem aM5 {M:List Nat} {Post:Act→World→Prop} {s:List Nat} {i:Nat} {r:List (List Nat × Nat)} {last:List Nat} {a:Act} {w:World} {l:List Oper}
 {b:List Oper} {o:Oper} (f:pR l s b) (g:a0s l i o) (h:wpQuiet P l.toArray (fun w'=>∃ x:KpW M w,w'=x.w) (fun a'=>wpList P l.toArray (lG Q (aEV M w (TU M P l.toArray Q Post r last))) [o] a' w) b a):TU M P l.toArray Q Post ((s,i)::r) last a w:=by
 have c:=f.eq;have d:=(pR.cons g pR.nil).eq;subst c;unfold TU;rw [d];exact h
theorem aMs {M:List Nat} {Post:Act→World→Prop} {last:List Nat} {a:Act} {w:World} {l:List Oper} {b:List Oper} (d:pR l last b) (h:wpQuiet P l.toArray (fun w'=>∃ x:KpW M w,w'=x.w) (fun a'=>Post a' w) b a):TU M P l.toArray Q Post [] last a w:=by
 have c:=d.eq;subst c;exact h
theorem qJ {M:List Nat} {w w':World} {next:Act→World→Prop} {a:Act} (b:Kp M w w') (h:next a w'):aEV M w next a w':=⟨b,h⟩
end
end Go.Proofs.YtjccgagakfndpaaGreatDoor
