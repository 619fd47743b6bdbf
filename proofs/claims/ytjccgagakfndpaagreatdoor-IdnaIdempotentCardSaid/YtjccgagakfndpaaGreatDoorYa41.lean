/- Part Ya41. -/
import Derived.Test.YtjccgagakfndpaaGreatDoorYa21
import Derived.Test.YtjccgagakfndpaaGreatDoorYa33
namespace Go.Proofs.YtjccgagakfndpaaGreatDoor
set_option maxHeartbeats 25600000
set_option maxRecDepth 100000
section
variable {T:bK}
structure Scl (T:bK):Prop where
 key:∀ m∈T.dec,bD m.lo=true
 tgt:∀ m∈T.dec,∀ c∈m.to,bD c=true
end
section
variable {T:bK}
theorem a1T {x n:Int} (a:OB n=false) (ht:PO n=false):vM x n=none:=by
 unfold vM;rw [a,ht];simp
theorem JJ {n:Int} (b:qI T n=false) (x:Int):pairT T x n=none:=by
 unfold qI at b;simp only [Bool.or_eq_false_iff,List.any_eq_false] at b;obtain ⟨⟨c,ht⟩,d⟩:=b;unfold pairT;rw [a1T c ht];simp only;cases f:rE T x n T.dec with
 |none=>rfl
 |some y=>
  obtain ⟨m,g,_,a,h⟩:=yX f;exact absurd (by rw [h,a];simp) (d m g)
def mrg (T:bK):List Int→List Int→List Int
 |[],N=>N
 |v::V,[]=>v::V
 |v::V,n::N=>if bG T n<bG T v then n::mrg T (v::V) N else v::mrg T V (n::N)
termination_by V N=>V.length+N.length
def Mks (T:bK) (l:List Int):Prop:=CS T l∧∀ z∈l,bG T z≠0
theorem Mks.tail {x:Int} {r:List Int} (h:Mks T (x::r)):Mks T r:=⟨h.1.tail,fun z hz=>h.2 z (by simp [hz])⟩
theorem I4:∀ {r:List Int} {x:Int},Mks T (x::r)→∀ z∈r,bG T x≤bG T z
 |[],_,_,z,a=>by cases a
 |y::r,x,h,z,a=>by
  have b:=h.1.1;have c:=h.2 y (by simp);rcases List.mem_cons.1 a with rfl|a
  ·omega
  ·have:=I4 h.tail z a;omega
theorem aBR {x:Int} {l:List Int} (h:CS T l) (a:∀ z∈l,bG T x≤bG T z):CS T (x::l):=by
 cases l with
 |nil=>trivial
 |cons y r=>exact ⟨.inr (a y (by simp)),h⟩
theorem aIE (V:List Int):mrg T V []=V:=by cases V<;>rw [mrg]
theorem mrg_mem (z:Int):∀ V N:List Int,z∈mrg T V N→z∈V∨z∈N
 |[],N,h=>by rw [mrg] at h;exact .inr h
 |v::V,[],h=>by rw [mrg] at h;exact .inl h
 |v::V,n::N,h=>by
  rw [mrg] at h;by_cases a:bG T n<bG T v
  ·rw [if_pos a,List.mem_cons] at h;rcases h with rfl|h
   ·exact .inr (by simp)
   ·rcases mrg_mem z (v::V) N h with h|h
    ·exact .inl h
    ·exact .inr (by simp [h])
  ·rw [if_neg a,List.mem_cons] at h;rcases h with rfl|h
   ·exact .inl (by simp)
   ·rcases mrg_mem z V (n::N) h with h|h
    ·exact .inl (by simp [h])
    ·exact .inr h
termination_by V N=>V.length+N.length
theorem aAe:∀ V N:List Int,Mks T V→Mks T N→CS T (mrg T V N)
 |[],N,_,hN=>by rw [mrg];exact hN.1
 |v::V,[],hV,_=>by rw [mrg];exact hV.1
 |v::V,n::N,hV,hN=>by
  rw [mrg];by_cases b:bG T n<bG T v
  ·rw [if_pos b];refine aBR (aAe (v::V) N hV hN.tail) fun z a=> ?_
   rcases mrg_mem z _ _ a with a|a
   ·rcases List.mem_cons.1 a with rfl|a
    ·omega
    ·have:=I4 hV z a;omega
   ·exact I4 hN z a
  ·rw [if_neg b];refine aBR (aAe V (n::N) hV.tail hN) fun z a=> ?_
   rcases mrg_mem z _ _ a with a|a
   ·exact I4 hV z a
   ·rcases List.mem_cons.1 a with rfl|a
    ·omega
    ·have:=I4 hN z a;omega
termination_by V N=>V.length+N.length
theorem a4Z {c:Int} (d:bG T c≠0) (A B:List Int):∀ tail:List Int,(∀ z∈tail,bG T z≠0∧bG T z≠bG T c)→iV T (A++c::(tail++B))=iV T (A++(tail++c::B))
 |[],_=>rfl
 |z::r,h=>by
  have a:=h z (by simp);have f:=XF T d a.1 (fun e=>a.2 e.symm) A (r++B);rw [List.cons_append,f];have b:=a4Z d (A++[z]) B r (fun x hx=>h x (by simp [hx]));simp only [List.append_assoc,List.cons_append,List.nil_append] at b ⊢;exact b
theorem a5y:∀ V N A:List Int,Mks T V→Mks T N→iV T (A++mrg T V N)=iV T (A++(V++N))
 |[],N,A,_,_=>by rw [mrg];rfl
 |v::V,[],A,_,_=>by rw [mrg,List.append_nil]
 |v::V,n::N,A,hV,hN=>by
  rw [mrg];by_cases c:bG T n<bG T v
  ·have a:=a5y (v::V) N (A++[n]) hV hN.tail;rw [if_pos c];simp only [List.append_assoc,List.singleton_append] at a;rw [a];refine a4Z (hN.2 n (by simp)) A N (v::V) fun z b=>⟨hV.2 z b,?_⟩
   rcases List.mem_cons.1 b with rfl|b
   ·omega
   ·have:=I4 hV z b;omega
  ·have a:=a5y V (n::N) (A++[v]) hV.tail hN;rw [if_neg c];simp only [List.append_assoc,List.cons_append,List.nil_append] at a ⊢;exact a
termination_by V N _=>V.length+N.length
theorem aCx {z:Int} (c:bG T z=0) (x:Int) (d:0≤bG T x) (Y:List Int):∀ X,EX T x (X++z::Y)=EX T x X++z::Y:=by
 intro X;unfold EX;by_cases a:bG T x=0
 ·rw [if_pos a,if_pos a];rfl
 ·rw [if_neg a,if_neg a]
  induction X with
  |nil=>
   show oL T (bG T x) x (z::Y)=[x]++z::Y
   rw [oL,if_neg (by omega)];rfl
  |cons y r ih=>
   rw [List.cons_append,oL,oL];by_cases b:bG T x<bG T y
   ·rw [if_pos b,if_pos b,ih];rfl
   ·rw [if_neg b,if_neg b];rfl
theorem a2Q (h:J4 T) {z:Int} (a:bG T z=0) (Y:List Int):∀ (l X:List Int),pI T (X++z::Y) l=(z::Y).reverse++pI T X l
 |[],X=>by simp [pI]
 |x::r,X=>by rw [mW,mW,aCx a x (h.aAC x),a2Q h a Y r]
theorem LJ (h:J4 T) {z:Int} (b:bG T z=0) (A B:List Int):iV T (A++z::B)=iV T A++z::iV T B:=by
 have e:∀ acc:List Int,EX T z acc=z::acc:=fun acc=>by unfold EX;rw [if_pos b]
 have a:=a2Q h b (iV T A).reverse B [];rw [List.nil_append] at a;rw [D9,mW,e,a];simp [iV]
theorem a2S (h:J4 T) {z:Int} (a:bG T z=0) (B:List Int):iV T (z::B)=z::iV T B:=LJ h a [] B
theorem a4R:∀ (N tail pre R:List Int) (c:Int),(∀ n∈N,bG T n≠0∧qI T n=false)→cZ T pre (some c) tail (N++R)=cZ T pre (some c) (tail++N) R
 |[],tail,pre,R,c,_=>by simp
 |n::N,tail,pre,R,c,h=>by
  have a:=h n (by simp);rw [List.cons_append,cZ,JJ a.2];simp only [ite_self];rw [if_neg a.1,a4R N (tail++[n]) pre R c (fun x hx=>h x (by simp [hx]))];simp
theorem a3n:∀ {P:List Int} {s x:Int} (pre R:List Int),Chain T s P x→cZ T pre (some s) [] (P++R)=cZ T pre (some x) [] R
 |[],s,x,pre,R,hc=>by
  have e:s=x:=hc;subst e;rfl
 |m::P,s,x,pre,R,⟨y,hy,hc⟩=>by
  rw [List.cons_append,cZ,show vV T [] m=false from rfl,if_neg (by simp),hy];exact a3n pre R hc
theorem a0i:∀ (V N tail:List Int) (x c:Int) (pre R:List Int),Chain T x V c→Mks T V→Mks T N→(∀ n∈N,qI T n=false)→
 (∀ y,tail.getLast? =some y→bG T y≠0∧∀ v∈V,bG T y<bG T v)→cZ T pre (some x) tail (mrg T V N++R)=cZ T pre (some c) (tail++N) R
 |[],N,tail,x,c,pre,R,b,_,hN,hs,_=>by
  have e:x=c:=b;subst e;rw [mrg];exact a4R N tail pre R x fun n hn=>⟨hN.2 n hn,hs n hn⟩
 |v::V,[],tail,x,c,pre,R,⟨y,d,b⟩,hV,hN,hs,hl=>by
  have f:vV T tail v=false:=by
   unfold vV;cases ht:tail.getLast? with
   |none=>rfl
   |some z=>
    obtain ⟨j,g⟩:=hl z ht;have:=g v (by simp);simp only [Bool.or_eq_false_iff,aYt];omega
  rw [mrg,List.cons_append,cZ,f,if_neg (by simp),d];have i:=a0i V [] tail y c pre R b hV.tail hN hs (fun z hz=>⟨(hl z hz).1,fun v' a=>(hl z hz).2 v' (by simp [a])⟩);rw [aIE] at i;exact i
 |v::V,n::N,tail,x,c,pre,R,b,hV,hN,hs,hl=>by
  rw [mrg];by_cases h:bG T n<bG T v
  ·rw [if_pos h,List.cons_append,cZ,JJ (hs n (by simp))];simp only [ite_self];rw [if_neg (hN.2 n (by simp))]
   rw [a0i (v::V) N (tail++[n]) x c pre R b hV hN.tail (fun z hz=>hs z (by simp [hz])) (fun z hz=>by
    rw [List.getLast?_append] at hz;simp at hz;subst hz;refine ⟨hN.2 n (by simp),fun v' a=> ?_⟩;rcases List.mem_cons.1 a with rfl|a
    ·exact h
    ·have:=I4 hV v' a
     omega)]
   simp
  ·obtain ⟨y,d,b⟩:=b;have f:vV T tail v=false:=by
    unfold vV;cases ht:tail.getLast? with
    |none=>rfl
    |some z=>
     obtain ⟨j,g⟩:=hl z ht;have:=g v (by simp);simp only [Bool.or_eq_false_iff,aYt];omega
   rw [if_neg h,List.cons_append,cZ,f,if_neg (by simp),d];exact a0i V (n::N) tail y c pre R b hV.tail hN hs (fun z hz=>⟨(hl z hz).1,fun v' a=>(hl z hz).2 v' (by simp [a])⟩)
termination_by V N=>V.length+N.length
theorem a2P:∀ M:List Int,∃ P V,M=P++V∧(∀ v∈V,bG T v≠0)∧(P=[]∨∃ P' z,P=P'++[z]∧bG T z=0)
 |[]=>⟨[],[],rfl,fun v a=>(by cases a),.inl rfl⟩
 |m::M=>by
  obtain ⟨P,V,rfl,b,d⟩:=a2P M;rcases d with rfl|⟨P',z,rfl,f⟩
  ·by_cases c:bG T m=0
   ·exact ⟨[m],V,rfl,b,.inr ⟨[],m,rfl,c⟩⟩
   ·refine ⟨[],m::V,rfl,fun v a=> ?_,.inl rfl⟩;rcases List.mem_cons.1 a with rfl|a
    ·exact c
    ·exact b v a
  ·exact ⟨m::(P'++[z]),V,rfl,b,.inr ⟨m::P',z,rfl,f⟩⟩
structure aEP (T:bK) (c:Int):Prop where
 good:∃ s M,a3X T c s M∧qI T s=false∧(bG T c=0→bG T s=0)
 mark:bG T c≠0→Leaf T c∧qI T c=false
theorem aIs (h:J4 T):∀ (n:Nat) (l:List Int),l.length=n→CS T l→(∀ c∈l,aEP T c)→(l=[]∨∃ c r,l=c::r∧bG T c=0)→
 ∀ (pre tail:List Int) (st:Option Int),cZ T pre st tail (iY T l)=pre++st.toList++tail++l:=by
 intro n
 induction n using Nat.strongRecOn with
 |ind n ih=>
  intro l o j hg p pre tail st;rcases p with rfl|⟨c,r,rfl,H⟩
  ·rw [show iY T []=[] from rfl,cZ,List.append_nil]
  obtain ⟨N,b,I,t,W⟩:∃ N b,r=N++b∧(∀ x∈N,bG T x≠0)∧(b=[]∨∃ c D,b=c::D∧bG T c=0):=by
   clear j hg o ih
   induction r with
   |nil=>exact ⟨[],[],rfl,fun x d=>(by cases d),.inl rfl⟩
   |cons y r ihr=>
    by_cases E:bG T y=0
    ·exact ⟨[],y::r,rfl,fun x d=>(by cases d),.inr ⟨y,r,rfl,E⟩⟩
    ·obtain ⟨N,b,e,F,h2⟩:=ihr;refine ⟨y::N,b,by rw [e];rfl,fun x d=> ?_,h2⟩;rcases List.mem_cons.1 d with rfl|d
     ·exact E
     ·exact F x d
  subst I;obtain ⟨s,M,G,hs,f⟩:=(hg c (by simp)).good;have f:=f H;have w:∀ x∈N,Leaf T x∧qI T x=false:=fun x d=>(hg x (by simp [d])).mark (t x d)
  have J:CS T N:=(CS.append T j.tail).1;have k:Mks T N:=⟨J,t⟩;obtain ⟨P,V,rfl,K,hP⟩:=a2P (T:=T) M;obtain ⟨x,L,O⟩:=ZG G.chain;have A:CS T ((s::P)++V):=G.cs;have m:Mks T V:=⟨(CS.append T A).2,K⟩;have Q:CS T ((s::P)++mrg T V N):=by
   have X:=aAe V N m k;rcases hP with rfl|⟨Y,z,rfl,p⟩
   ·exact RG h f X (a:=[]) trivial
   ·have F:=(CS.append T A).1;rw [show s::(Y++[z])=(s::Y)++[z] from rfl] at F ⊢;rw [List.append_assoc];exact RG h p X (CS.append T F).1
  have i:iV T ((s::(P++V))++N)=(s::P)++mrg T V N:=by
   rw [show (s::(P++V))++N=(s::P)++(V++N) from by simp,← a5y V N (s::P) m k];exact IJ T Q
  have S:iY T (c::(N++b))=(s::P)++mrg T V N++iY T b:=by
   unfold iY;rw [List.flatMap_cons,List.flatMap_append,wO (l:=N) (fun x d=>(w x d).1),G.exp,← List.append_assoc];rcases W with rfl|⟨c',D,rfl,B⟩
   ·rw [List.flatMap_nil,List.append_nil,i];simp [iV,pI]
   ·obtain ⟨Z,M',G',_,C⟩:=(hg c' (by simp)).good;rw [List.flatMap_cons,G'.exp];show iV T (((s::(P++V))++N)++(Z::(M'++List.flatMap (iD T) D)))=(s::P)++mrg T V N++iV T (Z::(M'++List.flatMap (iD T) D))
    rw [LJ h (C B),a2S h (C B),i]
  have g:∀ R,cZ T pre st tail (s::R)=cZ T (pre++st.toList++tail) (some s) [] R:=by
   intro R;cases st with
   |none=>
    rw [cZ,if_pos f];simp
   |some q=>
    rw [cZ,JJ hs];simp only [ite_self];rw [if_pos f];simp
  rw [S,List.append_assoc,List.cons_append,g,a3n _ _ L,a0i V N [] x c _ _ O m k (fun n hn=>(w n hn).2) (fun y E=>by cases E)];have U:CS T b:=(CS.append T j.tail).2;rw [ih b.length (by rw [← o];simp;omega) b rfl U (fun z p=>hg z (by simp [p])) W];simp
theorem a8q:∀ (N tail R:List Int),(∀ n∈N,bG T n≠0)→cZ T [] none tail (N++R)=cZ T [] none (tail++N) R
 |[],tail,R,_=>by simp
 |n::N,tail,R,h=>by
  rw [List.cons_append,cZ,if_neg (h n (by simp)),a8q N (tail++[n]) R (fun x hx=>h x (by simp [hx]))];simp
theorem aFz (h:J4 T) {l:List Int} (d:CS T l) (hg:∀ c∈l,aEP T c):fJ T l=l:=by
 obtain ⟨N,a,rfl,f,o⟩:∃ N a,l=N++a∧(∀ x∈N,bG T x≠0)∧(a=[]∨∃ c k,a=c::k∧bG T c=0):=by
  clear d hg
  induction l with
  |nil=>exact ⟨[],[],rfl,fun x b=>(by cases b),.inl rfl⟩
  |cons y r ihr=>
   by_cases p:bG T y=0
   ·exact ⟨[],y::r,rfl,fun x b=>(by cases b),.inr ⟨y,r,rfl,p⟩⟩
   ·obtain ⟨N,a,e,t,w⟩:=ihr;refine ⟨y::N,a,by rw [e];rfl,fun x b=> ?_,w⟩;rcases List.mem_cons.1 b with rfl|b
    ·exact p
    ·exact t x b
 have m:∀ x∈N,Leaf T x:=fun x b=>((hg x (by simp [b])).mark (f x b)).1
 have g:=(CS.append T d).1;have n:iY T (N++a)=N++iY T a:=by
  unfold iY;rw [List.flatMap_append,wO m];rcases o with rfl|⟨A,k,rfl,i⟩
  ·rw [List.flatMap_nil,List.append_nil,IJ T g];simp [iV,pI]
  ·obtain ⟨q,s,B,_,j⟩:=(hg A (by simp)).good;rw [List.flatMap_cons,B.exp];show iV T (N++(q::(s++List.flatMap (iD T) k)))=N++iV T (q::(s++List.flatMap (iD T) k))
   rw [LJ h (j i),a2S h (j i),IJ T g]
 unfold fJ MZ;rw [n,a8q N [] _ f,aIs h a.length a rfl (CS.append T d).2 (fun z hz=>hg z (by simp [hz])) o];simp
theorem aIT (h:J4 T) (q:uniqueB T=true) {c:Int} (m:YJ T c=false) (n:ND T c=false):aEP T c:=by
 have g:aU T.dec c=[]∨gQ T ⟨c,aU T.dec c⟩=true:=by
  unfold YJ at m;cases o:(aU T.dec c).isEmpty
  ·rw [o] at m;cases p:gQ T ⟨c,aU T.dec c⟩
   ·rw [p] at m;cases m
   ·exact .inr rfl
  ·exact .inl (List.isEmpty_iff.1 o)
 have f:∀ s M,a3X T c s M→qI T s=false:=fun s M G=>by
  unfold ND at n;rw [G.exp] at n;exact n
 rcases g with k|k
 ·cases i:bW c
  ·have l:Leaf T c:=⟨i,k⟩;exact ⟨⟨c,[],RV l,f _ _ (RV l),fun h0=>h0⟩,fun _=>⟨l,f _ _ (RV l)⟩⟩
  ·obtain ⟨s,M,G,j⟩:=aCq h i;exact ⟨⟨s,M,G,f _ _ G,fun _=>j⟩,fun h0=>absurd (h.a0M _ (LM i)) h0⟩
 ·obtain ⟨s,M,G,j⟩:=a3y h q (T.dec.length+2) c (Nat.le_refl _) k;refine ⟨⟨s,M,G,f _ _ G,fun _=>j⟩,fun h0=>absurd ?_ h0⟩;have d:=k;unfold gQ at d;rw [show T.dec.length+2=(T.dec.length+1)+1 from rfl,uN] at d
  match hm:aU T.dec c with
  |[a,b]=>
   rw [hm] at k;exact (UJ k rfl).2.1
  |[]=>rw [hm] at d;cases d
  |[_]=>rw [hm] at d;cases d
  |_::_::_::_=>rw [hm] at d;cases d
theorem YP (h:J4 T) (g:uniqueB T=true) {l:List Int} (a:X7 T l=1):fJ T l=l:=by
 unfold X7 at a;by_cases d:iV T l=l
 ·rw [if_neg (fun hn=>hn d)] at a;by_cases b:l.any (YJ T)=true
  ·rw [if_pos b] at a;omega
  ·rw [if_neg b] at a;by_cases f:l.any (ND T)=true
   ·rw [if_pos f] at a;omega
   ·simp only [Bool.not_eq_true,List.any_eq_false] at b f;refine aFz h ?_ fun c hc=>aIT h g (by simpa using b c hc) (by simpa using f c hc)
    rw [← d];exact a5z T l
 ·rw [if_pos d] at a;omega
theorem JA:∀ (r X pre tail:List Int) (st:Option Int),cZ T (X++pre) st tail r=X++cZ T pre st tail r
 |[],X,pre,tail,st=>by rw [cZ,cZ];simp
 |c::r,X,pre,tail,none=>by
  rw [cZ,cZ];split
  ·rw [List.append_assoc,JA r X]
  ·exact JA r X _ _ _
 |c::r,X,pre,tail,some s=>by
  rw [cZ,cZ];cases (if vV T tail c=true then none else pairT T s c) with
  |some x=>exact JA r X _ _ _
  |none=>
   simp only;split
   ·rw [List.append_assoc,JA r X]
   ·exact JA r X _ _ _
theorem a5L {z:Int} (b:∀ y,pairT T z y=none):∀ (r tail pre:List Int),cZ T pre (some z) tail r=pre++z::cZ T [] none tail r
 |[],tail,pre=>by rw [WH,WH];simp
 |c::r,tail,pre=>by
  rw [aEx _ _ _ _ _ (b c),ZJ];by_cases a:bG T c=0
  ·rw [if_pos a,if_pos a];have:=JA (T:=T) r (pre++z::[]) tail [] (some c);simp only [List.append_assoc,List.singleton_append,List.nil_append] at this ⊢;exact this
  ·rw [if_neg a,if_neg a,a5L b r]
theorem KR {z:Int} (a:bG T z=0) (d:∀ y,pairT T z y=none) (b:∀ x,pairT T x z=none) (d2:List Int):∀ (r pre tail:List Int) (st:Option Int),cZ T pre st tail (r++z::d2)=cZ T pre st tail r++z::MZ T d2
 |[],pre,tail,none=>by
  rw [List.nil_append,ZJ,if_pos a,a5L d,WH];simp [MZ]
 |[],pre,tail,some s=>by
  rw [List.nil_append,aEx _ _ _ _ _ (b s),if_pos a,a5L d,WH];simp [MZ]
 |c::r,pre,tail,none=>by
  rw [List.cons_append,cZ,cZ];split
  ·exact KR a d b d2 r _ _ _
  ·exact KR a d b d2 r _ _ _
 |c::r,pre,tail,some s=>by
  rw [List.cons_append,cZ,cZ];cases (if vV T tail c=true then none else pairT T s c) with
  |some x=>exact KR a d b d2 r _ _ _
  |none=>
   simp only;split
   ·exact KR a d b d2 r _ _ _
   ·exact KR a d b d2 r _ _ _
theorem a7X (h:J4 T) (y:Int):pairT T 46 y=none∧pairT T y 46=none:=by
 constructor
 ·unfold pairT;rw [show vM 46 y=none from by unfold vM;simp [OQ,OT,bW]];simp only;cases b:rE T 46 y T.dec with
  |none=>rfl
  |some x=>
   obtain ⟨m,c,_,a,_⟩:=yX b;exact absurd rfl (h.tgt m c 46 (by rw [a];simp)).2.2
 ·unfold pairT;rw [a1T (by rfl) (by rfl)];simp only;cases b:rE T y 46 T.dec with
  |none=>rfl
  |some x=>
   obtain ⟨m,c,_,a,_⟩:=yX b;exact absurd rfl (h.tgt m c 46 (by rw [a];simp)).2.2
theorem aFg (h:J4 T) (a b:List Int):fJ T (a++46::b)=fJ T a++46::fJ T b:=by
 have c:bG T 46=0:=h.a0M 46 (by decide);have d:iD T 46=[46]:=KP (by decide) (h.ZT (by decide));have f:iY T (a++46::b)=iY T a++46::iY T b:=by
  unfold iY;rw [List.flatMap_append,List.flatMap_cons,d,List.singleton_append,LJ h c]
 unfold fJ;rw [f,MZ,KR c (fun y=>(a7X h y).1) (fun y=>(a7X h y).2)];rfl
end
open Go.RowKit
theorem oW {T:bK} {l:List Int} (h:lV T=true) (d:∀ c∈l,bD c=true) (f:l.length≤4096):bF T l=0:=by
 unfold bF;rw [if_neg (by rw [h];simp),if_neg (by omega),if_neg];rw [List.any_eq_true];rintro ⟨c,b,a⟩;rw [d c b] at a;simp at a
end Go.Proofs.YtjccgagakfndpaaGreatDoor
