/- Part Bb19. -/
import Derived.Test.YtlmkgaoakcjlnaaGreatDoorBb18
import Derived.Laws.ResultCell
import Derived.Laws.Tables
import Derived.Laws.Rows
import Derived.Laws.Cover1
import Derived.Deep.WholeRow
import Derived.Test.YtlmkgaoakcjlnaaGreatDoorCards
import Derived.Test.YtlmkgaoakcjlnaaGreatDoorTie
import Derived.LaidMore
open Go.Proofs.Tryz
namespace Go.Proofs.YtlmkgaoakcjlnaaGreatDoor
set_option maxHeartbeats 25600000
set_option maxRecDepth 100000
open Go.RowKit
theorem aTT{c:Int}(h:0<=c/\c<=127):aY c=true:=by
 simp only[aY,aW,Bool.or_eq_true,au];omega
theorem aUR{c:Int}(h:0<=c/\c<=127):fD c=true:=by
 simp only[fD,aW,Bool.or_eq_true,au];omega
theorem aT0{T:aj}{c:Int}(h:0<=c/\c<=127):dW T c=qZ c:=by
 rw[dW,mM,if_neg (by rw[aTT h];simp),if_pos (aUR h)]
theorem aSl(P:Int->Prop)(h:∀n:Fin 128,P (n.val:Int)){c:Int}(a:0<=c/\c<=127):P c:=by
 have:=h ⟨c.toNat,by omega⟩;simp only at this;rwa[Int.toNat_of_nonneg a.1]at this
theorem aTY{c:Int}(h:0<=c/\c<=127):(qZ c=1\/qZ c=4)->nameB c=true\/c=46:=
 aSl (λc=>(qZ c=1\/qZ c=4)->nameB c=true\/c=46) (by decide+kernel) h
theorem Vm{c:Int}(h:nameB c=true):0<=c/\c<=127/\c≠46/\(c<65\/90<c):=by
 simp only[nameB,Bool.or_eq_true,aW,au]at h;omega
theorem Vb{T:aj}{c:Int}(h:kH T c=false):c≠46/\(dW T c=1\/dW T c=4):=by
 simp only[kH,Bool.or_eq_false_iff,aP,Bool.and_eq_false_iff,bne_eq_false_iff_eq]at h;exact h
theorem V3{T:aj}{c:Int}(h:kH T c=false)(b:0<=c/\c<=127):nameB c=true:=by
 obtain⟨d,a⟩:=Vb h;rw[aT0 b]at a;exact(aTY b a).resolve_right d
theorem V7{T:aj}{l:List Int}(h:gQ T l=0):aX T l=0/\l≠[]/\pV T l=true/\oL l=true/\∀c∈l,kH T c=false:=by
 unfold gQ at h;split at h
 .exact absurd h ‹_›
 rename_i b;split at h
 .exact absurd h (by decide)
 rename_i d;split at h
 .exact absurd h (by decide)
 rename_i f;split at h
 .exact absurd h (by decide)
 rename_i g;split at h
 .exact absurd h (by decide)
 split at h
 .exact absurd h (by decide)
 rename_i a;refine⟨Decidable.not_not.1 b,λe=>d (by rw[e];rfl),by simpa using f,by simpa using g,λc i=> ?_⟩;rw[Bool.not_eq_true,List.any_eq_false]at a;simpa using a c i
theorem aT3{d:Int}(h:0<=d/\d<36):nameB (eF d)=true:=by
 unfold eF;simp only[nameB,Bool.or_eq_true,aW,au];split<;>omega
theorem V8{l:List Int}(c:jG l=true)(h:(alE l).2=0):alE l=(l,0)/\l.length<=63/\l≠[]:=by
 by_cases a:l.length=0
 .rw[alE,if_pos a]at h;exact absurd h (by decide)
 rw[alE,if_neg a,if_pos c]at h |-;by_cases b:63<l.length
 .rw[if_pos b]at h;exact absurd h (by decide)
 .rw[if_neg b];exact⟨rfl,by omega,λe=>a (by rw[e];rfl)⟩
theorem Va{l:List Int}(i:jG l=false)(h:(alE l).2=0):alE l=([120,110,45,45]++jZ l,0)/\(jZ l).length<=59/\l.length<=256/\(∀x∈l,aY x=true)/\(jE l).2=0:=by
 by_cases g:l.length=0
 .rw[alE,if_pos g]at h;exact absurd h (by decide)
 rw[alE,if_neg g,if_neg (by rw[i];simp)]at h |-;by_cases d:(jE l).2≠0
 .rw[if_pos d]at h;exact absurd h d
 rw[if_neg d]at h |-;by_cases f:63<(jE l).1.length+4
 .rw[if_pos f]at h;exact absurd h (by decide)
 rw[if_neg f];obtain⟨a,b,c⟩:=Ls (Decidable.not_not.1 d);rw[c]at f |-;exact⟨rfl,by omega,a,b,Decidable.not_not.1 d⟩
theorem MN{l:List Int}(h:∀x∈l,aY x=true):∀x∈l,0<=x/\x<=1114111:=λx a=>by
 have:=h x a;simp only[aY,aW,au]at this;omega
theorem aTl{T:aj}{l:List Int}(g:∀c∈l,kH T c=false)(b:∀x∈l,aY x=true)(h:l.length<=256):∀c∈jZ l,nameB c=true:=by
 intro c a;unfold jZ lN at a;rw[List.mem_append,List.mem_append]at a;rcases a with(a|a)|a
 .rw[iQ,List.mem_filter]at a;have i:=MN b c a.1;have j:=of_decide_eq_true a.2;exact V3 (g c a.1) (by omega)
 .split at a
  .cases a
  .rw[List.mem_singleton]at a;subst a;decide
 .rw[List.mem_map]at a;obtain⟨d,f,rfl⟩:=a;exact aT3 ((Gy (MN b) h).2.1 d f)
theorem aTR{T:aj}{l:List Int}(h:gQ T l=0)(f:(alE l).2=0):∀c∈(alE l).1,nameB c=true:=by
 obtain⟨_,_,_,_,d⟩:=V7 h;cases b:jG l with
 |true=>
  rw[(V8 b f).1];exact λc a=>V3 (d c a) (En b c a)
 |false=>
  obtain⟨e,_,g,i,_⟩:=Va b f;rw[e];intro c a;rw[List.mem_append]at a;rcases a with a|a
  .simp only[List.mem_cons,List.not_mem_nil,or_false]at a;rcases a with rfl|rfl|rfl|rfl<;>decide
  .exact aTl d i g c a
theorem ML:∀{L:List (List Int)}{i:Int},og i L=none->∀l∈L,(alE l).2=0
 |[],_,_,l,a=>by cases a
 |x::r,i,h,l,a=>by
  unfold og at h;split at h
  .cases h
  .rename_i b;rcases List.mem_cons.1 a with rfl|a
   .exact Decidable.not_not.1 b
   .exact ML h l a
theorem MJ:∀{L:List (List Int)}{i:Int}{q:Int × Int},og i L=some q->i<=q.1/\q.2≠0
 |[],_,_,h=>by cases h
 |x::r,i,q,h=>by
  unfold og at h;split at h
  .injection h with h;subst h;exact⟨Int.le_refl _,‹_›⟩
  .have:=MJ h;exact⟨by omega,this.2⟩
theorem UZ{T:aj}:∀{L:List (List Int)}{i:Int}{q:Int × Int},lQ T i L=some q->i<=q.1/\q.2≠0
 |[],_,_,h=>by cases h
 |x::r,i,q,h=>by
  unfold lQ at h;split at h
  .injection h with h;subst h;exact⟨Int.le_refl _,‹_›⟩
  .have:=UZ h;exact⟨by omega,this.2⟩
theorem V6{O:List (List Int)}(h:(jm O).2=0):O.length≠0/\fbG 0 O=none/\O.length<=127/\(O.length:Int) - 1+kY O<=253/\jm O=(0,0):=by
 have c:∀(L:List (List Int))(k:Nat)(q:Int × Int),fbG k L=some q->q.2≠0:=by
  intro L
  induction L with
  |nil=>intro k q h;cases h
  |cons x r ih=>
   intro k q h;unfold fbG at h;split at h
   .injection h with h;subst h;show(10:Int)≠0;decide
   .split at h
    .injection h with h;subst h;show(11:Int)≠0;decide
    .exact ih _ _ h
 unfold jm at h |-;split at h
 .exact absurd h (by decide)
 rename_i b;rw[if_neg b];cases a:fbG 0 O with
 |some q=>
  rw[a]at h;exact absurd h (c _ _ _ a)
 |none=>
  rw[a]at h;simp only at h |-;split at h
  .exact absurd h (by decide)
  .rename_i d;rw[if_neg d];exact⟨b,by first|rfl|trivial,by omega,by omega,rfl⟩
theorem aUS{O:List (List Int)}:0<=(jm O).1:=by
 have a:∀(L:List (List Int))(k:Nat)(q:Int × Int),fbG k L=some q->0<=q.1:=by
  intro L
  induction L with
  |nil=>intro k q h;cases h
  |cons x r ih=>
   intro k q h;unfold fbG at h;split at h
   .injection h with h;subst h;exact bI _
   .split at h
    .injection h with h;subst h;exact bI _
    .exact ih _ _ h
 unfold jm;split
 .exact Int.le_refl 0
 .cases b:fbG 0 O with
  |some q=>exact a _ _ _ b
  |none=>
   simp only;split<;>exact Int.le_refl 0
noncomputable def xH(L:List (List Int)):List (List Int):=L.map λl=>(alE l).1
theorem V5{L:List (List Int)}(h:(vF L).2.2=0):og 0 L=none/\(jm (xH L)).2=0/\vF L=(jnL (xH L),0,0):=by
 cases a:og 0 L with
 |some q=>
  rw[Ez a]at h;exact absurd h (MJ a).2
 |none=>
  rw[Ey a]at h |-;split at h
  .exact absurd h ‹_›
  .rename_i b;rw[if_neg b];have c:=Decidable.not_not.1 b;exact⟨rfl,c,by rw[oI,if_neg b];rfl⟩
theorem V9{T:aj}{s:List Int}(h:(eY T s).2.2=0):(dR T s).2.2=0/\eY T s=vF (dR T s).1/\(vF (dR T s).1).2.2=0:=by
 unfold eY at h |-;split at h
 .exact absurd h ‹_›
 .rename_i a;rw[if_neg a];exact⟨Decidable.not_not.1 a,rfl,h⟩
theorem aU3{T:aj}{L:List (List Int)}(h:(vC T L).2.2≠0):(vC T L).1=[]/\0<=(vC T L).2.1:=by
 cases a:lQ T 0 L with
 |some p=>
  rw[AX a];exact⟨rfl,(UZ a).1⟩
 |none=>
  rw[GY a]at h |-;split at h
  .rename_i b;rw[if_pos b];refine⟨rfl,?_⟩;unfold vw;split
   .rename_i c;have:∀(M:List (List Int))(i:Int),0<=i->frR T i M= -1\/0<=frR T i M:=by
     intro M
     induction M with
     |nil=>intro i _;exact .inl rfl
     |cons x r ih=>
      intro i d;unfold frR;split
      .exact .inr d
      .exact ih _ (by omega)
    exact(this _ 0 (Int.le_refl 0)).resolve_left c.2
   .exact Int.le_refl 0
  .exact absurd rfl h
theorem aU2{T:aj}{s:List Int}(h:(dR T s).2.2≠0):(dR T s).1=[]/\0<=(dR T s).2.1:=by
 unfold dR at h |-;split
 .exact⟨rfl,Int.le_refl 0⟩
 split
 .exact⟨rfl,Int.le_refl 0⟩
 split
 .refine⟨rfl,?_⟩;show 0<=(gG s).2.1
  unfold gG;split
  .exact Int.le_refl 0
  .split
   .exact bI _
   .exact Int.le_refl 0
 split
 .refine⟨rfl,?_⟩;show 0<=pG T (gG s).1
  unfold pG;split
  .exact Int.le_refl 0
  .split
   .rename_i a;have:∀(M:List Int)(i:Int),0<=i->jH T i M= -1\/0<=jH T i M:=by
     intro M
     induction M with
     |nil=>intro i _;exact .inl rfl
     |cons x r ih=>
      intro i b;unfold jH;split
      .exact .inr b
      .exact ih _ (by omega)
    exact(this _ 0 (Int.le_refl 0)).resolve_left a
   .exact Int.le_refl 0
 split
 .exact⟨rfl,Int.le_refl 0⟩
 rename_i c a d f g;rw[if_neg c,if_neg a,if_neg d,if_neg f,if_neg g]at h;exact aU3 h
theorem aUg{T:aj}{s:List Int}(h:(eY T s).2.2≠0):(eY T s).1=[]/\0<=(eY T s).2.1:=by
 unfold eY at h |-;split
 .rename_i a;exact⟨rfl,(aU2 a).2⟩
 .rename_i a;rw[if_neg a]at h;cases b:og 0 (dR T s).1 with
  |some q=>
   rw[Ez b];exact⟨rfl,(MJ b).1⟩
  |none=>
   rw[Ey b]at h |-;split
   .rename_i c;exact⟨rfl,aUS⟩
   .rename_i c;rw[if_neg c]at h;exfalso;apply h;show(oI _).2=0
    rw[oI,if_neg c]
theorem MK:∀(x:List Int)(L:List (List Int))(cur r:List Int),(46∉x)->lbG L cur (x++r)=lbG L (cur++x) r
 |[],L,cur,r,_=>by rw[List.nil_append,List.append_nil]
 |c::x,L,cur,r,h=>by
  have a:c≠46:=λe=>h (by rw[e];exact List.mem_cons_self ..)
  rw[List.cons_append,lbG,if_neg a,MK x L _ r (λe=>h (List.mem_cons_of_mem _ e)),List.append_assoc];rfl
theorem V4:∀(O:List (List Int))(L:List (List Int))(cur:List Int),(∀x∈O,46∉x)->lbG L cur (jnG false O)=L++cur::O
 |[],L,cur,_=>rfl
 |x::r,L,cur,h=>by
  show lbG L cur (46::(x++jnG false r))=_
  rw[lbG,if_pos rfl,MK x _ _ _ (h x (List.mem_cons_self ..)),V4 r _ _ λy a=>h y (List.mem_cons_of_mem _ a)];simp
theorem aUa{O:List (List Int)}(h:O≠[])(a:∀x∈O,46∉x):mP (jnL O)=O:=by
 cases O with
 |nil=>exact absurd rfl h
 |cons x r=>
  show lbG [] [] (x++jnG false r)=_
  rw[MK x _ _ _ (a x (List.mem_cons_self ..)),V4 r _ _ λy b=>a y (List.mem_cons_of_mem _ b)];rfl
theorem MP{P:Int->Prop}(b:P 46):∀(f:Bool)(O:List (List Int)),(∀x∈O,∀c∈x,P c)->∀c∈jnG f O,P c
 |_,[],_,c,a=>by cases a
 |f,x::r,h,c,a=>by
  unfold jnG at a;rw[List.mem_append]at a;rcases a with a|a
  .split at a
   .exact h x (List.mem_cons_self ..) c a
   .rcases List.mem_cons.1 a with rfl|a
    .exact b
    .exact h x (List.mem_cons_self ..) c a
  .exact MP b false r (λy d=>h y (List.mem_cons_of_mem _ d)) c a
theorem aUi{T:aj}{s:List Int}(h:(eY T s).2.2=0):(∀c∈(eY T s).1,nameB c=true\/c=46)/\(eY T s).2.1=0/\1<=(eY T s).1.length/\(eY T s).1.length<=253/\jm (mP (eY T s).1)=(0,0):=by
 obtain⟨j,k,m⟩:=V9 h;obtain⟨n,o,p⟩:=V5 m;have q:=(AY j).2;obtain⟨t,w,A,B,y⟩:=V6 o;have a:xH (dR T s).1≠[]:=λe=>t (by rw[e];rfl)
 have f:∀x∈xH (dR T s).1,∀c∈x,nameB c=true:=by
  intro x b;unfold xH at b;rw[List.mem_map]at b;obtain⟨l,g,rfl⟩:=b;exact aTR (q l g).1 (ML n l g)
 rw[k,p];refine⟨MP (.inr rfl) true _ λx b c d=> .inl (f x b c d),rfl,?_,?_,?_⟩
 .have:=Gz a;have z:=LC _ _ w;show 1<=(jnL _).length
  cases i:xH (dR T s).1 with
  |nil=>exact absurd i a
  |cons x r=>
   have:=(z x (by rw[i];exact List.mem_cons_self ..)).1;show 1<=(x++jnG false r).length
   rw[List.length_append];omega
 .have:=Gz a;show(jnL _).length<=253
  omega
 .show jm (mP (jnL _))=_
  rw[aUa a λx b d=>(Vm (f x b 46 d)).2.2.1 rfl];exact y
theorem Vd{T:aj}{c:Int}(h:dW T c=1\/dW T c=4):aY c=true:=by
 cases a:aY c with
 |true=>rfl
 |false=>
  rw[dW,mM,if_pos a]at h;omega
theorem Ve{T:aj}:∀{l:List Int}{i:Int},(∀c∈l,dW T c≠0)->jH T i l= -1
 |[],_,_=>rfl
 |c::r,i,h=>by
  unfold jH;rw[if_neg (h c (List.mem_cons_self ..))];exact Ve λx a=>h x (List.mem_cons_of_mem _ a)
theorem map_id{T:aj}{q:List Int}(j:bY T=true)(b:∀c∈q,dW T c=1\/dW T c=4)(k:q.length<=4096):jI T q=0/\kZ T q=q:=by
 have g:aX T q=0:=oW' j (λc a=>Vd (b c a)) k;have d:q.flatMap (iG T)=q:=by
  have:∀L:List Int,(∀c∈L,dW T c=1\/dW T c=4)->L.flatMap (iG T)=L:=by
   intro L
   induction L with
   |nil=>intro _;rfl
   |cons x r ih=>
    intro h;have i:=h x (List.mem_cons_self ..);rw[List.flatMap_cons,ih λc a=>h c (List.mem_cons_of_mem _ a),iG,if_neg (by omega),if_pos i];rfl
  exact this q b
 have f:jI T q=0:=by
  unfold jI;rw[if_neg (by rw[g];simp),if_neg (by rw[Ve λc a=>by have:=b c a;omega];simp),if_neg (by rw[d];omega)]
 exact⟨f,by rw[kZ,if_pos f,d]⟩
theorem aVL{q:List Int}(b:∀c∈q,aY c=true)(d:q.length<=4096):lM q=(lK q,0):=by
 unfold lM;rw[if_neg (by omega),if_neg];rw[List.any_eq_true];rintro⟨c,a,h⟩;rw[b c a]at h;cases h
theorem Vg(a b:List Int)(c:45∉b):∀k,k<=b.length->je 45 (a++b) (a.length+k)=je 45 (a++b) a.length
 |0,_=>rfl
 |k+1,hk=>by
  have d:(a++b).getD (a.length+k) 0=b.getD k 0:=by
   rw[List.getD,List.getD,List.getElem?_append_right (by omega),Nat.add_sub_cancel_left]
  have f:b.getD k 0≠45:=by
   rw[getD_lt b k 0 (by omega)];exact λe=>c (by rw[<- e];exact List.getElem_mem _)
  rw[<- Nat.add_assoc,je,d,if_neg f,Vg a b c k (by omega)]
theorem aVj{d:Int}(h:0<=d/\d<36):fE (eF d)=some d:=by
 unfold fE eF;by_cases a:d<26
 .rw[if_pos a,if_pos (by omega)];congr 1;omega
 .rw[if_neg a,if_neg (by omega),if_neg (by omega),if_pos (by omega)];congr 1;omega
theorem aVg(l:List Int):jF l 0 (plc l 128 0)=iQ l:=by
 have:∀(r p:List Int),l=p++r->jF r p.length (plc l 128 0)=iQ r:=by
  intro r
  induction r with
  |nil=>intro p _;rfl
  |cons x r ih=>
   intro p a;have d:p.length<l.length:=(by rw[a];simp);have f:l[p.length]=x:=(by simp[a]);have b:=ih (p++[x]) (by rw[a];simp);rw[List.length_append,List.length_singleton]at b;rw[jF,b,ql d,f];unfold iQ;rw[List.filter_cons];by_cases c:x<128
   .simp[c]
   .have e:¬x=128\/True:= .inr trivial;simp[c]
 exact this l [] rfl
theorem aVQ{l:List Int}(y:∀x∈l,aY x=true)(z:l.length<=256)(D:(jZ l).length<=2048):pdU (jZ l)=(l,0):=by
 obtain⟨A,q,_⟩:=Gy (MN y) z;have m:45∉(xE l).map eF:=by
  intro h;rw[List.mem_map]at h;obtain⟨d,n,g⟩:=h;have:=q d n;unfold eF at g;split at g<;>omega
 have i:((xE l).map eF).map fE=(xE l).map some:=by
  rw[List.map_map];exact List.map_congr_left λd h=>aVj (q d h)
 have o:hyB (jZ l)=(iQ l).length/\pF (jZ l)=(xE l).map eF:=by
  have e:jZ l=lN l++(xE l).map eF:=rfl;have s:je 45 (jZ l) (jZ l).length=je 45 (jZ l) (lN l).length:=by
   rw[e,List.length_append];exact Vg _ _ m _ (Nat.le_refl _)
  cases j:iQ l with
  |nil=>
   have a:lN l=[]:=(by unfold lN;rw[j];rfl);have f:hyB (jZ l)=0:=by
    unfold hyB;rw[s,a];rfl
   refine⟨f,?_⟩;unfold pF;rw[if_pos f,e,a];rfl
  |cons x r=>
   have a:lN l=(x::r)++[45]:=(by unfold lN;rw[j];rfl);have f:hyB (jZ l)=(x::r).length:=by
    unfold hyB;rw[s,a];have:((x::r)++[45]:List Int).length=(x::r).length+1:=by simp
    rw[this,je,if_pos]
    .simp
    .rw[e,a,List.getD,List.getElem?_append_left (by simp),List.getElem?_append_right (by simp)];simp
   refine⟨f,?_⟩;unfold pF;rw[if_neg (by rw[f];simp),f,e,a];have:((x::r)++[45]:List Int).length=(x::r).length+1:=by simp
   rw[<- this,List.drop_left]
 obtain⟨B,b⟩:=o;have p:(jZ l).take (iQ l).length=iQ l:=by
  unfold jZ lN;rw[List.append_assoc,List.take_left]
 unfold pdU;rw[if_neg (by omega),B,p,if_neg,b,i,<- aVg l]
 .rw[aIY y z A _ (by simp) (by decide) (by decide) (bI _)]
  .rfl
  .intro k C t;rw[ql C]at t;have a:¬l[k]<128:=λe=>by simp[e]at t
   exact⟨by omega,λ_=>bI _⟩
 .rw[List.any_eq_true];rintro⟨c,w,h⟩;rw[iQ,List.mem_filter]at w;have:=of_decide_eq_true w.2;have:=of_decide_eq_true h;omega
theorem aVZ{l:List Int}(c:(alE l).2=0):l.length<=(alE l).1.length:=by
 cases a:jG l with
 |true=>rw[(V8 a c).1];exact Nat.le_refl _
 |false=>
  obtain⟨e,g,d,f,_⟩:=Va a c;have b:=Lu (jZ l);rw[aVQ f d (by omega)]at b;rw[e,List.length_append];exact Nat.le_trans b (Nat.le_add_left _ _)
theorem Vf:∀(f:Bool)(L:List (List Int)),(∀l∈L,(alE l).2=0)->(jnG f L).length<=(jnG f (xH L)).length
 |_,[],_=>Nat.le_refl _
 |f,x::r,h=>by
  have b:=Vf false r λy a=>h y (List.mem_cons_of_mem _ a)
  have c:=aVZ (h x (List.mem_cons_self ..));show((if f then x else 46::x)++jnG false r).length<=((if f then(alE x).1 else 46::(alE x).1)++jnG false (xH r)).length
  rw[List.length_append,List.length_append];split
  .omega
  .simp only[List.length_cons];omega
theorem uni_ok{T:aj}{s:List Int}(h:(eY T s).2.2=0):lM (jnL (dR T s).1)=(lK (jnL (dR T s).1),0)/\uniD T s=(lK (jnL (dR T s).1),0,0):=by
 obtain⟨d,_,f⟩:=V9 h;obtain⟨g,i,_⟩:=V5 f;have j:=ML g;obtain⟨k,_,_,p,_⟩:=V6 i;have a:=Gz (ls:=xH (dR T s).1) (λe=>k (by rw[e];rfl));have l:=Vf true _ j;have q:(jnL (dR T s).1).length<=(jnL (xH (dR T s).1)).length:=l;have m:∀c∈jnL (dR T s).1,aY c=true:=MP (by decide) true _ λx n c o=>Vd (Vb ((V7 ((AY d).2 x n).1).2.2.2.2 c o)).2
 have b:=aVL m (by omega);refine⟨b,?_⟩;unfold uniD;rw[if_neg (by rw[h];simp),b]
theorem Vo(T:aj)(t:TV)(s:List Int)(w:World)(ht:aV w t T)(hs:IsB s):Calls prog 49 #[t.v,.string (sB s)] w (zI w (eY T s)):=by
 have G:=cZ w t;have f:=ah G;have HP:=ah (MH T t s (tW' w t) (ht.aB G) hs);have S:Hid (eY T s=if(dR T s).2.2≠0 then([],(dR T s).2)else vF (dR T s).1):=rfl;have H:=ah (@AY T s);generalize eY T s=D at*;generalize dR T s=Y at*;obtain⟨L,pi,U⟩:=Y;simp only[]at S H |-;go_enter func49,ntmps49;go_wp2_with fail;refine HP.out.mono ?_;rintro e V⟨A,n,c,rfl,W,I⟩;have g:=ah I;have i:=ah W;have X:=f.out.trans' I;simp only[]at i;by_cases a:U=0
 case neg=>
  have j:=ah (S.out.trans (if_pos a));have e1:(U != 0)=true:=bN' a;go_wp2;go_ret3;exact⟨by rw[j.out];rfl,X⟩
 have J:=ah (S.out.trans (if_neg (by rw[a];simp)));have e1:(U != 0)=false:=bZ' a;have HO:=ah (H.out a);have hn:=i.out.len.1;subst hn;have hm:L.length<=5000:=HO.out.1;go_wp2;go_loopg[10,32] L.length (λgh Z a0 wx=>AsL V L gh Z a0 wx);exact⟨0,none,0,by omega,rfl,rfl,ah (Own.nil_ _ _ _ _),ah rfl,ah (Ext.refl _)⟩;obtain⟨k,A2,c2,ax,rfl,rfl,p,q,E⟩:=hrel;have a1:=f.out.trans' (g.out.trans' E.out);by_cases F:k<L.length
 .obtain⟨a2,rfl⟩:=gS' gk;obtain⟨b,o,za,zn,zc,rfl,aL,hz⟩:=(i.out.ext E.out).at_ F;have r:=ah (UR F);have N:Hid (((L.take (k+1)).map λl=>(alE l).1)=((L.take k).map λl=>(alE l).1)++[(alE L[k]).1]):=ah (by rw[List.take_succ_eq_append_getElem F,List.map_append];rfl);have HE:=ah (SE L[k] za zn zc wr hz (by have:=(HO.out.2 _ (List.getElem_mem F)).2;omega));generalize L[k]=x at*;generalize alE x=Y at*;obtain⟨y,ev⟩:=Y;simp only[]at r N;have aZ:=z0' k;have b0:(k:Int)<(L.length:Int):=by omega
  go_wp2_with fail;refine HE.out.mono ?_;rintro e w2⟨rfl,a5⟩;have d:=ah a5;by_cases a:ev=0
  .have e2:(ev != 0)=false:=bZ' a;have a7:=ah ((r.out.trans (if_neg (by rw[a];simp))).symm.trans q.out);obtain⟨A5,c5,w5,P,z,Q⟩:=MI (Own.ext p.out d.out) y (by omega) (E.out.trans' d.out).b.size;have a8:Ext w2 (w2.alloc (.cells #[.string (sB y)] 9)):=(Ext.refl _).aC _;have bJ:Hid (rJ w5 V.heap.size A5 (k+1) c5 ((L.take (k+1)).map λl=>(alE l).1)):=ah (by rw[N.out];exact z);have bC:Hid (Ext V w5):=ah (dU ((E.out.trans' d.out).trans' a8) Q (λk F=>(Own.lt (Own.ext p.out d.out) k F).1));go_wp2_with(at_builtin;refine dH rfl _ _ _ rfl _ _ rfl rfl _ _ P ?_);go_roundg a2;exact⟨k+1,A5,c5,by omega,by go_num,rfl,bJ,a7,bC⟩;omega
  .have e2:(ev != 0)=true:=bN' a;have j:=ah (J.out.trans (Ez (q.out.symm.trans (r.out.trans (if_pos a)))));have hx:=f.out.trans' (g.out.trans' (E.out.trans' d.out));go_wp2;go_ret3;exact⟨by rw[j.out];rfl,hx⟩
 .have aa:k=L.length:=by omega
  subst aa;have ab:Hid (og 0 L=none):=ah (by rw[<- q.out,List.drop_of_length_le (by omega)];rfl);have B:=ah (J.out.trans (Ey ab.out));have C:=rJ.sts p.out;rw[List.take_length]at C;have ac:=ah (Tf _ _ _ _ wr C (by rw[List.length_map];omega));have ad:=ah (aNm _ _ _ _ wr C (by rw[List.length_map];omega));have R:Hid ((jm (L.map λl=>(alE l).1)).2=0->(oI (L.map λl=>(alE l).1)).2=0):=ah (λh=>by unfold oI;rw[if_neg (by rw[h];simp)]);generalize(L.map λl=>(alE l).1)=O at*;generalize jm O=K at*;generalize oI O=M at*;obtain⟨ki,ke⟩:=K;obtain⟨m,me⟩:=M;simp only[]at B R;go_wp2_with fail;refine ac.out.mono ?_;rintro e w2⟨he,rfl⟩;unfold IE2 at he;subst he;simp only[];by_cases a:ke=0
  .have e2:(ke != 0)=false:=bZ' a;have j:=ah (B.out.trans (if_neg (by rw[a];simp)));have af:=ah (R.out a);go_wp2_with fail;refine ad.out.mono ?_;rintro e w3⟨rfl,ag⟩;have hx:=f.out.trans' (g.out.trans' (E.out.trans' ag));go_wp2;go_ret3;exact⟨by rw[j.out,af.out];rfl,hx⟩
  .have e2:(ke != 0)=true:=bN' a;have j:=ah (B.out.trans (if_pos a));go_wp2;go_ret3;exact⟨by rw[j.out];rfl,a1⟩
theorem aWj(T:aj)(t:TV)(s:List Int)(w:World)(ht:aV w t T)(M:IsB s):Calls prog 51 #[t.v,.string (sB s)] w (zI w (uniD T s)):=by
 have b:=cZ w t;have l:=ah b;have H:=ah (ht.aB b);have N:=ah M;have O:=ah (Vo T t s (tW' w t) H.out M);have I:Hid (uniD T s=if(eY T s).2.2≠0 then([],(eY T s).2)else((lM (jnL (dR T s).1)).1,0,(lM (jnL (dR T s).1)).2)):=rfl;have d:=ah (@uni_ok T s);have J:=ah (@UW T s);generalize uniD T s=V at*;generalize eY T s=D at*;obtain⟨m,X,o⟩:=D;simp only[]at I J d;go_enter func51,ntmps51;go_wp2_with fail;refine O.out.mono ?_;rintro e K⟨rfl,a⟩;have p:=ah a;have f:=l.out.trans' a;have Z:∀k:Nat,K.cell? ⟨w.heap.size,k,none⟩=t.v.cells[k]? :=aQ a;simp only[];by_cases g:o=0
 .have h:=ah (J.out g);have i:=ah (d.out g);have q:=ah (MH T t s K (H.out.aB p.out) N.out);have P:(o != 0)=false:=bZ' g;generalize dR T s=Y at*;obtain⟨L,pi,pe⟩:=Y;simp only[]at h i;go_wp2_with fail;refine q.out.mono ?_;rintro e Q⟨A,n,c,rfl,r,x⟩;have j:=ah r;have y:=f.trans' x;simp only[]at j |-;go_wp2_with fail;refine(aNU L A n c Q j.out h.out).mono ?_;rintro e R⟨S,U,W,rfl,z,B⟩;have C:=ah z;have E:=y.trans' B;go_wp2_with fail;refine(DN (jnL L) S U W R C.out).mono ?_;rintro e w4⟨rfl,F⟩;have G:=E.trans' F;go_wp2;go_ret3;exact⟨by rw[i.out.2,i.out.1];rfl,G⟩
 .have i:=ah (I.out.trans (if_pos g));have P:(o != 0)=true:=bN' g;go_wp2;go_ret3;exact⟨by rw[i.out];rfl,f⟩
def pK:Nm:=([],[],[])
abbrev nmV(p:Nm):Value:= .agg #[.string (sB p.1),.string (sB p.2.1),.string (sB p.2.2)]
abbrev pJ:Array Value:= #[.string ⟨#[]⟩,.string ⟨#[]⟩,.string ⟨#[]⟩]
noncomputable def zN(T:aj)(s l:List Int):Nm × Int:=if 4<sJ T l then(pK,20)else if(kS T l).2≠0 then(pK,(kS T l).2)else if(kS T l).1.length=0 then(pK,10)else(((eY T s).1,(uniD T s).1,(kS T l).1),0)
noncomputable def oq(T:aj)(s:List Int):Nm × Int:=if(eY T s).2.2≠0 then(pK,(eY T s).2.2)else if(dR T s).1.length≠1 then(pK,21)else zN T s ((dR T s).1.getD 0 [])
def Hg(w:World)(d:Nm × Int)(e:Ending)(w':World):Prop:=e= .returned (.tuple #[nmV d.1,.int .i64 d.2])/\Ext w w'
theorem N7{w w':World}{A:Obj}{a:Array Value}{ty:TypeId}(h:Ext ((w.alloc A).alloc (.cells a ty)) w'):w'.heap[w.heap.size+1]? =some (.cells a ty (0,0)):=
 (h.b.block _ (by simp)).trans (heap_alloc2_new w _ _)
theorem qx{w w':World}{g:Nat}(h:Ext w w')(d:w.heap.size<=g)(c:Array Value):Ext w (w'.setRow g c):=
 dU (row:=some g) h ⟨rfl,rfl,rfl,by simp[World.setRow],λk a b=>setRow_other _ _ _ _ λe=>b (by rw[e])⟩ (λk a=>by injection a with a;omega)
theorem results_cell_row_tmp{c:Func}{p u:Tmp}{ty:TypeId}(h:c.results= #[.cell p ty,.tmp u])(a:Array Value)(w:World)(g:Nat)(t:TypeId)(b:Array Value)(d:Nat × Nat){fs}
 (f:a.getD p undef= .pointer (some ⟨g,0,none⟩)) (i:w.heap[g]? =some (.cells b t d))
 (j:prog.underlying ty=some (.struct fs)) (k:(prog.info? ty).map (·.size)=some b.size):
 (results c a).run prog w= .ok (.tuple #[.agg b,a.getD u undef]) w:=by
 rw[results_cell_tmp h,f];simp[asAddr,Result.andThen,run_loadVar_row w g t ty b d (.struct fs) i j rfl k]
theorem sZ(a b c:ByteArray):(#[.string a,.string b,.string c]:Array Value).all (·.oneCell')=true:=by simp[Value.oneCell']
theorem VE(T:aj)(t:TV)(s:List Int)(w:World)(ht:aV w t T)(hs:IsB s):Calls prog 14 #[t.v,.string (sB s)] w (Hg w (oq T s)):=by
 obtain⟨I,y⟩:=eX' ((w.alloc (.cells #[.slice t.s0.a t.s0.n t.s0.c,.slice t.s1.a t.s1.n t.s1.c,.slice t.s2.a t.s2.n t.s2.c,.slice t.s3.a t.s3.n t.s3.c,.slice t.s4.a t.s4.n t.s4.c,.slice t.s5.a t.s5.n t.s5.c,.slice t.s6.a t.s6.n t.s6.c,.slice t.s7.a t.s7.n t.s7.c,.slice t.s8.a t.s8.n t.s8.c,.slice t.s9.a t.s9.n t.s9.c,.slice t.s10.a t.s10.n t.s10.c,.slice t.s11.a t.s11.n t.s11.c] 26)).alloc (.cells pJ 32));have K:Ext w I:=by rw[y];exact((Ext.refl _).aC _).aC _
 have j:=ah K;have HT:=ah (ht.aB K);have M:Hid (∀f,Ext I f->∀k:Nat,f.cell? ⟨w.heap.size,k,none⟩=t.v.cells[k]?):=ah (λf h=>aQ (((Ext.refl _).aC _).trans' (by rw[y]at h;exact h)));have g:Hid (∀f,Ext I f->f.heap[w.heap.size+1]? =some (.cells pJ 32 (0,0))):=ah (λf h=>N7 (by rw[y]at h;exact h));have C1:Hid (∀f,Ext I f->Calls prog 44 #[t.v,.string (sB s)] f (zI f (eY T s))):=ah (λf h=>aSS T t s f (HT.out.aB h) hs);have C2:Hid (∀f,Ext I f->Calls prog 45 #[t.v,.string (sB s)] f (zI f (uniD T s))):=ah (λf h=>aSW T t s f (HT.out.aB h) hs);have C3:Hid (∀f,Ext I f->Calls prog 46 #[t.v,.string (sB s)] f (H7 f (dR T s))):=ah (λf h=>UN T t s f (HT.out.aB h) hs);have HD:Hid (oq T s=if(eY T s).2.2≠0 then(pK,(eY T s).2.2)else if(dR T s).1.length≠1 then(pK,21)else zN T s ((dR T s).1.getD 0 [])):=rfl;have fU:Hid (∀l,zN T s l=if 4<sJ T l then(pK,20)else if(kS T l).2≠0 then(pK,(kS T l).2)else if(kS T l).1.length=0 then(pK,10)else(((eY T s).1,(uniD T s).1,(kS T l).1),0)):=ah λ_=>rfl
 have HU:Hid ((eY T s).2.2=0->(uniD T s).2.2=0):=ah λh=>by rw[(uni_ok h).2]
 have HP:Hid ((eY T s).2.2=0->(dR T s).2.2=0/\∀l∈(dR T s).1,aX T l=0):=ah λh=>by
  have N:(dR T s).2.2=0:=by
   unfold eY at h;split at h
   .exact absurd h ‹_›
   .exact Decidable.not_not.1 ‹_›
  exact⟨N,λl hl=>Ew ((AY N).2 l hl).1⟩
 generalize zN T s=CL at*;generalize oq T s=D at*;generalize eY T s=DA at*;generalize uniD T s=I7 at*;generalize dR T s=DP at*;obtain⟨a,ai,ae⟩:=DA;obtain⟨u,ui,ue⟩:=I7;obtain⟨L,pi,pe⟩:=DP;simp only[]at HD fU HU HP;clear ht hs K;go_enter func14,ntmps14;go_wp2_with fail;rw[<- y];refine(C1.out _ (Ext.refl _)).mono ?_;rintro e w1⟨rfl,a4⟩;have q:=ah (a4);have lH:=M.out _ q.out;clear a4 y;by_cases J:ae=0
 case neg=>
  have e0:(ae != 0)=true:=bN' J;have B:=ah (HD.out.trans (if_pos J));clear J HD fU HU HP C2 C3;go_wp2_with(refine wpList_store_row rfl _ _ _ rfl (w.heap.size+1) _ rfl rfl 32 pJ (g.out _ q.out) (by kernel_rfl) rfl (sZ _ _ _) ?_)
  (try simp only[Exit.inBlock,Exit.then])
  refine bodyPost_ret (results_cell_row_tmp (p:=4) (u:=5) (ty:=32) (by kernel_rfl) _ _ (w.heap.size+1) 32 _ (0,0) (by first|rfl|simp[Act.put]) (setRow_heap _ _ _ _ _ _ (g.out _ q.out)) underlying32 (by kernel_rfl)) rfl ?_;exact⟨by rw[B.out];rfl,qx (j.out.trans' q.out) (Nat.le_succ _) _⟩
 have O:=ah (HD.out.trans (if_neg (by rw[J];simp)));have aq:=ah (HU.out J);have P:=ah (HP.out J);have e0:(ae != 0)=false:=bZ' J;clear J HD HU HP;have eu:(ue != 0)=false:=by rw[aq.out];rfl
 go_wp2_with fail;refine(C2.out _ q.out).mono ?_;rintro e w2⟨rfl,a5⟩;have Q:=ah (q.out.trans' a5);have fQ:=M.out _ Q.out;clear a5 lH;have ep:(pe != 0)=false:=by rw[P.out.1];rfl
 go_wp2_with fail;refine(C3.out _ Q.out).mono ?_;rintro e w3⟨A,m,d,rfl,hl,a6⟩;have i:=ah (Q.out.trans' a6);have gJ:=M.out _ i.out;clear a6 fQ;have HL:=ah hl;have hm:=hl.len.1;simp only[]at hm HL;clear hl;by_cases N:L.length=1
 case neg=>
  have B:=ah (O.out.trans (if_pos N));have e1:(((m:Nat):Int) != 1)=true:=by rw[bne_iff_ne];omega
  have av:(m != 1)=true:=by rw[bne_iff_ne];omega
  clear N O fU;go_wp2_with(refine wpList_store_row rfl _ _ _ rfl (w.heap.size+1) _ rfl rfl 32 pJ (g.out _ i.out) (by kernel_rfl) rfl (sZ _ _ _) ?_)
  (try simp only[Exit.inBlock,Exit.then])
  refine bodyPost_ret (results_cell_row_tmp (p:=4) (u:=5) (ty:=32) (by kernel_rfl) _ _ (w.heap.size+1) 32 _ (0,0) (by first|rfl|simp[Act.put]) (setRow_heap _ _ _ _ _ _ (g.out _ i.out)) underlying32 (by kernel_rfl)) rfl ?_;exact⟨by rw[B.out];rfl,qx (j.out.trans' i.out) (Nat.le_succ _) _⟩
 have a7:=ah (O.out.trans (if_neg (by rw[N];simp)));have e1:(((m:Nat):Int) != 1)=false:=by rw[show m=1 by omega];rfl
 have av:(m != 1)=false:=by rw[show m=1 by omega];rfl
 obtain⟨b,o,R,S,U,rfl,a8,hz⟩:=HL.out.at_ (show 0<L.length by omega);have V:=ah (P.out.2 _ (List.getElem_mem (show 0<L.length by omega)));have W:=ah (fU.out (L[0]'(by omega)));have a9:Hid (D=CL (L[0]'(by omega))):=ah (by rw[a7.out,getD_lt L 0 [] (by omega)]);have HZ:=ah hz;have AU:=ah a8;have ax:m=1:=by omega
 clear hz P fU a7 a8;generalize L[0]'(by omega)=x at*;subst ax;clear N hm HL;have aa:Hid (pR T x=sJ T x):=ah (by rw[pR,if_pos V.out])
 have ab:Hid (∀f,Ext w3 f->Calls prog 47 #[t.v,.slice R S U] f λe C=>e= .returned (.tuple #[.int .i64 (sJ T x),.int .i64 0])/\Ext f C):=ah (λf h=>by
  have h':=nP' t T x R S U f (HT.out.aB (i.out.trans' h)) (HZ.out.ext h)
  rwa[aa.out,V.out]at h')
 have HK:Hid (∀f,Ext w3 f->Calls prog 48 #[t.v,.slice R S U] f λe C=>e= .returned (.tuple #[.string (sB (kS T x).1),.int .i64 (kS T x).2])/\Ext f C):=ah (λf h=>aYd T t x R S U f (HT.out.aB (i.out.trans' h)) (HZ.out.ext h));generalize sJ T x=lv at*;generalize kS T x=kd at*;obtain⟨k,ke⟩:=kd;simp only[]at W HK;have F:=ah (a9.out.trans W.out);have rL:∀z:ak w3,∀p:Nat,z.w.cell? ⟨w.heap.size,p,none⟩=t.v.cells[p]? :=λz=>M.out _ (i.out.trans' z.h)
 have cL:∀z:ak w3,z.w.cell? ⟨b,o,none⟩=some (.slice R S U):=dD AU.out;clear a9 W aa V HZ gJ;go_wp2_with fail;refine rX' ?_
 repeat(go_big_quiet_step(first|(go_at_call 47;with_reducible exact aS (ab.out _ (ak.h _)))))
 refine wpQuiet_nil ?_;rintro _⟨v,rfl⟩;have r:=ah (i.out.trans' v.h);have ac:=ah v.h;have dh:=M.out _ r.out;clear rL cL ab;generalize v.w=v1 at*;clear v;by_cases Y:4<lv
 .have d2:decide (4<lv)=true:=decide_eq_true Y;have B:=ah (F.out.trans (if_pos Y));clear Y F;go_wp2_with(refine wpList_store_row rfl _ _ _ rfl (w.heap.size+1) _ rfl rfl 32 pJ (g.out _ r.out) (by kernel_rfl) rfl (sZ _ _ _) ?_)
  (try simp only[Exit.inBlock,Exit.then])
  refine bodyPost_ret (results_cell_row_tmp (p:=4) (u:=5) (ty:=32) (by kernel_rfl) _ _ (w.heap.size+1) 32 _ (0,0) (by first|rfl|simp[Act.put]) (setRow_heap _ _ _ _ _ _ (g.out _ r.out)) underlying32 (by kernel_rfl)) rfl ?_;exact⟨by rw[B.out];rfl,qx (j.out.trans' r.out) (Nat.le_succ _) _⟩
 have G:=ah (F.out.trans (if_neg Y));have d2:decide (4<lv)=false:=decide_eq_false Y;have rL:∀z:ak v1,∀p:Nat,z.w.cell? ⟨w.heap.size,p,none⟩=t.v.cells[p]? :=λz=>M.out _ (r.out.trans' z.h)
 have cL:∀z:ak v1,z.w.cell? ⟨b,o,none⟩=some (.slice R S U):=dD (bD (bH ac.out) AU.out);have ad:Hid (∀f,Ext v1 f->Calls prog 48 #[t.v,.slice R S U] f λe C=>e= .returned (.tuple #[.string (sB k),.int .i64 ke])/\Ext f C):=ah (λf h=>HK.out f (ac.out.trans' h));clear Y F dh HK;go_wp2_with fail;refine rX' ?_
 repeat(go_big_quiet_step(first|(go_at_call 48;with_reducible exact aS (ad.out _ (ak.h _)))))
 refine wpQuiet_nil ?_;rintro _⟨v,rfl⟩;have E:=ah (r.out.trans' v.h);have rK:=M.out _ E.out;clear rL cL ad;generalize v.w=v2 at*;clear v;by_cases Z:ke=0
 case neg=>
  have e3:(ke != 0)=true:=bN' Z;have B:=ah (G.out.trans (if_pos Z));clear Z G;go_wp2_with(refine wpList_store_row rfl _ _ _ rfl (w.heap.size+1) _ rfl rfl 32 pJ (g.out _ E.out) (by kernel_rfl) rfl (sZ _ _ _) ?_)
  (try simp only[Exit.inBlock,Exit.then])
  refine bodyPost_ret (results_cell_row_tmp (p:=4) (u:=5) (ty:=32) (by kernel_rfl) _ _ (w.heap.size+1) 32 _ (0,0) (by first|rfl|simp[Act.put]) (setRow_heap _ _ _ _ _ _ (g.out _ E.out)) underlying32 (by kernel_rfl)) rfl ?_;exact⟨by rw[B.out];rfl,qx (j.out.trans' E.out) (Nat.le_succ _) _⟩
 have e3:(ke != 0)=false:=bZ' Z;have H:=ah (G.out.trans (if_neg (by rw[Z];simp)));have af:=xG k;clear Z G;by_cases X:k.length=0
 .have B:=ah (H.out.trans (if_pos X));rw[List.eq_nil_of_length_eq_zero X,show([]:List Int).isEmpty=true from rfl]at af;rw[List.eq_nil_of_length_eq_zero X];clear X H;go_wp2_with(refine wpList_store_row rfl _ _ _ rfl (w.heap.size+1) _ rfl rfl 32 pJ (g.out _ E.out) (by kernel_rfl) rfl (sZ _ _ _) ?_)
  (try simp only[Exit.inBlock,Exit.then])
  refine bodyPost_ret (results_cell_row_tmp (p:=4) (u:=5) (ty:=32) (by kernel_rfl) _ _ (w.heap.size+1) 32 _ (0,0) (by first|rfl|simp[Act.put]) (setRow_heap _ _ _ _ _ _ (g.out _ E.out)) underlying32 (by kernel_rfl)) rfl ?_;exact⟨by rw[B.out];rfl,qx (j.out.trans' E.out) (Nat.le_succ _) _⟩
 have B:=ah (H.out.trans (if_neg X));rw[show k.isEmpty=false from by cases k with|nil=>exact absurd rfl X|cons a b=>rfl]at af;clear X H;go_wp2_with(refine wpList_store_row rfl _ _ _ rfl (w.heap.size+1) _ rfl rfl 32 pJ (g.out _ E.out) (by kernel_rfl) rfl (sZ _ _ _) ?_)
 (try simp only[Exit.inBlock,Exit.then])
 refine bodyPost_ret (results_cell_row_tmp (p:=4) (u:=5) (ty:=32) (by kernel_rfl) _ _ (w.heap.size+1) 32 _ (0,0) (by first|rfl|simp[Act.put]) (setRow_heap _ _ _ _ _ _ (g.out _ E.out)) underlying32 (by kernel_rfl)) rfl ?_;exact⟨by rw[B.out];rfl,qx (j.out.trans' E.out) (Nat.le_succ _) _⟩
theorem aZJ(T:aj)(t:TV)(s:List Int)(w:World)(ht:aV w t T)(hs:IsB s):Calls prog 15 #[t.v,.string (sB s)] w (Hg w (oq T s)):=by
 obtain⟨I,y⟩:=eX' ((w.alloc (.cells #[.slice t.s0.a t.s0.n t.s0.c,.slice t.s1.a t.s1.n t.s1.c,.slice t.s2.a t.s2.n t.s2.c,.slice t.s3.a t.s3.n t.s3.c,.slice t.s4.a t.s4.n t.s4.c,.slice t.s5.a t.s5.n t.s5.c,.slice t.s6.a t.s6.n t.s6.c,.slice t.s7.a t.s7.n t.s7.c,.slice t.s8.a t.s8.n t.s8.c,.slice t.s9.a t.s9.n t.s9.c,.slice t.s10.a t.s10.n t.s10.c,.slice t.s11.a t.s11.n t.s11.c] 26)).alloc (.cells pJ 32));have K:Ext w I:=by rw[y];exact((Ext.refl _).aC _).aC _
 have j:=ah K;have Z:=ah (ht.aB K);have W:Hid (∀f,Ext I f->∀k:Nat,f.cell? ⟨w.heap.size,k,none⟩=t.v.cells[k]?):=ah (λf h=>aQ (((Ext.refl _).aC _).trans' (by rw[y]at h;exact h)));have g:Hid (∀f,Ext I f->f.heap[w.heap.size+1]? =some (.cells pJ 32 (0,0))):=ah (λf h=>N7 (by rw[y]at h;exact h));have C1:Hid (∀f,Ext I f->Calls prog 49 #[t.v,.string (sB s)] f (zI f (eY T s))):=ah (λf h=>Vo T t s f (Z.out.aB h) hs);have C2:Hid (∀f,Ext I f->Calls prog 51 #[t.v,.string (sB s)] f (zI f (uniD T s))):=ah (λf h=>aWj T t s f (Z.out.aB h) hs);have C3:Hid (∀f,Ext I f->Calls prog 21 #[t.v,.string (sB s)] f (H7 f (dR T s))):=ah (λf h=>MH T t s f (Z.out.aB h) hs);have HD:Hid (oq T s=if(eY T s).2.2≠0 then(pK,(eY T s).2.2)else if(dR T s).1.length≠1 then(pK,21)else zN T s ((dR T s).1.getD 0 [])):=rfl;have fU:Hid (∀l,zN T s l=if 4<sJ T l then(pK,20)else if(kS T l).2≠0 then(pK,(kS T l).2)else if(kS T l).1.length=0 then(pK,10)else(((eY T s).1,(uniD T s).1,(kS T l).1),0)):=ah λ_=>rfl
 have HU:Hid ((eY T s).2.2=0->(uniD T s).2.2=0):=ah λh=>by rw[(uni_ok h).2]
 have HP:Hid ((eY T s).2.2=0->(dR T s).2.2=0/\∀l∈(dR T s).1,aX T l=0):=ah λh=>by
  have M:(dR T s).2.2=0:=by
   unfold eY at h;split at h
   .exact absurd h ‹_›
   .exact Decidable.not_not.1 ‹_›
  exact⟨M,λl hl=>Ew ((AY M).2 l hl).1⟩
 generalize zN T s=CL at*;generalize oq T s=D at*;generalize eY T s=DA at*;generalize uniD T s=I7 at*;generalize dR T s=DP at*;obtain⟨a,ai,ae⟩:=DA;obtain⟨u,ui,ue⟩:=I7;obtain⟨L,pi,pe⟩:=DP;simp only[]at HD fU HU HP;clear ht hs K;go_enter func15,ntmps15;go_wp2_with fail;rw[<- y];refine(C1.out _ (Ext.refl _)).mono ?_;rintro e w1⟨rfl,a3⟩;have q:=ah (a3);have lH:=W.out _ q.out;clear a3 y;by_cases J:ae=0
 case neg=>
  have e0:(ae != 0)=true:=bN' J;have B:=ah (HD.out.trans (if_pos J));clear J HD fU HU HP C2 C3;go_wp2_with(refine wpList_store_row rfl _ _ _ rfl (w.heap.size+1) _ rfl rfl 32 pJ (g.out _ q.out) (by kernel_rfl) rfl (sZ _ _ _) ?_)
  (try simp only[Exit.inBlock,Exit.then])
  refine bodyPost_ret (results_cell_row_tmp (p:=4) (u:=5) (ty:=32) (by kernel_rfl) _ _ (w.heap.size+1) 32 _ (0,0) (by first|rfl|simp[Act.put]) (setRow_heap _ _ _ _ _ _ (g.out _ q.out)) underlying32 (by kernel_rfl)) rfl ?_;exact⟨by rw[B.out];rfl,qx (j.out.trans' q.out) (Nat.le_succ _) _⟩
 have N:=ah (HD.out.trans (if_neg (by rw[J];simp)));have b4:=ah (HU.out J);have O:=ah (HP.out J);have e0:(ae != 0)=false:=bZ' J;clear J HD HU HP;have ep:(pe != 0)=false:=by rw[O.out.1];rfl
 go_wp2_with fail;refine(C3.out _ q.out).mono ?_;rintro e w2⟨A,m,d,rfl,hl,a4⟩;have i:=ah (q.out.trans' a4);have fQ:=W.out _ i.out;clear a4 lH;have HL:=ah hl;have hm:=hl.len.1;simp only[]at hm HL;clear hl;by_cases M:L.length=1
 case neg=>
  have B:=ah (N.out.trans (if_pos M));have e1:(((m:Nat):Int) != 1)=true:=by rw[bne_iff_ne];omega
  have aq:(m != 1)=true:=by rw[bne_iff_ne];omega
  clear M N fU;go_wp2_with(refine wpList_store_row rfl _ _ _ rfl (w.heap.size+1) _ rfl rfl 32 pJ (g.out _ i.out) (by kernel_rfl) rfl (sZ _ _ _) ?_)
  (try simp only[Exit.inBlock,Exit.then])
  refine bodyPost_ret (results_cell_row_tmp (p:=4) (u:=5) (ty:=32) (by kernel_rfl) _ _ (w.heap.size+1) 32 _ (0,0) (by first|rfl|simp[Act.put]) (setRow_heap _ _ _ _ _ _ (g.out _ i.out)) underlying32 (by kernel_rfl)) rfl ?_;exact⟨by rw[B.out];rfl,qx (j.out.trans' i.out) (Nat.le_succ _) _⟩
 have a5:=ah (N.out.trans (if_neg (by rw[M];simp)));have e1:(((m:Nat):Int) != 1)=false:=by rw[show m=1 by omega];rfl
 have aq:(m != 1)=false:=by rw[show m=1 by omega];rfl
 obtain⟨b,o,P,Q,R,rfl,a6,hz⟩:=HL.out.at_ (show 0<L.length by omega);have S:=ah (O.out.2 _ (List.getElem_mem (show 0<L.length by omega)));have U:=ah (fU.out (L[0]'(by omega)));have a7:Hid (D=CL (L[0]'(by omega))):=ah (by rw[a5.out,getD_lt L 0 [] (by omega)]);have HZ:=ah hz;have AU:=ah a6;have av:m=1:=by omega
 clear hz O fU a5 a6;generalize L[0]'(by omega)=x at*;subst av;clear M hm HL;have a8:Hid (pR T x=sJ T x):=ah (by rw[pR,if_pos S.out])
 have a9:Hid (∀f,Ext w2 f->Calls prog 50 #[t.v,.slice P Q R] f λe C=>e= .returned (.tuple #[.int .i64 (sJ T x),.int .i64 0])/\Ext f C):=ah (λf h=>by
  have h':=Xh t T x P Q R f (Z.out.aB (i.out.trans' h)) (HZ.out.ext h)
  rwa[a8.out,S.out]at h')
 have HK:Hid (∀f,Ext w2 f->Calls prog 22 #[t.v,.slice P Q R] f λe C=>e= .returned (.tuple #[.string (sB (kS T x).1),.int .i64 (kS T x).2])/\Ext f C):=ah (λf h=>aYc T t x P Q R f (Z.out.aB (i.out.trans' h)) (HZ.out.ext h));generalize sJ T x=lv at*;generalize kS T x=kd at*;obtain⟨k,ke⟩:=kd;simp only[]at U HK;have E:=ah (a7.out.trans U.out);have rL:∀z:ak w2,∀p:Nat,z.w.cell? ⟨w.heap.size,p,none⟩=t.v.cells[p]? :=λz=>W.out _ (i.out.trans' z.h)
 have cL:∀z:ak w2,z.w.cell? ⟨b,o,none⟩=some (.slice P Q R):=dD AU.out;clear a7 U a8 S HZ fQ;go_wp2_with fail;refine rX' ?_
 repeat(go_big_quiet_step(first|(go_at_call 50;with_reducible exact aS (a9.out _ (ak.h _)))))
 refine wpQuiet_nil ?_;rintro _⟨v,rfl⟩;have r:=ah (i.out.trans' v.h);have aa:=ah v.h;have dh:=W.out _ r.out;clear rL cL a9;generalize v.w=v1 at*;clear v;by_cases X:4<lv
 .have d2:decide (4<lv)=true:=decide_eq_true X;have B:=ah (E.out.trans (if_pos X));clear X E;go_wp2_with(refine wpList_store_row rfl _ _ _ rfl (w.heap.size+1) _ rfl rfl 32 pJ (g.out _ r.out) (by kernel_rfl) rfl (sZ _ _ _) ?_)
  (try simp only[Exit.inBlock,Exit.then])
  refine bodyPost_ret (results_cell_row_tmp (p:=4) (u:=5) (ty:=32) (by kernel_rfl) _ _ (w.heap.size+1) 32 _ (0,0) (by first|rfl|simp[Act.put]) (setRow_heap _ _ _ _ _ _ (g.out _ r.out)) underlying32 (by kernel_rfl)) rfl ?_;exact⟨by rw[B.out];rfl,qx (j.out.trans' r.out) (Nat.le_succ _) _⟩
 have F:=ah (E.out.trans (if_neg X));have d2:decide (4<lv)=false:=decide_eq_false X;have rL:∀z:ak v1,∀p:Nat,z.w.cell? ⟨w.heap.size,p,none⟩=t.v.cells[p]? :=λz=>W.out _ (r.out.trans' z.h)
 have cL:∀z:ak v1,z.w.cell? ⟨b,o,none⟩=some (.slice P Q R):=dD (bD (bH aa.out) AU.out);have ab:Hid (∀f,Ext v1 f->Calls prog 22 #[t.v,.slice P Q R] f λe C=>e= .returned (.tuple #[.string (sB k),.int .i64 ke])/\Ext f C):=ah (λf h=>HK.out f (aa.out.trans' h));clear X E dh HK;go_wp2_with fail;refine rX' ?_
 repeat(go_big_quiet_step(first|(go_at_call 22;with_reducible exact aS (ab.out _ (ak.h _)))))
 refine wpQuiet_nil ?_;rintro _⟨v,rfl⟩;have G:=ah (r.out.trans' v.h);have rK:=W.out _ G.out;clear rL cL ab;generalize v.w=v2 at*;clear v;by_cases Y:ke=0
 case neg=>
  have e3:(ke != 0)=true:=bN' Y;have B:=ah (F.out.trans (if_pos Y));clear Y F;go_wp2_with(refine wpList_store_row rfl _ _ _ rfl (w.heap.size+1) _ rfl rfl 32 pJ (g.out _ G.out) (by kernel_rfl) rfl (sZ _ _ _) ?_)
  (try simp only[Exit.inBlock,Exit.then])
  refine bodyPost_ret (results_cell_row_tmp (p:=4) (u:=5) (ty:=32) (by kernel_rfl) _ _ (w.heap.size+1) 32 _ (0,0) (by first|rfl|simp[Act.put]) (setRow_heap _ _ _ _ _ _ (g.out _ G.out)) underlying32 (by kernel_rfl)) rfl ?_;exact⟨by rw[B.out];rfl,qx (j.out.trans' G.out) (Nat.le_succ _) _⟩
 have e3:(ke != 0)=false:=bZ' Y;have H:=ah (F.out.trans (if_neg (by rw[Y];simp)));have ac:=xG k;clear Y F;by_cases V:k.length=0
 .have B:=ah (H.out.trans (if_pos V));rw[List.eq_nil_of_length_eq_zero V,show([]:List Int).isEmpty=true from rfl]at ac;rw[List.eq_nil_of_length_eq_zero V];clear V H;go_wp2_with(refine wpList_store_row rfl _ _ _ rfl (w.heap.size+1) _ rfl rfl 32 pJ (g.out _ G.out) (by kernel_rfl) rfl (sZ _ _ _) ?_)
  (try simp only[Exit.inBlock,Exit.then])
  refine bodyPost_ret (results_cell_row_tmp (p:=4) (u:=5) (ty:=32) (by kernel_rfl) _ _ (w.heap.size+1) 32 _ (0,0) (by first|rfl|simp[Act.put]) (setRow_heap _ _ _ _ _ _ (g.out _ G.out)) underlying32 (by kernel_rfl)) rfl ?_;exact⟨by rw[B.out];rfl,qx (j.out.trans' G.out) (Nat.le_succ _) _⟩
 have B:=ah (H.out.trans (if_neg V));rw[show k.isEmpty=false from by cases k with|nil=>exact absurd rfl V|cons a b=>rfl]at ac;clear V H;go_wp2_with fail;refine(C2.out _ G.out).mono ?_;rintro e v3⟨rfl,ad⟩;have aZ:=ah (G.out.trans' ad);clear ad rK;go_wp2_with(refine wpList_store_row rfl _ _ _ rfl (w.heap.size+1) _ rfl rfl 32 pJ (g.out _ aZ.out) (by kernel_rfl) rfl (sZ _ _ _) ?_)
 (try simp only[Exit.inBlock,Exit.then])
 refine bodyPost_ret (results_cell_row_tmp (p:=4) (u:=5) (ty:=32) (by kernel_rfl) _ _ (w.heap.size+1) 32 _ (0,0) (by first|rfl|simp[Act.put]) (setRow_heap _ _ _ _ _ _ (g.out _ aZ.out)) underlying32 (by kernel_rfl)) rfl ?_;exact⟨by rw[B.out];rfl,qx (j.out.trans' aZ.out) (Nat.le_succ _) _⟩
abbrev N8(d:Int × Int × List Int):Value:= .agg #[.int .i64 d.1,.int .i64 d.2.1,.string (sB d.2.2),.int .i64 0,.int .i64 0,.string ⟨#[]⟩,.int .i64 0,.int .i64 0]
abbrev tq:Array Value:= #[.int .i64 0,.int .i64 0,.string ⟨#[]⟩,.int .i64 0,.int .i64 0,.string ⟨#[]⟩,.int .i64 0,.int .i64 0]
theorem Ba(a b c d e f:Int)(s t:ByteArray):(#[.int .i64 a,.int .i64 b,.string s,.int .i64 c,.int .i64 d,.string t,.int .i64 e,.int .i64 f]:Array Value).all (·.oneCell')=true:=by simp[Value.oneCell']
theorem results_tt_cell{d:Func}{p u v:Tmp}{ty:TypeId}(h:d.results= #[.tmp u,.tmp v,.cell p ty])(a:Array Value)(w:World)(g:Nat)(t:TypeId)(b:Array Value)(f:Nat × Nat){fs}
 (i:a.getD p undef= .pointer (some ⟨g,0,none⟩)) (j:w.heap[g]? =some (.cells b t f))
 (k:prog.underlying ty=some (.struct fs)) (l:(prog.info? ty).map (·.size)=some b.size):
 (results d a).run prog w= .ok (.tuple #[a.getD u undef,a.getD v undef,.agg b]) w:=by
 have c:a[p]?.getD undef= .pointer (some ⟨g,0,none⟩):=by simpa using i
 simp[results,h,c,asAddr,run_loadVar_row w g t ty b f (.struct fs) j k rfl l]
theorem VO(w:World)(g:Nat)(b:Array Value):Kp [g] w (w.setRow g b):=
 ⟨rfl,rfl,rfl,by simp[World.setRow],λk _ a=>setRow_other _ _ _ _ λe=>a (by simp[e])⟩
abbrev st8(w:World)(g:Nat)(a b:Int)(s:ByteArray):World:=
 (((((((w.setCell ⟨g,0,none⟩ (.int .i64 a)).setCell ⟨g,1,none⟩ (.int .i64 b)).setCell ⟨g,2,none⟩ (.string s)).setCell ⟨g,3,none⟩ (.int .i64 0)).setCell ⟨g,4,none⟩ (.int .i64 0)).setCell ⟨g,5,none⟩ (.string ⟨#[]⟩)).setCell ⟨g,6,none⟩ (.int .i64 0)).setCell ⟨g,7,none⟩ (.int .i64 0)
theorem b0V{w:World}{g:Nat}{ty:TypeId}(h:w.heap[g]? =some (.cells tq ty (0,0)))(a b:Int)(s:ByteArray):(st8 w g a b s).heap[g]? =some (.cells #[.int .i64 a,.int .i64 b,.string s,.int .i64 0,.int .i64 0,.string ⟨#[]⟩,.int .i64 0,.int .i64 0] ty (0,0)):=by
 obtain⟨c,d,f⟩:=wH (g:=g) [.int .i64 a,.int .i64 b,.string s,.int .i64 0,.int .i64 0,.string ⟨#[]⟩,.int .i64 0,.int .i64 0] 0 tq w h (Nat.le_refl _);obtain rfl:c= #[.int .i64 a,.int .i64 b,.string s,.int .i64 0,.int .i64 0,.string ⟨#[]⟩,.int .i64 0,.int .i64 0]:=Array.toList_inj.1 f;exact d
theorem b0X{c w:World}{g:Nat}(h:Ext c w)(d:c.heap.size<=g)(a b:Int)(s:ByteArray):Ext c (st8 w g a b s):=
 rG d [.int .i64 a,.int .i64 b,.string s,.int .i64 0,.int .i64 0,.string ⟨#[]⟩,.int .i64 0,.int .i64 0] 0 _ h
noncomputable def zO(T:aj):Int->List (List Int)->Option (Int × Int)
 |_,[]=>none
 |i,s::r=>if(oq T s).2≠0 then some (i,(oq T s).2)else zO T (i+1) r
noncomputable def ku(T:aj)(R:List (List Int)):List Nm:=R.map λs=>(oq T s).1
noncomputable def mkE(T:aj)(R:List (List Int)):Int × Int × List Int:=
 if R.length=0 then(10,-1,[])else if 16<R.length then(7,-1,[])else match zO T 0 R with
 |some q=>(q.2,q.1,[])
 |none=>match ED (ku T R)with
  |some p=>(22,p.2,p.1.1)
  |none=>(0,-1,[])
noncomputable def mkS(T:aj)(R:List (List Int)):List P3:=if(mkE T R).1=0 then lS (ku T R)else[]
theorem b0C{T:aj}{R:List (List Int)}{k:Nat}(a:k<R.length):zO T k (R.drop k)=if(oq T R[k]).2≠0 then some ((k:Int),(oq T R[k]).2)else zO T ((k+1:Nat):Int) (R.drop (k+1)):=by
 rw[drop_at R k a];rfl
theorem b08{T:aj}{R:List (List Int)}{k:Nat}(a:k<R.length):ku T (R.take (k+1))=ku T (R.take k)++[(oq T R[k]).1]:=by
 unfold ku;rw[List.take_succ_eq_append_getElem a,List.map_append];rfl
def VG(w:World)(d:Int × Int × List Int)(S:List P3)(e:Ending)(w':World):Prop:=∃A n c B m f,e= .returned (.tuple #[.slice A n c,.slice B m f,N8 d])/\NmS w' ⟨A,n,c⟩ (S.map Prod.fst)/\aF w' ⟨B,m,f⟩ (S.map λp=>(p.2:Int))/\Ext w w'
theorem Ho{w w':World}{d:Int × Int × List Int}{T:aj}{R:List (List Int)}(a:mkE T R=d)(b:d.1≠0)(c:Ext w w'){e:Ending}(h:e= .returned (.tuple #[.slice none 0 0,.slice none 0 0,N8 d])):VG w (mkE T R) (mkS T R) e w':=by
 have:mkS T R=[]:=by rw[mkS,if_neg (by rw[a];exact b)]
 rw[this,a];exact⟨none,0,0,none,0,0,h,NmS.nil_ _,aF.nil_ _,c⟩
theorem Hq(e p:Int)(s:List Int)(w:World):Calls prog 52 #[.int .i64 e,.int .i64 p,.string (sB s)] w λe' w'=>e'= .returned (.tuple #[.slice none 0 0,.slice none 0 0,N8 (e,p,s)])/\Ext w w':=by
 go_enter func52,ntmps52;go_wp2_with(refine wpList_store_row rfl _ _ _ rfl w.heap.size _ rfl rfl 42 tq (heap_alloc_new w _) (by kernel_rfl) rfl (Ba _ _ _ _ _ _ _ _) ?_)
 (try simp only[Exit.inBlock,Exit.then])
 refine bodyPost_ret (results_tt_cell (u:=6) (v:=7) (p:=8) (ty:=42) (by kernel_rfl) _ _ w.heap.size 42 _ (0,0) (by first|rfl|simp[Act.put]) (setRow_heap _ _ _ _ _ _ (heap_alloc_new w _)) underlying42 (by kernel_rfl)) rfl ?_;exact⟨rfl,qx ((Ext.refl _).aC _) (Nat.le_refl _) _⟩
def MkL(T:aj)(wb:World)(R:List (List Int))(gh:Nat)(s7 s8 s31:Value)(wx:World):Prop:=
 ∃(k:Nat)(A:Option Addr)(c:Nat)(B:Option Addr)(d:Nat),k+gh=R.length/\s31= .int .i64 k/\s7= .slice A k c/\s8= .slice B k d/\Hid (rO wx wb.heap.size A k c ((lS (ku T (R.take k))).map Prod.fst))/\Hid (aN wx wb.heap.size B k d ((lS (ku T (R.take k))).map λp=>(p.2:Int)))/\Hid (zO T k (R.drop k)=zO T 0 R)/\Hid (Ext wb wx)
theorem VF{T:aj}{R:List (List Int)}{k:Nat}(a:k<=R.length):(lS (ku T (R.take k))).length=k:=by
 rw[aY1,ku,List.length_map,List.length_take];omega
theorem VK:∀(l:List Int),(∀c∈l,aY c=true)->IsB (lK l)
 |[],_=>qI
 |c::r,h=>Dz (BN (h c (List.mem_cons_self ..))) (VK r λx a=>h x (List.mem_cons_of_mem _ a))
theorem VH(l:List Int):IsB (lM l).1:=by
 unfold lM;split
 .exact qI
 .split
  .exact qI
  .rename_i d a;refine VK l λc b=> ?_
   simp only[List.any_eq_true,not_exists,not_and,Bool.not_eq_true',Bool.not_eq_false]at a;exact a c b
theorem b0D(T:aj)(l:List Int):IsB (kS T l).1:=by
 unfold kS;split
 .exact qI
 .exact VH _
theorem uni_isB(T:aj)(s:List Int):IsB (uniD T s).1:=by
 unfold uniD;split
 .exact qI
 .exact VH _
theorem b0B(T:aj)(s:List Int):IsB (eY T s).1:=by
 by_cases h:(eY T s).2.2=0
 .intro c a;rcases(aUi h).1 c a with b|rfl
  .have:=Vm b;omega
  .omega
 .rw[(aUg h).1];exact qI
theorem VJ{T:aj}{s:List Int}(_:IsB s):IsB (oq T s).1.1/\IsB (oq T s).1.2.1/\IsB (oq T s).1.2.2:=by
 have a:IsB pK.1/\IsB pK.2.1/\IsB pK.2.2:=⟨qI,qI,qI⟩;unfold oq;split
 .exact a
 split
 .exact a
 unfold zN;split
 .exact a
 split
 .exact a
 split
 .exact a
 exact⟨b0B T s,uni_isB T s,b0D T _⟩
theorem VL{T:aj}{R:List (List Int)}(d:∀s∈R,IsB s):∀p∈lS (ku T R),IsB p.1.1/\IsB p.1.2.1/\IsB p.1.2.2:=by
 intro p b;have h:=aXh.1 b;obtain⟨c,e⟩:=List.getElem?_eq_some_iff.1 h;have a:p.2<R.length:=by simpa[ku]using c
 rw[<- e];simp only[ku,List.getElem_map];exact VJ (d _ (List.getElem_mem a))
theorem b0E{T:aj}{R:List (List Int)}(a:∀s∈R,IsB s)(p:P3)(b:p∈lS (ku T R)):IsB (kyP p):=(VL a p b).2.2
theorem VN(T:aj)(t:TV)(R:List (List Int))(A:Option Addr)(n c:Nat)(w:World)(ht:aV w t T)(hr:rH w ⟨A,n,c⟩ R)(hB:∀s∈R,IsB s):Calls prog 17 #[t.v,.slice A n c] w (VG w (mkE T R) (mkS T R)):=by
 obtain⟨I,l⟩:=eX' ((w.alloc (.cells #[.slice t.s0.a t.s0.n t.s0.c,.slice t.s1.a t.s1.n t.s1.c,.slice t.s2.a t.s2.n t.s2.c,.slice t.s3.a t.s3.n t.s3.c,.slice t.s4.a t.s4.n t.s4.c,.slice t.s5.a t.s5.n t.s5.c,.slice t.s6.a t.s6.n t.s6.c,.slice t.s7.a t.s7.n t.s7.c,.slice t.s8.a t.s8.n t.s8.c,.slice t.s9.a t.s9.n t.s9.c,.slice t.s10.a t.s10.n t.s10.c,.slice t.s11.a t.s11.n t.s11.c] 26)).alloc (.cells tq 42));have U:Ext w I:=by rw[l];exact((Ext.refl _).aC _).aC _
 have J:=ah U;have HT:=ah (ht.aB U);have HR:=ah (hr.ext U);have V:=ah hB;have gI:Hid (∀B,Ext I B->∀k:Nat,B.cell? ⟨w.heap.size,k,none⟩=t.v.cells[k]?):=ah (λB h=>aQ (((Ext.refl _).aC _).trans' (by rw[l]at h;exact h)));have g:Hid (∀B,Ext I B->B.heap[w.heap.size+1]? =some (.cells tq 42 (0,0))):=ah (λB h=>N7 (by rw[l]at h;exact h));have bL:w.heap.size+2<=I.heap.size:=by rw[l];simp
 have hn:n=R.length:=hr.1.1;subst hn;clear ht hr hB U;by_cases G:R.length=0
 .have Q:Hid (mkE T R=(10,-1,[])):=ah (by rw[mkE,if_pos G]);have H0:Hid (((10,-1,[]):Int × Int × List Int).1≠0):=ah (by decide);have e1:(R.length==0)=true:=by rw[beq_iff_eq];exact G
  have e2:((R.length:Int)==0)=true:=by rw[beq_iff_eq];omega
  clear G;go_enter func17,ntmps17;go_wp2_with fail;rw[<- l];refine(Hq 10 (-1) [] I).mono ?_;rintro e w1⟨rfl,f⟩;go_wp2_with(refine wpList_store_row rfl _ _ _ rfl (w.heap.size+1) _ rfl rfl 42 tq (g.out _ f) (by kernel_rfl) rfl (Ba _ _ _ _ _ _ _ _) ?_)
  (try simp only[Exit.inBlock,Exit.then])
  refine bodyPost_ret (results_tt_cell (u:=4) (v:=5) (p:=6) (ty:=42) (by kernel_rfl) _ _ (w.heap.size+1) 42 _ (0,0) (by first|rfl|simp[Act.put]) (setRow_heap _ _ _ _ _ _ (g.out _ f)) underlying42 (by kernel_rfl)) rfl ?_;exact Ho Q.out H0.out (qx (J.out.trans' f) (Nat.le_succ _) _) rfl
 have e1:(R.length==0)=false:=by rw[aP];exact G
 have e2:((R.length:Int)==0)=false:=bF';by_cases C:16<R.length
 .have Q:Hid (mkE T R=(7,-1,[])):=ah (by rw[mkE,if_neg G,if_pos C]);have H0:Hid (((7,-1,[]):Int × Int × List Int).1≠0):=ah (by decide);have d1:decide (16<R.length)=true:=decide_eq_true C;have d2:decide (16<(R.length:Int))=true:=decide_eq_true (by omega);clear G C;go_enter func17,ntmps17;go_wp2_with fail;rw[<- l];refine(Hq 7 (-1) [] I).mono ?_;rintro e w1⟨rfl,f⟩;go_wp2_with(refine wpList_store_row rfl _ _ _ rfl (w.heap.size+1) _ rfl rfl 42 tq (g.out _ f) (by kernel_rfl) rfl (Ba _ _ _ _ _ _ _ _) ?_)
  (try simp only[Exit.inBlock,Exit.then])
  refine bodyPost_ret (results_tt_cell (u:=4) (v:=5) (p:=6) (ty:=42) (by kernel_rfl) _ _ (w.heap.size+1) 42 _ (0,0) (by first|rfl|simp[Act.put]) (setRow_heap _ _ _ _ _ _ (g.out _ f)) underlying42 (by kernel_rfl)) rfl ?_;exact Ho Q.out H0.out (qx (J.out.trans' f) (Nat.le_succ _) _) rfl
 have d1:decide (16<R.length)=false:=decide_eq_false C;have d2:decide (16<(R.length:Int))=false:=decide_eq_false (by omega);have bE:R.length<=16:=by omega
 have bG:0<R.length:=by omega
 have HM:Hid (mkE T R=match zO T 0 R with
  |some q=>(q.2,q.1,[])
  |none=>match ED (ku T R)with
   |some p=>(22,p.2,p.1.1)
   |none=>(0,-1,[])):=ah (by rw[mkE,if_neg G,if_neg C])
 clear G C;go_enter func17,ntmps17;go_wp2_with fail;rw[<- l];clear l;go_loopg[7,8,31] R.length (λgh s7 s8 bf wx=>MkL T I R gh s7 s8 bf wx);exact⟨0,none,0,none,0,by omega,rfl,rfl,rfl,ah (Own.nil_ _ _ _ _),ah (Own.nil_ _ _ _ _),ah rfl,ah (Ext.refl _)⟩;obtain⟨k,A2,c2,B2,aD,bN,rfl,rfl,rfl,HO,HI,K,HB⟩:=hrel;have rT:=gI.out _ HB.out;by_cases hk:k<R.length
 .obtain⟨bh,rfl⟩:=gS' gk;obtain⟨b,o,rfl,bi⟩:=(HR.out.ext HB.out).at_ hk;have HC:=ah (VE T t R[k] wr (HT.out.aB HB.out) (V.out _ (List.getElem_mem hk)));have W:=ah (b0C (T:=T) hk);have aa:=ah (b08 (T:=T) hk);have X:=ah (λp hp=>b0E (T:=T) (R:=R.take k) (λs hs=>V.out s (List.mem_of_mem_take hs)) p hp);have aL:=ah (VJ (T:=T) (V.out _ (List.getElem_mem hk))).2.2;have m:=ah (VF (T:=T) (R:=R) (k:=k) (by omega));generalize R[k]=x at*;generalize oq T x=D at*;obtain⟨d,ev⟩:=D;simp only[]at W aa aL;have bO:=z0' k;have bR:(k:Int)<(R.length:Int):=by omega
  go_wp2_with fail;refine HC.out.mono ?_;rintro e r⟨rfl,Y⟩;have ab:=ah (HB.out.trans' Y);have dP:=ah (Own.ext HO.out Y);have aM:=ah (Own.ext HI.out Y);have Z:Ext r (r.alloc (.cells #[.string (sB d.1),.string (sB d.2.1),.string (sB d.2.2)] 32)):=(Ext.refl _).aC _;clear Y rT bi HC HO HI;by_cases H:ev=0
  case neg=>
   have f1:(ev != 0)=true:=bN' H;have Q:Hid (mkE T R=(ev,(k:Int),[])):=ah (by rw[HM.out,<- K.out,W.out,if_pos H]);have H0:Hid (((ev,(k:Int),[]):Int × Int × List Int).1≠0):=ah H;clear H;go_wp2_with(refine wpList_store_row rfl _ _ _ rfl r.heap.size _ rfl rfl 32 pJ (heap_alloc_new r _) (by kernel_rfl) rfl (sZ _ _ _) ?_;rw[World.setRow_alloc_new]);refine(Hq ev k [] _).mono ?_;rintro e w4⟨rfl,aR⟩;have ac:=ah ((ab.out.trans' Z).trans' aR);clear aR Z;go_wp2_with(refine wpList_store_row rfl _ _ _ rfl (w.heap.size+1) _ rfl rfl 42 tq (g.out _ ac.out) (by kernel_rfl) rfl (Ba _ _ _ _ _ _ _ _) ?_)
   (try simp only[Exit.inBlock,Exit.then])
   refine bodyPost_ret (results_tt_cell (u:=4) (v:=5) (p:=6) (ty:=42) (by kernel_rfl) _ _ (w.heap.size+1) 42 _ (0,0) (by first|rfl|simp[Act.put]) (setRow_heap _ _ _ _ _ _ (g.out _ ac.out)) underlying42 (by kernel_rfl)) rfl ?_;exact Ho Q.out H0.out (qx (J.out.trans' ac.out) (Nat.le_succ _) _) rfl
  have f1:(ev != 0)=false:=bZ' H;have bj:=ah ((W.out.trans (if_neg (by rw[H];simp))).symm.trans K.out);clear H W K
  have gu:Hid (lS (ku T (R.take (k+1)))=zL (lS (ku T (R.take k))) (d,k)):=ah (by
   rw[aa.out,aXv,ku,List.length_map,List.length_take,Nat.min_eq_left (by omega)])
  generalize lS (ku T (R.take k))=S at*;have HY:Hid (IsB d.2.2/\∀p∈S,IsB (kyP p)):=ah ⟨aL.out,X.out⟩;obtain⟨W5,a0⟩:=eX' (r.alloc (.cells #[.string (sB d.1),.string (sB d.2.1),.string (sB d.2.2)] 32));have a1:Ext r W5:=by rw[a0];exact Z
  have bC:=ah (ab.out.trans' a1);have bJ:=ah (Own.ext dP.out a1);have wu:=ah (Own.ext aM.out a1)
  have gB:Hid (∀B,Ext W5 B->B.cell? ⟨r.heap.size,0,none⟩=some (.string (sB d.1))/\B.cell? ⟨r.heap.size,1,none⟩=some (.string (sB d.2.1))/\B.cell? ⟨r.heap.size,2,none⟩=some (.string (sB d.2.2))):=ah (λB h=>by
   rw[a0]at h
   exact⟨bD (bH h) (World.cell?_alloc_new r _ _ 0),bD (bH h) (World.cell?_alloc_new r _ _ 1),bD (bH h) (World.cell?_alloc_new r _ _ 2)⟩)
  clear Z a1 ab dP aM aa;go_wp2_with(refine wpList_store_row rfl _ _ _ rfl r.heap.size _ rfl rfl 32 pJ (heap_alloc_new r _) (by kernel_rfl) rfl (sZ _ _ _) ?_;rw[World.setRow_alloc_new,<- a0];clear a0);have Gt:=m.out;go_loopg[13] k (λgh bk wx=>bk= .int .i64 gh/\gh<=k/\Hid (sW d.2.2 S gh=sW d.2.2 S k)/\Hid (Ext W5 wx));exact⟨rfl,Nat.le_refl _,ah rfl,ah (Ext.refl _)⟩;obtain⟨rfl,bS,HP,E⟩:=hrel;have ad:=ah (Own.ext bJ.out E.out);have cN:∀z:ak wr,z.w.cell? ⟨r.heap.size,2,none⟩=some (.string (sB d.2.2)):=λz=>(gB.out _ (E.out.trans' z.h)).2.2
  have bl:(decide (0<gk)=false/\Hid (sW d.2.2 S k=gk))\/(decide (0<gk)=true/\∃(j:Nat)(q:List Int)(g0 o0:Nat),(gk:Int) - 1=(j:Int)/\j<k/\Hid (gk=j+1)/\A2=some ⟨g0,o0,none⟩/\(∀z:ak wr,z.w.cell? ⟨g0,o0+j*3+2,none⟩=some (.string (sB q)))/\
   ((Op.bytesLess (sB q).toList (sB d.2.2).toList=true/\Hid (sW d.2.2 S k=gk))\/(Op.bytesLess (sB q).toList (sB d.2.2).toList=false/\((sB q).toList==(sB d.2.2).toList)=true/\Hid (sW d.2.2 S k=gk))\/
    (Op.bytesLess (sB q).toList (sB d.2.2).toList=false/\((sB q).toList==(sB d.2.2).toList)=false/\Hid (sW d.2.2 S j=sW d.2.2 S k)))):=by
   by_cases hz:gk=0
   .exact .inl ⟨decide_eq_false (by omega),ah (by have:=HP.out;rw[hz]at this |-;exact this.symm)⟩
   .obtain⟨j,hj⟩:∃j,gk=j+1:=⟨gk - 1,by omega⟩;have L:j<S.length:=(by omega);obtain⟨g0,o0,hA,_,_,h2⟩:=NmS.at_ (rO.nms ad.out) (i:=j) (by rw[List.length_map];omega);rw[List.getElem_map]at h2;have hP:=HP.out;rw[hj,sW,dif_pos L]at hP;have b1:=HY.out.2 _ (List.getElem_mem L);refine .inr ⟨decide_eq_true (by omega),j,S[j].1.2.2,g0,o0,by omega,by omega,ah hj,hA,λz=>bD (bH z.h) h2,?_⟩;rw[aY7 b1 HY.out.1,xq b1 HY.out.1];by_cases M:ltS d.2.2 (kyP S[j])=true
    .rw[if_pos M]at hP;exact .inr (.inr ⟨aXx M,decide_eq_false (λe=>aY9 M e.symm),ah hP⟩)
    .rw[if_neg M]at hP;have b2:ltS d.2.2 S[j].1.2.2=false:=(by cases h:ltS d.2.2 S[j].1.2.2;rfl;exact absurd h M);cases hq:ltS S[j].1.2.2 d.2.2 with
     |true=>exact .inl ⟨rfl,ah (by rw[hj];exact hP.symm)⟩
     |false=>exact .inr (.inl ⟨rfl,decide_eq_true (Vs hq b2),ah (by rw[hj];exact hP.symm)⟩)
  rcases bl with⟨hd,a2⟩|⟨hd,j,q,g0,o0,bm,bT,bn,rfl,cQ,⟨f,a2⟩|⟨f,bo,a2⟩|⟨f,bo,bp⟩⟩
  all_goals
   go_wp2_with fail;refine rX' ?_
   repeat(go_big_quiet_step(fail))
   refine wpQuiet_nil ?_;rintro _⟨z,rfl⟩
  rotate_left 3
  .have N:=ah (E.out.trans' z.h);clear cN cQ;go_wp2;go_roundg j;exact⟨by go_num,by omega,bp,N⟩;have:=bn.out;omega
  all_goals
   have N:=ah (E.out.trans' z.h);have jC:=ah (bC.out.trans' N.out);have ae:(S.map Prod.fst).length=k:=(by rw[List.length_map];exact m.out);have af:(S.map λp=>(p.2:Int)).length=k:=by rw[List.length_map];exact m.out
   have y:=ah (Own.ext wu.out N.out);have O:=ah (Own.ext ad.out z.h);obtain⟨k0,k1,k2⟩:=gB.out _ N.out;generalize z.w=w6 at*;have Na:=ah (aYm I w6 _ c2 (S.map Prod.fst) d gk (by rw[ae];exact O.out) jC.out (by omega) (by omega));rw[ae]at Na
   have ag:Hid ((S.map Prod.fst).take gk++d::(S.map Prod.fst).drop gk=(lS (ku T (R.take (k+1)))).map Prod.fst/\nY (S.map λp=>(p.2:Int)) gk (k:Int)=(lS (ku T (R.take (k+1)))).map λp=>(p.2:Int)):=ah (by
    rw[gu.out,zL,show sW (kyP (d,k)) S S.length=gk from by rw[m.out];exact a2.out]
    simp[nY,List.map_take,List.map_drop])
   clear a2 E N cN ad HP ae;go_wp2_with fail;refine Na.out.mono ?_;rintro e w7⟨A7,c7,rfl,y7,F,b3⟩;have ai:=ah y7;have al:=ah (Own.kp (Own.ext y.out ((Ext.refl _).aC _)) b3 (λb hb hm=>Own.types y.out O.out (by decide) b hb (by simpa using hm)));have rF:=ah F;have N9:=ah (VA I w7 B2 aD (S.map λp=>(p.2:Int)) (k:Int) gk (by rw[af];exact al.out) F (by omega) (by omega));rw[af]at N9;clear y7 F b3 Na y O k0 k1 k2;go_wp2_with fail;refine N9.out.mono ?_;rintro e w8⟨⟨B8,n8,d8,rfl,b4,rQ,b5⟩,b6⟩;have MO:n8=k+1:=(by rw[b4,zH _ _ _ (by omega),af]);subst MO;have b7:=ah (Own.kp (Own.ext ai.out ((Ext.refl _).aC _)) b6 (λb hb hm=>Own.types ai.out al.out (by decide) b hb (by simpa using hm)));rw[ag.out.1]at b7;rw[ag.out.2]at rQ;have bq:=ah rQ;have br:=ah b5;clear rQ b5 b6 N9 al ai ag b4;go_wp2;go_roundg bh;exact⟨k+1,A7,c7,B8,d8,by omega,by go_num,rfl,rfl,b7,bq,bj,br⟩;omega
 .have bs:k=R.length:=by omega
  subst bs;have b8:Hid (zO T 0 R=none):=ah (by rw[<- K.out,List.drop_of_length_le (Nat.le_refl _)];rfl);rw[List.take_length]at HO HI;have m:Hid ((lS (ku T R)).length=R.length):=ah (by have:=VF (T:=T) (R:=R) (Nat.le_refl _);rwa[List.take_length]at this);have X:=ah (VL (T:=T) V.out)
  have b9:Hid (mkE T R=match ED (ku T R)with
   |some p=>(22,p.2,p.1.1)
   |none=>(0,-1,[])):=ah (by rw[HM.out,b8.out])
  have ba:Hid (mkS T R=if(mkE T R).1=0 then lS (ku T R)else[]):=rfl;have bt:Hid (ED (ku T R)=AZ (lS (ku T R)) (lS (ku T R)).length 1):=rfl;generalize ED (ku T R)=TW at*;generalize lS (ku T R)=S at*;have bu:R.length - 1+1=R.length:=by omega
  clear HM K b8;go_wp2;go_loopg[14] (R.length - 1) (λgh bv wx=>∃i:Nat,i+gh=R.length/\1<=i/\bv= .int .i64 i/\Hid (AZ S (gh+1) i=TW)/\Hid (Ext wr wx));exact⟨1,by omega,Nat.le_refl _,rfl,ah (by rw[bu,bt.out,m.out]),ah (Ext.refl _)⟩;obtain⟨i,bV,bW,rfl,P,E⟩:=hrel;by_cases hi:i<R.length
  .obtain⟨g2,rfl⟩:=gS' gk;obtain⟨j,rfl⟩:=gS' i;have L:j+1<S.length:=(by have:=m.out;omega);have a3:Hid (TW=if S[j+1].1.2.2=S[j].1.2.2 then some S[j+1]else AZ S (g2+1) (j+2)):=ah (by rw[<- P.out,AZ,dif_pos L];rfl);have ao:=rO.nms (Own.ext HO.out E.out);have y:=ah (aN.ints (Own.ext HI.out E.out));obtain⟨g0,o0,rfl,_,_,G⟩:=NmS.at_ ao (i:=j) (by rw[List.length_map];omega);obtain⟨bX,bZ,hA,H,_,h2⟩:=NmS.at_ ao (i:=j+1) (by rw[List.length_map];omega);cases hA;rw[List.getElem_map]at G H h2;have bb:=xq (X.out _ (List.getElem_mem L)).2.2 (X.out _ (List.getElem_mem (show j<S.length by omega))).2.2;obtain⟨g1,o1,rfl,h3⟩:=y.out.at_ (i:=j+1) (by rw[List.length_map];omega);rw[List.getElem_map]at h3;have bw:=ah H;have bx:=ah h3;generalize S[j+1]=p1 at*;generalize S[j].1=q0 at*;have c0:∀z:ak wr,z.w.cell? ⟨g0,o0+j*3+2,none⟩=some (.string (sB q0.2.2)):=dD G;have c1:∀z:ak wr,z.w.cell? ⟨g0,o0+(j+1)*3+2,none⟩=some (.string (sB p1.1.2.2)):=dD h2;have bm:((j+1:Nat):Int) - 1=(j:Int):=(by omega);clear ao G H h2 h3 rT;by_cases he:p1.1.2.2=q0.2.2
   .rw[decide_eq_true he]at bb;have HF:=ah (a3.out.trans (if_pos he));have Q:Hid (mkE T R=(22,(p1.2:Int),p1.1.1)):=ah (by rw[b9.out,HF.out]);have H0:Hid (((22,(p1.2:Int),p1.1.1):Int × Int × List Int).1≠0):=ah (by show(22:Int)≠0;omega);clear he a3 P;go_wp2_with fail;refine rX' ?_
    repeat(go_big_quiet_step(fail))
    refine wpQuiet_nil ?_;rintro _⟨z,rfl⟩;have N:=ah (E.out.trans' z.h);have H:=dD bw.out z;have h3:=dD bx.out z;generalize z.w=w6 at*;have c3:(0:Int)<=(j:Int)+1:=(by omega);have c4:(j:Int)+1<(R.length:Int):=(by omega);have c5:((j:Int)+1).toNat=j+1:=(by omega);clear c0 c1 z;go_wp2_with fail;go_region_law((go_simp;go_at_call 52;refine(Hq 22 p1.2 p1.1.1 _).mono ?_;rintro e w7⟨rfl,F⟩;have nV:Hid (Ext w6 w7):=ah ((Ext.refl _).dL.trans' F);have ap:=ah (g.out w7 (HB.out.trans' (N.out.trans' nV.out)));have cR:∀k:Nat,w7.cell? ⟨w.heap.size+1,k,none⟩=tq[k]? :=λk=>cell_of_row w7 _ k tq _ (0,0) ap.out;have fR:∀k:Nat,w7.frozen? ⟨w.heap.size+1,k,none⟩=false:=λk=>frozen_of_row w7 _ k tq _ ap.out;clear F))
    all_goals
     have bz:=b0V ap.out 22 p1.2 (sB p1.1.1);have aZ:=ah (b0X (J.out.trans' (HB.out.trans' (N.out.trans' nV.out))) (Nat.le_succ w.heap.size) 22 p1.2 (sB p1.1.1));clear cR fR;go_wp2_with fail
     (try simp only[Exit.inBlock,Exit.then])
     refine bodyPost_ret (results_tt_cell (u:=4) (v:=5) (p:=6) (ty:=42) (by kernel_rfl) _ _ (w.heap.size+1) 42 _ (0,0) (by first|rfl|simp[Act.put]) bz underlying42 (by kernel_rfl)) rfl ?_;exact Ho Q.out H0.out aZ.out rfl
   .rw[decide_eq_false he]at bb;have bA:=ah (a3.out.trans (if_neg he));clear he a3 P;go_wp2_with fail;refine rX' ?_
    repeat(go_big_quiet_step(fail))
    refine wpQuiet_nil ?_;rintro _⟨z,rfl⟩;have N:=ah (E.out.trans' z.h);generalize z.w=w6 at*;clear c0 c1 z;go_wp2;go_roundg g2;exact⟨j+2,by omega,by omega,by go_num,ah bA.out.symm,N⟩;omega
  .have bB:i=R.length:=by omega
   have bd:Hid (TW=none):=ah (by rw[<- P.out,AZ,dif_neg (by rw[m.out];omega)]);have Q:Hid (mkE T R=(0,-1,[])):=ah (by rw[b9.out,bd.out]);have be:Hid (mkS T R=S):=ah (by rw[ba.out,if_pos (by rw[Q.out])]);have aZ:=ah (HB.out.trans' E.out);have O:=ah (λcs:Array Value=>rO.nms (Own.kp (Own.ext HO.out E.out) (VO _ (w.heap.size+1) cs) (λb hb hm=>by have:=(Own.lt HO.out b hb).1;simp at hm;omega)));have y:=ah (λcs:Array Value=>aN.ints (Own.kp (Own.ext HI.out E.out) (VO _ (w.heap.size+1) cs) (λb hb hm=>by have:=(Own.lt HI.out b hb).1;simp at hm;omega)));clear bB bd ba P rT;go_wp2_with(refine wpList_store_row rfl _ _ _ rfl (w.heap.size+1) _ rfl rfl 42 tq (g.out _ aZ.out) (by kernel_rfl) rfl (Ba _ _ _ _ _ _ _ _) ?_)
   (try simp only[Exit.inBlock,Exit.then])
   refine bodyPost_ret (results_tt_cell (u:=4) (v:=5) (p:=6) (ty:=42) (by kernel_rfl) _ _ (w.heap.size+1) 42 _ (0,0) (by first|rfl|simp[Act.put]) (setRow_heap _ _ _ _ _ _ (g.out _ aZ.out)) underlying42 (by kernel_rfl)) rfl ?_;exact⟨A2,_,c2,B2,_,aD,by rw[Q.out];rfl,by rw[be.out];exact O.out _,by rw[be.out];exact y.out _,qx (J.out.trans' aZ.out) (Nat.le_succ _) _⟩
def BH:aj:=⟨[],[],[],[],[],[],[],[],[],[],[],[]⟩
abbrev Iy:TV:=⟨l7,l7,l7,l7,l7,l7,l7,l7,l7,l7,l7,l7⟩
theorem NJ{w:World}(a:Glob w):aV w Iy BH:=
 ⟨bP.nil_ _,bP.nil_ _,bP.nil_ _,bP.nil_ _,bP.nil_ _,bP.nil_ _,bP.nil_ _,dA.nil_ _,dA.nil_ _,dA.nil_ _,aF.nil_ _,dA.nil_ _,a⟩
theorem b0a:mkE BH [[98],[65]]=(0,-1,[]):=by decide+kernel
theorem b0d:mkS BH [[98],[65]]=[(([97],[97],[97]),1),(([98],[98],[98]),0)]:=by decide+kernel
theorem b0g:mkE BH [[97],[65]]=(22,1,[97]):=by decide+kernel
theorem VP(w:World)(x y:List Int):rH (w.alloc (.cells #[.string (sB x),.string (sB y)] 9)) ⟨some ⟨w.heap.size,0,none⟩,2,2⟩ [x,y]:=
 ⟨⟨rfl,Nat.le_refl _,by simp only[maxLen];omega⟩,λi z a=>by
  match i,a with
  |0,a=>simp at a;subst a;exact⟨w.heap.size,0,rfl,World.cell?_alloc_new w _ _ 0⟩
  |1,a=>simp at a;subst a;exact⟨w.heap.size,0,rfl,World.cell?_alloc_new w _ _ 1⟩
  |i+2,a=>simp at a⟩
theorem b0e(w:World)(x y:Int):aF (w.alloc (.cells #[.int .i64 x,.int .i64 y] 3)) ⟨some ⟨w.heap.size,0,none⟩,2,2⟩ [x,y]:=
 ⟨⟨rfl,Nat.le_refl _,by simp only[maxLen];omega⟩,λi z a=>by
  match i,a with
  |0,a=>simp at a;subst a;exact⟨w.heap.size,0,rfl,World.cell?_alloc_new w _ _ 0⟩
  |1,a=>simp at a;subst a;exact⟨w.heap.size,0,rfl,World.cell?_alloc_new w _ _ 1⟩
  |i+2,a=>simp at a⟩
theorem zQ{w w':World}(a:Array Value)(t:TypeId)(h:Ext (w.alloc (.cells a t)) w')(k:Nat):w'.cell? ⟨w.heap.size,k,none⟩=a[k]? :=by
 rw[h.b.cell (p:=⟨w.heap.size,k,none⟩) (by simp)];exact World.cell?_alloc_new w _ _ k
theorem b0U(w:World)(S:Glob w):Calls prog 16 #[] w λe w'=>e= .returned (.bool true)/\Ext w w':=by
 have X:=ah S;have Y:(⟨#[97]⟩:ByteArray)=sB [97]:=rfl;have Z:(⟨#[98]⟩:ByteArray)=sB [98]:=rfl;have a0:(⟨#[65]⟩:ByteArray)=sB [65]:=rfl;have l:Ext w (w.alloc (.cells #[.string (sB [98]),.string (sB [65])] 9)):=(Ext.refl _).aC _;have jL:=ah l;have p:=ah (VN BH Iy [[98],[65]] (some ⟨w.heap.size,0,none⟩) 2 2 _ (NJ (S.ext l)) (VP w [98] [65]) (by unfold IsB;decide));rw[b0a,b0d]at p;have a2:((sB [97]).toList==(sB [97]).toList)=true:=beq_self_eq_true _;have a3:((sB [98]).toList==(sB [98]).toList)=true:=beq_self_eq_true _;clear S l;go_enter func16,ntmps16;go_wp2_with fail;refine p.out.mono ?_;rintro e z⟨A,n,c,B,m,f,rfl,q,r,C⟩;have hn:n=2:=q.1.1;have hm:m=2:=r.1.1;subst hn hm;have K:=ah (jL.out.trans' C);have L:=ah q;have M:=ah r;obtain⟨j,a⟩:=eX' (z.alloc (.cells #[.int .i64 0,.int .i64 (-1),.string (sB []),.int .i64 0,.int .i64 0,.string ⟨#[]⟩,.int .i64 0,.int .i64 0] 42));have s:Ext z j:=by rw[a];exact(Ext.refl _).aC _
 have N:Hid (∀w',Ext j w'->∀k:Nat,w'.cell? ⟨z.heap.size,k,none⟩=(#[.int .i64 0,.int .i64 (-1),.string (sB []),.int .i64 0,.int .i64 0,.string ⟨#[]⟩,.int .i64 0,.int .i64 0]:Array Value)[k]?):=ah (λw' h k=>zQ _ _ (by rw[a]at h;exact h) k);have D:=ah (K.out.trans' s);have T:=ah s;have t:Ext j (j.alloc (.cells #[.string (sB [97]),.string (sB [65])] 9)):=(Ext.refl _).aC _;have pW:=ah t;have x:=ah (VN BH Iy [[97],[65]] (some ⟨j.heap.size,0,none⟩) 2 2 _ (NJ (X.out.ext (D.out.trans' t))) (VP j [97] [65]) (by unfold IsB;decide));rw[b0g]at x;clear q r C s t p;go_wp2_with(refine wpList_store_row rfl _ _ _ rfl z.heap.size _ rfl rfl 42 tq (heap_alloc_new z _) (by kernel_rfl) rfl (Ba _ _ _ _ _ _ _ _) ?_;rw[World.setRow_alloc_new,<- a];clear a);refine x.out.mono ?_;rintro e E⟨A4,n4,c4,B4,m4,f4,rfl,_,_,F⟩;have O:=ah (pW.out.trans' F);obtain⟨d,g⟩:=eX' (E.alloc (.cells #[.int .i64 22,.int .i64 1,.string (sB [97]),.int .i64 0,.int .i64 0,.string ⟨#[]⟩,.int .i64 0,.int .i64 0] 42));have G:Ext E d:=by rw[g];exact(Ext.refl _).aC _
 have P:Hid (∀w',Ext d w'->∀k:Nat,w'.cell? ⟨E.heap.size,k,none⟩=(#[.int .i64 22,.int .i64 1,.string (sB [97]),.int .i64 0,.int .i64 0,.string ⟨#[]⟩,.int .i64 0,.int .i64 0]:Array Value)[k]?):=ah (λw' h k=>zQ _ _ (by rw[g]at h;exact h) k);have J:=ah (O.out.trans' G);have H:=ah (L.out.ext (T.out.trans' J.out));have wu:=ah (M.out.ext (T.out.trans' J.out));obtain⟨b,o,rfl,U,_,_⟩:=NmS.at_ H.out (i:=0) (by decide);obtain⟨b',o',hA,V,_,_⟩:=NmS.at_ H.out (i:=1) (by decide);cases hA;have c0:d.cell? ⟨b,o,none⟩=some (.string (sB [97])):=U;have c1:d.cell? ⟨b,o+3,none⟩=some (.string (sB [98])):=V;clear U V G F x;go_wp2_with(refine wpList_store_row rfl _ _ _ rfl E.heap.size _ rfl rfl 42 tq (heap_alloc_new E _) (by kernel_rfl) rfl (Ba _ _ _ _ _ _ _ _) ?_;rw[World.setRow_alloc_new,<- g];clear g);have y:Ext d (d.alloc (.cells #[.int .i64 1,.int .i64 0] 3)):=(Ext.refl _).aC _;refine(VW [1,0] [1,0] B 2 f _ 2 2 _ (wu.out.ext y) (b0e d 1 0)).mono ?_;rintro e W⟨rfl,I⟩;have Q:=ah (y.trans' I);have gJ:=N.out W (J.out.trans' Q.out);have ac:=P.out W Q.out;have hx:=D.out.trans' (J.out.trans' Q.out);have ae:((⟨#[]⟩:ByteArray).toList==(⟨#[]⟩:ByteArray).toList)=true:=beq_self_eq_true _;have R:sB []=(⟨#[]⟩:ByteArray):=rfl;rw[R]at gJ;clear y I c0 c1;rw[show jA [1,0] [1,0]=true from rfl];go_wp2;go_ret;exact⟨rfl,hx⟩
abbrev nmA(p:Nm):Array Value:= #[.string (sB p.1),.string (sB p.2.1),.string (sB p.2.2)]
theorem b0k(l m s:List Int)(A:Option Addr)(n c:Nat)(A2:Option Addr)(n2 c2:Nat)(w:World)(h:aF w ⟨A,n,c⟩ l)(h2:aF w ⟨A2,n2,c2⟩ m)(hs:IsB s)(hg:Glob w):
 Calls prog 3 #[.slice A n c,.slice A2 n2 c2,.string (sB s)] w λe w'=>e= .returned (.bool true)/\Ext w w':=by
 have HG:=ah hg;have HM:=ah h2;have HL:=ah h;have HS:=ah hs;clear hg h h2 hs;go_enter func3,ntmps3;go_wp2_with fail;refine Calls.mono (dA' l A n c _ HL.out HG.out) ?_;rintro e w1⟨t,rfl,ht,M⟩;have z:=cZ w1 t;have HT:=ah (ht.aB z);have C:=ah (M.trans' z);have y:Hid (∀w',Ext (w1.alloc (.cells #[.slice t.s0.a t.s0.n t.s0.c,.slice t.s1.a t.s1.n t.s1.c,.slice t.s2.a t.s2.n t.s2.c,.slice t.s3.a t.s3.n t.s3.c,.slice t.s4.a t.s4.n t.s4.c,.slice t.s5.a t.s5.n t.s5.c,.slice t.s6.a t.s6.n t.s6.c,.slice t.s7.a t.s7.n t.s7.c,.slice t.s8.a t.s8.n t.s8.c,.slice t.s9.a t.s9.n t.s9.c,.slice t.s10.a t.s10.n t.s10.c,.slice t.s11.a t.s11.n t.s11.c] 26)) w'->∀k:Nat,w'.cell? ⟨w1.heap.size,k,none⟩=t.v.cells[k]?):=ah (λw' h=>aQ h);clear ht M z;go_wp2_with fail;generalize hW:(w1.alloc (.cells #[.slice t.s0.a t.s0.n t.s0.c,.slice t.s1.a t.s1.n t.s1.c,.slice t.s2.a t.s2.n t.s2.c,.slice t.s3.a t.s3.n t.s3.c,.slice t.s4.a t.s4.n t.s4.c,.slice t.s5.a t.s5.n t.s5.c,.slice t.s6.a t.s6.n t.s6.c,.slice t.s7.a t.s7.n t.s7.c,.slice t.s8.a t.s8.n t.s8.c,.slice t.s9.a t.s9.n t.s9.c,.slice t.s10.a t.s10.n t.s10.c,.slice t.s11.a t.s11.n t.s11.c] 26))=W1 at*;clear hW;refine(Vp m A2 n2 c2 W1 (HM.out.ext C.out)).mono ?_;rintro e w2⟨rfl,D⟩;have N:=ah D;have fQ:=y.out _ D;clear D;go_wp2_with fail;refine(aZT m A2 n2 c2 w2 (HM.out.ext (C.out.trans' N.out))).mono ?_;rintro e w3⟨B,k3,d3,rfl,O,P⟩;have iL:=ah (N.out.trans' P);have E:=ah (rJ.sts O);have ao:=ah (VI m).1;have ap:=ah (VI m).2;have Q:=ah (Vq m).1;have CC:Hid (∀x,IsB x->∀w',Ext W1 w'->Calls prog 14 #[t.v,.string (sB x)] w' (Hg w' (oq (yN l) x))):=ah (λx S w' h=>VE _ t x w' (HT.out.aB h) S);have CR:Hid (∀x,IsB x->∀w',Ext W1 w'->Calls prog 15 #[t.v,.string (sB x)] w' (Hg w' (oq (yN l) x))):=ah (λx S w' h=>aZJ _ t x w' (HT.out.aB h) S);have gJ:=y.out _ iL.out;generalize oq (yN l)=F at*;generalize nK m=rw at*;generalize CJ m=R at*;clear O P fQ;have av:k3=R.length:=E.out.1.1;subst av;go_wp2_with fail;refine(CC.out rw Q.out _ iL.out).mono ?_;rintro e v0⟨rfl,T⟩;have d:Ext v0 (v0.alloc (.cells (nmA (F rw).1) 32)):=(Ext.refl _).aC _;have G:=ah (T.trans' d);have i:=ah (iL.out.trans' G.out);have U:Hid (∀w',Ext (v0.alloc (.cells (nmA (F rw).1) 32)) w'->∀k:Nat,w'.cell? ⟨v0.heap.size,k,none⟩=(nmA (F rw).1)[k]?):=ah (λw' h k=>zQ _ _ h k);have aw:=y.out _ i.out;clear T d gJ;go_wp2_with fail;refine(CR.out rw Q.out _ i.out).mono ?_;rintro e v1⟨rfl,V⟩;have f:Ext v1 (v1.alloc (.cells (nmA (F rw).1) 32)):=(Ext.refl _).aC _;have H:=ah (V.trans' f);have j:=ah (i.out.trans' H.out);have W:Hid (∀w',Ext (v1.alloc (.cells (nmA (F rw).1) 32)) w'->∀k:Nat,w'.cell? ⟨v1.heap.size,k,none⟩=(nmA (F rw).1)[k]?):=ah (λw' h k=>zQ _ _ h k);have ax:=y.out _ j.out;clear V f aw;go_wp2_with fail;refine(CC.out s HS.out _ j.out).mono ?_;rintro e X⟨rfl,Y⟩;have Z:Ext X (X.alloc (.cells (nmA (F s).1) 32)):=(Ext.refl _).aC _;have I:=ah (Y.trans' Z);have p:=ah (j.out.trans' I.out);have a0:Hid (∀w',Ext (X.alloc (.cells (nmA (F s).1) 32)) w'->∀k:Nat,w'.cell? ⟨X.heap.size,k,none⟩=(nmA (F s).1)[k]?):=ah (λw' h k=>zQ _ _ h k);have ay:=y.out _ p.out;clear Y Z ax;go_wp2_with fail;refine(CR.out s HS.out _ p.out).mono ?_;rintro e L⟨rfl,a1⟩;have a2:Ext L (L.alloc (.cells (nmA (F s).1) 32)):=(Ext.refl _).aC _;have J:=ah (a1.trans' a2);have K:=ah (p.out.trans' J.out);have a3:Hid (∀w',Ext (L.alloc (.cells (nmA (F s).1) 32)) w'->∀k:Nat,w'.cell? ⟨L.heap.size,k,none⟩=(nmA (F s).1)[k]?):=ah (λw' h k=>zQ _ _ h k);have az:=y.out _ K.out;clear a1 a2 ay;go_wp2_with fail;obtain⟨q,g⟩:=eX' (L.alloc (.cells #[.string (sB (F s).1.1),.string (sB (F s).1.2.1),.string (sB (F s).1.2.2)] 32));have aD:Hid (∀w',Ext q w'->∀k:Nat,w'.cell? ⟨L.heap.size,k,none⟩=(nmA (F s).1)[k]?):=ah (λw' h=>a3.out w' (by rw[g]at h;exact h));have e3:Ext (X.alloc (.cells (nmA (F s).1) 32)) q:=by rw[g];exact J.out
 have e2:=I.out.trans' e3;have e1:=H.out.trans' e2;have e0:=G.out.trans' e1;have aR:=ah (λw'(h:Ext q w')=>a0.out w' (e3.trans' h));have aZ:=ah (λw'(h:Ext q w')=>W.out w' (e2.trans' h));have b6:=ah (λw'(h:Ext q w')=>U.out w' (e1.trans' h));have b7:=ah (E.out.ext e0);have Di:Hid (Ext W1 q):=ah (by rw[g];exact K.out);rw[<- g];clear U W a0 a3 G H I J i j p K e0 e1 e2 e3 az E g;go_loopg[56] R.length (λgh b8 wx=>∃k:Nat,k+gh=R.length/\b8= .int .i64 k/\Hid (Ext q wx));exact⟨0,by omega,rfl,ah (Ext.refl _)⟩;obtain⟨k,hk,rfl,HX⟩:=hrel;by_cases a5:k<R.length
 .obtain⟨b9,rfl⟩:=gS' gk;obtain⟨b,o,rfl,ba⟩:=(b7.out.ext HX.out).at_ a5;have a6:=ah (ao.out _ (List.getElem_mem a5)).1;have lX:=ah (Di.out.trans' HX.out);have rT:=y.out _ lX.out;generalize R[k]=x at*;have bA:=z0' k;have bB:(k:Int)<(R.length:Int):=by omega
  have bC:=ap.out;go_wp2_with fail;refine(CC.out x a6.out _ lX.out).mono ?_;rintro e u0⟨rfl,a7⟩;have d:Ext u0 (u0.alloc (.cells (nmA (F x).1) 32)):=(Ext.refl _).aC _;have a8:=ah (a7.trans' d);have a9:=ah (lX.out.trans' a8.out);have bc:Hid (∀w',Ext (u0.alloc (.cells (nmA (F x).1) 32)) w'->∀k:Nat,w'.cell? ⟨u0.heap.size,k,none⟩=(nmA (F x).1)[k]?):=ah (λw' h k=>zQ _ _ h k);have jR:=y.out _ a9.out;clear a7 d rT ba;go_wp2_with fail;refine(CR.out x a6.out _ a9.out).mono ?_;rintro e u1⟨rfl,aa⟩;have f:Ext u1 (u1.alloc (.cells (nmA (F x).1) 32)):=(Ext.refl _).aC _;have ab:=ah (aa.trans' f);have bE:=bc.out _ ab.out;have bG:∀k:Nat,(u1.alloc (.cells (nmA (F x).1) 32)).cell? ⟨u1.heap.size,k,none⟩=(nmA (F x).1)[k]? :=λk=>zQ _ _ (Ext.refl _) k
  have HN:=ah (HX.out.trans' (a8.out.trans' ab.out));have b0:((sB (F x).1.1).toList==(sB (F x).1.1).toList)=true:=beq_self_eq_true _;have b1:((sB (F x).1.2.1).toList==(sB (F x).1.2.1).toList)=true:=beq_self_eq_true _;have b2:((sB (F x).1.2.2).toList==(sB (F x).1.2.2).toList)=true:=beq_self_eq_true _;clear aa f jR;go_wp2;go_roundg b9;exact⟨k+1,by omega,by go_num,HN⟩;omega
 .have hb:=C.out.trans' (Di.out.trans' HX.out);go_wp2_with fail;refine(b0U _ (HG.out.ext hb)).mono ?_;rintro e w9⟨rfl,wK⟩;have S:=hb.trans' wK;have r:=HX.out.trans' wK;have bJ:=b6.out _ r;have bL:=aZ.out _ r;have bN:=aR.out _ r;have bO:=aD.out _ r;have b0:((sB (F rw).1.1).toList==(sB (F rw).1.1).toList)=true:=beq_self_eq_true _;have b1:((sB (F rw).1.2.1).toList==(sB (F rw).1.2.1).toList)=true:=beq_self_eq_true _;have b2:((sB (F rw).1.2.2).toList==(sB (F rw).1.2.2).toList)=true:=beq_self_eq_true _;have b3:((sB (F s).1.1).toList==(sB (F s).1.1).toList)=true:=beq_self_eq_true _;have b4:((sB (F s).1.2.1).toList==(sB (F s).1.2.1).toList)=true:=beq_self_eq_true _;have b5:((sB (F s).1.2.2).toList==(sB (F s).1.2.2).toList)=true:=beq_self_eq_true _;clear wK;go_wp2;go_ret;exact⟨rfl,S⟩
open Go.ChangeShapes Go.WideShapes Go.ChangeAt Go.RowKit Go.Deep
theorem aSk{H:Type}{enc:TypeId × Value->H}{W:World}{c:Nat}{a:Nat->Bool}{f:Bool}{v:Value}{d:DataW H}{p:List MemPlace}{r:Reach}
 (g:Value.okWide prog W r c 9 v) (_:DataW.Trod enc prog W 0 a f 9 v d p):∃s:List Int,v= .string (sB s)/\IsB s:=by
 obtain⟨b,rfl⟩:=okWide_string underlying9 g;exact⟨nums b,by rw[XJ],Xr b⟩
end Go.Proofs.YtlmkgaoakcjlnaaGreatDoor
namespace Go.Proofs.YtlmkgaoakcjlnaaGreatDoor.lawBCanon
set_option maxRecDepth 100000
open Go.ChangeShapes Go.WideShapes Go.ChangeAt Go.RowKit
theorem contract(H:Type)(enc:TypeId × Value->H)(W:World)(c:Nat)(args:Array Value)(s X:List (DataW H))(b:List MemPlace)
 (a:∀(j:Nat)t v,Tryz.f3.params[j]? =some t->args[j]? =some v->Value.okWide prog W .any c t v)
 (w:DataW.Whole enc prog Tryz.f3.params.toList Rows.bundleCanonSpec.vars false W args.toList s X b) (Y:laidMetH prog Rows.bundleCanonRow.laid W):
 Calls prog 3 args W λe W'=>∃v,e= .returned v/\Rows.bundleCanonSpec.post enc prog Tryz.f3 false true false false W args v W':=by
 have d:=w;obtain⟨p,q,f,x,l,y,z⟩:=w;have m:DataW.TrodAll enc prog W 0 (λ_=>true) true Tryz.f3.params.toList args.toList s p:=f;rw[params3]at m a;obtain⟨n,A,Z,B,p0,q0,g,rfl,rfl,C,D⟩:=trodAll_cons m;obtain⟨o,E,d1,F,p1,q1,rfl,rfl,rfl,G,I⟩:=trodAll_cons D;obtain⟨r,J,d2,K,p2,q2,rfl,rfl,rfl,L,M⟩:=trodAll_cons I;obtain⟨rfl,rfl,rfl⟩:=trodAll_nil M;obtain rfl:args= #[n,o,r]:=by cases args;simp_all
 obtain⟨rfl,rfl⟩:=trodVars_none x;obtain⟨N,O,P,Q,rfl,h⟩:=VQ (a 0 22 n rfl rfl) C;obtain⟨R,S,T,U,rfl,i⟩:=VQ (a 1 22 o rfl rfl) G;obtain⟨V,rfl,k⟩:=aSk (a 2 9 r rfl rfl) L;refine(b0k Q U V N O P R S T W h i k (gB' Y)).mono λe W'⟨l,hx⟩=> ?_
 subst l;exact⟨_,rfl,law_post rfl (by kernel_rfl) (by rw[params3];intro t ht;simp only[List.mem_cons,List.not_mem_nil,or_false]at ht;rcases ht with rfl|rfl|rfl<;>exact⟨by kernel_rfl,of_decide_eq_true (by kernel_rfl)⟩) d hx rfl rfl⟩
theorem door_met(os:Os)(args:Array Value):laidMetH prog Rows.bundleCanonRow.laid ((World.doorLaid prog 400 os).forCall (λ_ _=>0) ⟨#[],args,[]⟩).memory:=
 laidMetH_of_parts3 (fuel:=8) (laidMet_of_run' 8 (by kernel_rfl) (by kernel_rfl)) (by kernel_rfl) (by kernel_rfl)
theorem lifted(os:Os)(a:os.Started)(H:Type)(enc:TypeId × Value->H):
 ReturnsInHanded {} Tryz.checked os 3 .any (λw args=>(Rows.bundleCanonSpec.pre enc prog Tryz.f3 [] false w args/\laidMetH prog Rows.bundleCanonRow.laid w)/\sizedMet enc prog Tryz.f3 (OpenSpec.ofChange Rows.bundleCanonSpec) false w args)
  (Rows.bundleCanonSpec.post enc prog Tryz.f3 false true false false):=by
 refine returnsInHanded_of_change_and (C:=Tryz.checked) (X:=λw _=>laidMetH prog Rows.bundleCanonRow.laid w) (λ_ _ _ f h=>h.of_heap f) own a (by kernel_rfl) func3
  (ChangeSpec.witness_shaped (enc:=enc) (C:=Tryz.checked) (os:=os) (X:=λw _=>laidMetH prog Rows.bundleCanonRow.laid w) false (World.doorLaid prog 400 os) #[.slice none 0 0,.slice none 0 0,.string ⟨#[]⟩] 8 rfl (World.shaped_of_RefB (by kernel_rfl) (by kernel_rfl)) (by kernel_rfl) (by kernel_rfl) (by kernel_rfl) (door_met os _)) ?_
 intro W c args g i b d j _ _ k _;exact contract H enc W c args g i b d j k
theorem b0m:joinedFacts Tryz.pinned.checked.prog 3 Tryz.f3 Rows.bundleCanonSpec Rows.bundleCanonRow=true:=by kernel_rfl
theorem b0o:Tryz.pinned.checked.prog.funcNamed Rows.bundleCanonRow.func=some 3:=by kernel_rfl
theorem said:Rows.BundleCanonSaid:=
 OpenClaim.holds_of_wide 3 Tryz.f3 rfl rfl rfl rfl rfl rfl rfl ⟨rfl,rfl,rfl,rfl,rfl⟩ rfl rfl rfl rfl rfl b0o func3 b0m
  (of_decide_eq_true (by kernel_rfl)) (by unfold Func.isWrapper;first|(rw[if_pos (by decide+kernel)];kernel_rfl)|(rw[if_neg (by decide+kernel)];exact⟨rfl,rfl⟩))
  (λc a H b _=>lifted c a H b)
theorem plain(f:FuncId)(a:Func)(c:Tryz.pinned.checked.prog.funcNamed "namedesk/namedesklaw22.BundleCanon" =some f)(b:Tryz.pinned.checked.prog.funcs[f]? =some a):
 false=Tryz.pinned.checked.prog.looks []/\∀(j:Nat)t,a.params[j]? =some t->Tryz.pinned.checked.prog.wantsStandIn t=false:=by
 obtain rfl:f=3:=Option.some.inj ((show prog.funcNamed "namedesk/namedesklaw22.BundleCanon" =some 3 by kernel_rfl).symm.trans c) |>.symm;obtain rfl:a=Tryz.f3:=(Option.some.inj (func3.symm.trans b)).symm;refine⟨by kernel_rfl,λj t ht=> ?_⟩;rw[params3]at ht;have ht:=Array.mem_of_getElem? ht;simp only[List.mem_toArray,List.mem_cons,List.not_mem_nil,or_false]at ht;rcases ht with rfl|rfl|rfl
 .exact(show prog.wantsStandIn 22=false by kernel_rfl)
 .exact(show prog.wantsStandIn 22=false by kernel_rfl)
 .exact(show prog.wantsStandIn 9=false by kernel_rfl)
theorem card:Rows.BundleCanonCardSaid:=
 Claim7.holds_tied_plain_at .later [] _ _ _ _ said (λ_ h=>by cases h) (by kernel_rfl) (λ_ h=>by cases h) bundleCanon_row_tie rfl ⟨rfl,rfl⟩ (by kernel_rfl) rfl plain (by kernel_rfl)
#print axioms card
end Go.Proofs.YtlmkgaoakcjlnaaGreatDoor.lawBCanon
