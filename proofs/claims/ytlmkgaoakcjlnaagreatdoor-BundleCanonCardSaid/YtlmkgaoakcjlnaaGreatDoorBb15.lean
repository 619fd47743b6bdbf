/- Part Bb15. -/
import Derived.Test.YtlmkgaoakcjlnaaGreatDoorBb14
import Derived.Deep.LoopGhost
open Go.Proofs.Tryz
namespace Go.Proofs.YtlmkgaoakcjlnaaGreatDoor
set_option maxHeartbeats 25600000
set_option maxRecDepth 100000
open Go.RowKit
def sQ(x:Int):Int:=if 65<=x/\x<=90 then x+32 else x
def fH(l:List Int):List Int:=l.map sQ
theorem Ci{l:List Int}(h:IsB l):IsB (fH l):=by
 intro x a;unfold fH at a;rw[List.mem_map]at a;obtain⟨y,b,rfl⟩:=a;have:=h y b;unfold sQ;split<;>omega
theorem Ce(l:List Int):(fH l).length=l.length:=List.length_map _
def isX(l:List Int):Bool:=decide (4<=l.length)&&decide (fH (l.take 4)=[120,110,45,45])
def jG(l:List Int):Bool:= !l.any (λc=>decide (c<0)||decide (127<c))
noncomputable def alE(l:List Int):List Int × Int:=
 if l.length=0 then([],10)else if jG l=true then(if 63<l.length then([],11)else(l,0))else if(jE l).2≠0 then([],(jE l).2)else if 63<(jE l).1.length+4 then([],11)else([120,110,45,45]++(jE l).1,0)
noncomputable def alD(s:List Int):List Int × Int:=
 if s.length=0 then([],10)else if s.any (λb=>decide (127<b))then([],12)else if 63<s.length then([],11)else if isX s=false then(s,0)
 else if(pdU (fH (s.drop 4))).2≠0 then([],(pdU (fH (s.drop 4))).2)else if jG (pdU (fH (s.drop 4))).1=true then([],12)
 else if(alE (pdU (fH (s.drop 4))).1).2≠0\/(alE (pdU (fH (s.drop 4))).1).1≠fH s then([],12)else((pdU (fH (s.drop 4))).1,0)
def RbS(w:World)(g n:Nat)(f:Nat->Int):Prop:=g<w.heap.size/\∀k,k<n->w.cell? ⟨g,k,none⟩=some (.int .u8 (f k))/\w.frozen? ⟨g,k,none⟩=false
theorem RbS.set{w:World}{g n a:Nat}{f:Nat->Int}{x:Int}(h:RbS w g n f)(c:a<n):RbS (w.setCell ⟨g,a,none⟩ (.int .u8 x)) g n (λk=>if k=a then x else f k):=
 ⟨by simpa using h.1,λk b=>⟨by
  by_cases e:k=a
  .subst e;rw[World.cell?_setCell_same w _ (.int .u8 x) (h.2 k b).1];simp
  .rw[World.cell?_setCell_other w _ _ (.int .u8 x) (by simp;try omega),(h.2 k b).1]
   simp[e],by simpa using(h.2 k b).2⟩⟩
theorem RbS.congr{w:World}{g n:Nat}{p q:Nat->Int}(h:RbS w g n p)(e:∀k,k<n->p k=q k):RbS w g n q:=
 ⟨h.1,λk a=>by rw[<- e k a];exact h.2 k a⟩
def aM3(w:World)(l:List Int)(G:Nat)(g:Nat)(s10:Value)(wx:World):Prop:=
 ∃k:Nat,g+k=l.length/\s10= .int .i64 k/\Hid (RbS wx G l.length (λj=>if j<k then sQ (l.getD j 0)else l.getD j 0))/\Hid (Ext w wx)
theorem Lm(l:List Int)(F:IsB l)(X:l.length<=4096)(w:World):Calls prog 228 #[.string (sB l)] w λe w'=>e= .returned (.string (sB (fH l)))/\Ext w w':=by
 obtain⟨K,L,p,a,q,H,r⟩:=FN (w:=w) F (by omega);have M:=ah F
 have h:Hid (RbS L w.heap.size l.length (λj=>if j<0 then sQ (l.getD j 0)else l.getD j 0)):=ah ⟨H,λk m=>⟨by
  obtain⟨b,o,B,I⟩:=a.at_ m;injection B with B;injection B with s N;subst s N;rw[Nat.zero_add]at I;rw[I];show _=some (Value.int .u8 (if k<0 then sQ (l.getD k 0)else l.getD k 0))
  rw[if_neg (by omega),getD_lt l k 0 m],r k m⟩⟩
 have f:=a.len;have t:=f.2;have y:=ah q;go_enter func228,ntmps228;go_wp2_with fail;clear F p a q H r f;obtain⟨G,J⟩:=eY' w.heap.size;rw[J]at h |-;have O:Hid (w.heap.size<=G):=ah (by omega);clear J;go_loopg[10] l.length (λP C Q=>aM3 w l G P C Q);exact⟨0,by omega,rfl,h,y⟩;obtain⟨k,V,rfl,g,z⟩:=hrel;clear h y;by_cases m:k<l.length
 .have D:=(g.out.2 k m).1;simp only[Nat.lt_irrefl,if_false]at D;have R:=(g.out.2 k m).2;have W:=wG M.out k;have c:Hid (sQ (l.getD k 0)=if 65<=l.getD k 0/\l.getD k 0<=90 then l.getD k 0+32 else l.getD k 0):=rfl;by_cases n:65<=l.getD k 0/\l.getD k 0<=90
  .have d:Hid (RbS (wr.setCell ⟨G,k,none⟩ (.int .u8 (l.getD k 0+32))) G l.length (λj=>if j<k+1 then sQ (l.getD j 0)else l.getD j 0)):=ah ((g.out.set m).congr (λj _=>by
    by_cases e:j=k
    .subst e;show(if j=j then l.getD j 0+32 else _)=if j<j+1 then sQ (l.getD j 0)else l.getD j 0
     rw[if_pos rfl,if_pos (Nat.lt_succ_self j),c.out,if_pos n]
    .have s:(j<k+1)=(j<k):=by rw[eq_iff_iff];omega
     simp only[e,if_false,s]))
   have E:Hid (Ext w (wr.setCell ⟨G,k,none⟩ (.int .u8 (l.getD k 0+32)))):=ah (z.out.kD O.out _);generalize l.getD k 0=x at*;clear g z c;go_wp2_with fail;rw[show x+97 - 65=x+32 by omega];go_roundg (l.length - (k+1));exact⟨k+1,by omega,by go_num,d,E⟩;omega
  .have d:Hid (RbS wr G l.length (λj=>if j<k+1 then sQ (l.getD j 0)else l.getD j 0)):=ah (g.out.congr (λj _=>by
    by_cases e:j=k
    .subst e;show(if j<j then sQ (l.getD j 0)else l.getD j 0)=if j<j+1 then sQ (l.getD j 0)else l.getD j 0
     rw[if_neg (Nat.lt_irrefl j),if_pos (Nat.lt_succ_self j),c.out,if_neg n]
    .have s:(j<k+1)=(j<k):=by rw[eq_iff_iff];omega
     simp only[s]))
   generalize l.getD k 0=x at*;clear g c;by_cases S:65<=x
   .have T:90<x:=(by omega);go_wp2;go_roundg (l.length - (k+1));exact⟨k+1,by omega,by go_num,d,z⟩;omega
   .go_wp2;go_roundg (l.length - (k+1));exact⟨k+1,by omega,by go_num,d,z⟩;omega
 .have a:nI wr ⟨some ⟨G,0,none⟩,l.length,K⟩ (fH l):=⟨⟨(Ce l).symm,by rw[Ce];exact t.1,t.2⟩,λi x n=>⟨G,0,rfl,by
   have A:=(List.getElem?_eq_some_iff.1 n).1;rw[Ce]at A;rw[Nat.zero_add,(g.out.2 i A).1];show some (Value.int .u8 (if i<k then sQ (l.getD i 0)else l.getD i 0))=_
   rw[if_pos (by omega)];unfold fH at n;rw[List.getElem?_map,List.getElem?_eq_getElem A]at n;rw[getD_lt l i 0 A]
   simpa using n⟩⟩
  have p:=BK a;have U:=z.out;clear a g;go_wp2;go_ret;exact⟨rfl,U⟩
def aMF(w:World)(l:List Int)(g:Nat)(s3 s4:Value)(wx:World):Prop:=
 ∃k:Nat,g+k=l.length/\s4= .int .i64 k/\s3= .string (sB (fH (l.take k)))/\Ext w wx
theorem Lj(l:List Int)(o:IsB l)(D:l.length<=4096)(w:World):Calls prog 120 #[.string (sB l)] w λe w'=>e= .returned (.string (sB (fH l)))/\Ext w w':=by
 have m:=ah o;clear o;go_enter func120,ntmps120;go_wp2;go_loopg[3,4] l.length (λp q r s=>aMF w l p q r s);exact⟨0,by omega,rfl,rfl,Ext.refl _⟩;obtain⟨k,B,rfl,rfl,d⟩:=hrel;have f:=ah d;clear d;by_cases g:k<l.length
 .have h:=ixc m.out g wr;have C:=wG m.out k;have c:Hid (fH (l.take k)++[sQ (l.getD k 0)]=fH (l.take (k+1))):=ah (by unfold fH;rw[List.take_succ_eq_append_getElem g,getD_lt l k 0 g,List.map_append];rfl);have a:Hid (sQ (l.getD k 0)=if 65<=l.getD k 0/\l.getD k 0<=90 then l.getD k 0+32 else l.getD k 0):=rfl;have t:(fH (l.take k)).length<=4096:=by rw[Ce,List.length_take];omega
  generalize l.getD k 0=x at*;have b:∀n,Ext w (wr.alloc (.cells n 5)):=λn=>f.out.aC _
  by_cases h:65<=x/\x<=90
  .rw[a.out,if_pos h]at c;have i:=yF wr #[.int .u8 (x+32)] [x+32] 1 rfl rfl (by omega);have j:[x+32].length<=1:=Nat.le_refl _;generalize[x+32]=E at*;generalize fH (l.take k)=S at*;clear a f;go_wp2;go_roundg (l.length - (k+1));exact⟨k+1,by omega,by go_num,by rw[c.out],b _⟩;omega
  .rw[a.out,if_neg h]at c;have i:=yF wr #[.int .u8 x] [x] 1 rfl rfl (by omega);have j:[x].length<=1:=Nat.le_refl _;generalize[x]=E at*;generalize fH (l.take k)=S at*;clear a f;by_cases y:65<=x
   .have z:90<x:=(by omega);go_wp2;go_roundg (l.length - (k+1));exact⟨k+1,by omega,by go_num,by rw[c.out],b _⟩;omega
   .go_wp2;go_roundg (l.length - (k+1));exact⟨k+1,by omega,by go_num,by rw[c.out],b _⟩;omega
 .have A:l.take k=l:=List.take_of_length_le (by omega);rw[A];have d:=f.out;go_wp2;go_ret;exact⟨rfl,d⟩
def S9(w:World)(l:List Int)(g:Nat)(s7:Value)(wx:World):Prop:=
 ∃k:Nat,g+k=l.length/\s7= .int .i64 k/\wx=w/\Hid ((l.take k).any (λc=>decide (c<0)||decide (127<c))=false)
theorem Sr(l:List Int)(g:IsB l)(w:World):Calls prog 158 #[.string (sB l)] w λe w'=>e= .returned (.bool (isX l))/\Ext w w':=by
 have c:Hid (isX l=(decide (4<=l.length)&&decide (fH (l.take 4)=[120,110,45,45]))):=rfl;generalize isX l=V at*;by_cases d:4<=l.length
 .have h:=ah (Lm (l.take 4) (wX g 4) (by rw[List.length_take];omega) w);have b:=Aq w (l:=l) (k:=4) d;have f:(Instr.slice 9 (.string (sB l)) none (some (.int .i64 4)) none).run prog w= .ok (.string (sB (l.take 4))) w:=b;have i:=xq (Ci (wX g 4)) (show IsB [120,110,45,45]from by intro x j;simp at j;omega);have o:(⟨#[120,110,45,45]⟩:ByteArray)=sB [120,110,45,45]:=rfl;have m:decide (4<=(l.length:Int))=true:=dT';have a:decide (4<=l.length)=true:=by rw[au];exact d
  rw[a,Bool.true_and]at c;rw[<- c.out]at i;clear b a;generalize l.take 4=t at*;go_enter func158,ntmps158;go_wp2_with(refine h.out.mono ?_;rintro e p⟨rfl,n⟩);go_ret;exact⟨rfl,n⟩
 .have a:decide (4<=l.length)=false:=by rw[aA];exact d
  rw[a,Bool.false_and]at c;rw[c.out];have m:decide (4<=(l.length:Int))=false:=dF';go_enter func158,ntmps158;go_wp2;go_ret;exact⟨rfl,Ext.refl _⟩
theorem Lr(l:List Int)(A:Option Addr)(n c:Nat)(w:World)(g:aF w ⟨A,n,c⟩ l):Calls prog 157 #[.slice A n c] w λe w'=>e= .returned (.bool (jG l))/\w=w':=by
 have h:Hid (jG l= !l.any (λc=>decide (c<0)||decide (127<c))):=rfl;generalize jG l=V at*;have r:=g.len.2;have s:=g.len.1;subst s;have t:=ah g;clear g;go_enter func157,ntmps157;go_wp2;go_loopg[7] l.length (λy z B=>S9 w l y z B);exact⟨0,by omega,rfl,rfl,rfl⟩;obtain⟨k,G,rfl,rfl,i⟩:=hrel;by_cases j:k<l.length
 .obtain⟨b,o,C,D⟩:=t.out.at_ j;subst C;have m:=ah (xC (f:=λc=>decide (c<0)||decide (127<c)) j);have a:=ah (anyM (f:=λc=>decide (c<0)||decide (127<c)) j);generalize l[k]=x at*;by_cases E:x<0
  .have d:Hid (V=false):=ah (by rw[h.out,a.out (by simp[E])];rfl);go_wp2;go_ret;exact⟨aO d.out.symm,rfl⟩
  by_cases p:127<x
  .have d:Hid (V=false):=ah (by rw[h.out,a.out (by simp[p])];rfl);go_wp2;go_ret;exact⟨aO d.out.symm,rfl⟩
  .have q:Hid ((l.take (k+1)).any (λc=>decide (c<0)||decide (127<c))=false):=ah (by rw[m.out,i.out];simp;omega);go_wp2;go_roundg (l.length - (k+1));exact⟨k+1,by omega,by go_num,rfl,q⟩;omega
 .have F:l.take k=l:=List.take_of_length_le (by omega);rw[F]at i;have d:Hid (V=true):=ah (by rw[h.out,i.out];rfl);go_wp2;go_ret;exact⟨aO d.out.symm,rfl⟩
theorem Sm(l:List Int)(g:IsB l)(w:World):Calls prog 61 #[.string (sB l)] w λe w'=>e= .returned (.bool (isX l))/\Ext w w':=by
 have c:Hid (isX l=(decide (4<=l.length)&&decide (fH (l.take 4)=[120,110,45,45]))):=rfl;generalize isX l=V at*;by_cases d:4<=l.length
 .have h:=ah (Lj (l.take 4) (wX g 4) (by rw[List.length_take];omega) w);have b:=Aq w (l:=l) (k:=4) d;have f:(Instr.slice 9 (.string (sB l)) none (some (.int .i64 4)) none).run prog w= .ok (.string (sB (l.take 4))) w:=b;have i:=xq (Ci (wX g 4)) (show IsB [120,110,45,45]from by intro x j;simp at j;omega);have o:(⟨#[120,110,45,45]⟩:ByteArray)=sB [120,110,45,45]:=rfl;have m:decide (4<=(l.length:Int))=true:=dT';have a:decide (4<=l.length)=true:=by rw[au];exact d
  rw[a,Bool.true_and]at c;rw[<- c.out]at i;clear b a;generalize l.take 4=t at*;go_enter func61,ntmps61;go_wp2_with(refine h.out.mono ?_;rintro e p⟨rfl,n⟩);go_ret;exact⟨rfl,n⟩
 .have a:decide (4<=l.length)=false:=by rw[aA];exact d
  rw[a,Bool.false_and]at c;rw[c.out];have m:decide (4<=(l.length:Int))=false:=dF';go_enter func61,ntmps61;go_wp2;go_ret;exact⟨rfl,Ext.refl _⟩
theorem Lp(l:List Int)(A:Option Addr)(n c:Nat)(w:World)(g:aF w ⟨A,n,c⟩ l):Calls prog 60 #[.slice A n c] w λe w'=>e= .returned (.bool (jG l))/\w=w':=by
 have h:Hid (jG l= !l.any (λc=>decide (c<0)||decide (127<c))):=rfl;generalize jG l=V at*;have r:=g.len.2;have s:=g.len.1;subst s;have t:=ah g;clear g;go_enter func60,ntmps60;go_wp2;go_loopg[7] l.length (λy z B=>S9 w l y z B);exact⟨0,by omega,rfl,rfl,rfl⟩;obtain⟨k,G,rfl,rfl,i⟩:=hrel;by_cases j:k<l.length
 .obtain⟨b,o,C,D⟩:=t.out.at_ j;subst C;have m:=ah (xC (f:=λc=>decide (c<0)||decide (127<c)) j);have a:=ah (anyM (f:=λc=>decide (c<0)||decide (127<c)) j);generalize l[k]=x at*;by_cases E:x<0
  .have d:Hid (V=false):=ah (by rw[h.out,a.out (by simp[E])];rfl);go_wp2;go_ret;exact⟨aO d.out.symm,rfl⟩
  by_cases p:127<x
  .have d:Hid (V=false):=ah (by rw[h.out,a.out (by simp[p])];rfl);go_wp2;go_ret;exact⟨aO d.out.symm,rfl⟩
  .have q:Hid ((l.take (k+1)).any (λc=>decide (c<0)||decide (127<c))=false):=ah (by rw[m.out,i.out];simp;omega);go_wp2;go_roundg (l.length - (k+1));exact⟨k+1,by omega,by go_num,rfl,q⟩;omega
 .have F:l.take k=l:=List.take_of_length_le (by omega);rw[F]at i;have d:Hid (V=true):=ah (by rw[h.out,i.out];rfl);go_wp2;go_ret;exact⟨aO d.out.symm,rfl⟩
theorem aO6(a b c d:Int)(w:World):Calls prog 280 #[.agg #[.int .i64 a,.int .i64 b,.int .i64 c,.int .i64 d]] w λe w'=>e= .returned (.int .i64 b)/\Ext w w':=by
 go_enter func280,ntmps280;go_wp2;go_ret;exact⟨rfl,(Ext.refl w).aC _⟩
theorem LJ(t:TV)(T:aj)(c:Int)(w:World)(ht:aV w t T)(a:fM T):
 Calls prog 238 #[t.v,.int .i64 c] w λe w'=>e= .returned (.int .i64 (fJ T c))/\Ext w w':=by
 have b:=ht.bW.ext ((Ext.refl w).aC (.cells t.v.cells 26));go_enter func238,ntmps238;go_wp2_with(go_at_call 221;refine(Fv 280 oH T.bW _ _ _ _ _ b a.bW.1 a.bW.2 Tryz.call280 (λ_=>aO6 _ _ _ _ _)).mono ?_;rintro e f⟨rfl,d⟩);go_ret;exact⟨rfl,((Ext.refl w).aC _).trans' d⟩
theorem aOB{T:aj}(h:dO T=true):nG T.bW:=by
 simp only[dO,cols,pX,aW]at h;exact⟨h.1.1.2.2.2.1.1,h.1.1.2.2.2.1.2⟩
theorem vg{T:aj}{c:Int}(d:0<=c)(f:c<=127):fJ T c=oH c:=by
 have a:aY c=true:=by simp only[aY,aW,Bool.or_eq_true,au];omega
 have b:fD c=true:=by simp only[fD,Bool.or_eq_true,aW,au];exact .inl (.inl (.inl ⟨d,f⟩))
 rw[fJ,mM,if_neg (by rw[a];simp),if_pos b]
theorem aO7{T:aj}(a:nG T.bW){c:Int}(g:c<0\/127<c):fJ T c=fB T.bW c:=by
 rw[fJ,mM];by_cases b:aY c=false
 .rw[if_pos b,a.zero (.inr b)]
 .rw[if_neg b];by_cases d:fD c=true
  .rw[if_pos d,a.zero (.inl d),oH];have f:=d;simp only[fD,rE,Bool.or_eq_true,aW,au]at f;simp only[aY,Bool.and_eq_false_iff,Bool.or_eq_false_iff,aA]at b
   repeat' split
   all_goals first|rfl|(exfalso;omega)|skip
  .rw[if_neg d]
theorem LH(t:TV)(T:aj)(c:Int)(w:World)(ht:aV w t T)(C:nG T.bW):
 Calls prog 198 #[t.v,.int .i64 c] w λe w'=>e= .returned (.int .i64 (fJ T c))/\Ext w w':=by
 have E:=ht.bW.ext ((Ext.refl w).aC (.cells t.v.cells 26));have f:=ah E;have D:=ah C;have b:=cZ w t;clear ht E C;by_cases r:0<=c/\c<=32
 ·
  obtain⟨z,A⟩:=r;have g:decide (97<=c)=false:=dF';have h:decide (c<=122)=true:=dT';have i:decide (65<=c)=false:=dF';have j:decide (c<=90)=true:=dT';have k:decide (48<=c)=false:=dF';have l:decide (c<=57)=true:=dT';have m:decide (0<=c)=true:=dT';have n:decide (c<=32)=true:=dT';have o:decide (32<c)=false:=dF';have p:decide (c<127)=true:=dT';have q:(c==127)=false:=bF';have s:(c==45)=false:=bF';have x:(c==46)=false:=bF'
  have d:Hid (fJ T c=11):=ah (by
   rw[vg (by omega) (by omega),oH]
   repeat' split
   all_goals first|rfl|(exfalso;omega))
  go_enter func198,ntmps198
  go_wp2_with(first
   |(go_at_call 136;refine(jf _ _ _ T.bW _ _ f.out).mono ?_;rintro e y⟨rfl,a⟩))
  go_ret;exact⟨aU d.out.symm,b⟩
 by_cases r:33<=c/\c<=44
 ·
  obtain⟨z,A⟩:=r;have g:decide (97<=c)=false:=dF';have h:decide (c<=122)=true:=dT';have i:decide (65<=c)=false:=dF';have j:decide (c<=90)=true:=dT';have k:decide (48<=c)=false:=dF';have l:decide (c<=57)=true:=dT';have m:decide (0<=c)=true:=dT';have n:decide (c<=32)=false:=dF';have o:decide (32<c)=true:=dT';have p:decide (c<127)=true:=dT';have q:(c==127)=false:=bF';have s:(c==45)=false:=bF';have x:(c==46)=false:=bF'
  have d:Hid (fJ T c=8):=ah (by
   rw[vg (by omega) (by omega),oH]
   repeat' split
   all_goals first|rfl|(exfalso;omega))
  go_enter func198,ntmps198
  go_wp2_with(first
   |(go_at_call 136;refine(jf _ _ _ T.bW _ _ f.out).mono ?_;rintro e y⟨rfl,a⟩))
  go_ret;exact⟨aU d.out.symm,b⟩
 by_cases r:45<=c/\c<=45
 ·
  obtain⟨z,A⟩:=r;have g:decide (97<=c)=false:=dF';have h:decide (c<=122)=true:=dT';have i:decide (65<=c)=false:=dF';have j:decide (c<=90)=true:=dT';have k:decide (48<=c)=false:=dF';have l:decide (c<=57)=true:=dT';have m:decide (0<=c)=true:=dT';have n:decide (c<=32)=false:=dF';have o:decide (32<c)=true:=dT';have p:decide (c<127)=true:=dT';have q:(c==127)=false:=bF';have s:(c==45)=true:=by rw[beq_iff_eq];omega
  have x:(c==46)=false:=bF'
  have d:Hid (fJ T c=5):=ah (by
   rw[vg (by omega) (by omega),oH]
   repeat' split
   all_goals first|rfl|(exfalso;omega))
  go_enter func198,ntmps198
  go_wp2_with(first
   |(go_at_call 136;refine(jf _ _ _ T.bW _ _ f.out).mono ?_;rintro e y⟨rfl,a⟩))
  go_ret;exact⟨aU d.out.symm,b⟩
 by_cases r:46<=c/\c<=46
 ·
  obtain⟨z,A⟩:=r;have g:decide (97<=c)=false:=dF';have h:decide (c<=122)=true:=dT';have i:decide (65<=c)=false:=dF';have j:decide (c<=90)=true:=dT';have k:decide (48<=c)=false:=dF';have l:decide (c<=57)=true:=dT';have m:decide (0<=c)=true:=dT';have n:decide (c<=32)=false:=dF';have o:decide (32<c)=true:=dT';have p:decide (c<127)=true:=dT';have q:(c==127)=false:=bF';have s:(c==45)=false:=bF';have x:(c==46)=true:=by rw[beq_iff_eq];omega
  have d:Hid (fJ T c=6):=ah (by
   rw[vg (by omega) (by omega),oH]
   repeat' split
   all_goals first|rfl|(exfalso;omega))
  go_enter func198,ntmps198
  go_wp2_with(first
   |(go_at_call 136;refine(jf _ _ _ T.bW _ _ f.out).mono ?_;rintro e y⟨rfl,a⟩))
  go_ret;exact⟨aU d.out.symm,b⟩
 by_cases r:47<=c/\c<=47
 ·
  obtain⟨z,A⟩:=r;have g:decide (97<=c)=false:=dF';have h:decide (c<=122)=true:=dT';have i:decide (65<=c)=false:=dF';have j:decide (c<=90)=true:=dT';have k:decide (48<=c)=false:=dF';have l:decide (c<=57)=true:=dT';have m:decide (0<=c)=true:=dT';have n:decide (c<=32)=false:=dF';have o:decide (32<c)=true:=dT';have p:decide (c<127)=true:=dT';have q:(c==127)=false:=bF';have s:(c==45)=false:=bF';have x:(c==46)=false:=bF'
  have d:Hid (fJ T c=8):=ah (by
   rw[vg (by omega) (by omega),oH]
   repeat' split
   all_goals first|rfl|(exfalso;omega))
  go_enter func198,ntmps198
  go_wp2_with(first
   |(go_at_call 136;refine(jf _ _ _ T.bW _ _ f.out).mono ?_;rintro e y⟨rfl,a⟩))
  go_ret;exact⟨aU d.out.symm,b⟩
 by_cases r:48<=c/\c<=57
 ·
  obtain⟨z,A⟩:=r;have g:decide (97<=c)=false:=dF';have h:decide (c<=122)=true:=dT';have i:decide (65<=c)=false:=dF';have j:decide (c<=90)=true:=dT';have k:decide (48<=c)=true:=dT';have l:decide (c<=57)=true:=dT';have m:decide (0<=c)=true:=dT';have n:decide (c<=32)=false:=dF';have o:decide (32<c)=true:=dT';have p:decide (c<127)=true:=dT';have q:(c==127)=false:=bF';have s:(c==45)=false:=bF';have x:(c==46)=false:=bF'
  have d:Hid (fJ T c=4):=ah (by
   rw[vg (by omega) (by omega),oH]
   repeat' split
   all_goals first|rfl|(exfalso;omega))
  go_enter func198,ntmps198
  go_wp2_with(first
   |(go_at_call 136;refine(jf _ _ _ T.bW _ _ f.out).mono ?_;rintro e y⟨rfl,a⟩))
  go_ret;exact⟨aU d.out.symm,b⟩
 by_cases r:58<=c/\c<=64
 ·
  obtain⟨z,A⟩:=r;have g:decide (97<=c)=false:=dF';have h:decide (c<=122)=true:=dT';have i:decide (65<=c)=false:=dF';have j:decide (c<=90)=true:=dT';have k:decide (48<=c)=true:=dT';have l:decide (c<=57)=false:=dF';have m:decide (0<=c)=true:=dT';have n:decide (c<=32)=false:=dF';have o:decide (32<c)=true:=dT';have p:decide (c<127)=true:=dT';have q:(c==127)=false:=bF';have s:(c==45)=false:=bF';have x:(c==46)=false:=bF'
  have d:Hid (fJ T c=8):=ah (by
   rw[vg (by omega) (by omega),oH]
   repeat' split
   all_goals first|rfl|(exfalso;omega))
  go_enter func198,ntmps198
  go_wp2_with(first
   |(go_at_call 136;refine(jf _ _ _ T.bW _ _ f.out).mono ?_;rintro e y⟨rfl,a⟩))
  go_ret;exact⟨aU d.out.symm,b⟩
 by_cases r:65<=c/\c<=90
 ·
  obtain⟨z,A⟩:=r;have g:decide (97<=c)=false:=dF';have h:decide (c<=122)=true:=dT';have i:decide (65<=c)=true:=dT';have j:decide (c<=90)=true:=dT';have k:decide (48<=c)=true:=dT';have l:decide (c<=57)=false:=dF';have m:decide (0<=c)=true:=dT';have n:decide (c<=32)=false:=dF';have o:decide (32<c)=true:=dT';have p:decide (c<127)=true:=dT';have q:(c==127)=false:=bF';have s:(c==45)=false:=bF';have x:(c==46)=false:=bF'
  have d:Hid (fJ T c=0):=ah (by
   rw[vg (by omega) (by omega),oH]
   repeat' split
   all_goals first|rfl|(exfalso;omega))
  go_enter func198,ntmps198
  go_wp2_with(first
   |(go_at_call 136;refine(jf _ _ _ T.bW _ _ f.out).mono ?_;rintro e y⟨rfl,a⟩))
  go_ret;exact⟨aU d.out.symm,b⟩
 by_cases r:91<=c/\c<=96
 ·
  obtain⟨z,A⟩:=r;have g:decide (97<=c)=false:=dF';have h:decide (c<=122)=true:=dT';have i:decide (65<=c)=true:=dT';have j:decide (c<=90)=false:=dF';have k:decide (48<=c)=true:=dT';have l:decide (c<=57)=false:=dF';have m:decide (0<=c)=true:=dT';have n:decide (c<=32)=false:=dF';have o:decide (32<c)=true:=dT';have p:decide (c<127)=true:=dT';have q:(c==127)=false:=bF';have s:(c==45)=false:=bF';have x:(c==46)=false:=bF'
  have d:Hid (fJ T c=8):=ah (by
   rw[vg (by omega) (by omega),oH]
   repeat' split
   all_goals first|rfl|(exfalso;omega))
  go_enter func198,ntmps198
  go_wp2_with(first
   |(go_at_call 136;refine(jf _ _ _ T.bW _ _ f.out).mono ?_;rintro e y⟨rfl,a⟩))
  go_ret;exact⟨aU d.out.symm,b⟩
 by_cases r:97<=c/\c<=122
 ·
  obtain⟨z,A⟩:=r;have g:decide (97<=c)=true:=dT';have h:decide (c<=122)=true:=dT';have i:decide (65<=c)=true:=dT';have j:decide (c<=90)=false:=dF';have k:decide (48<=c)=true:=dT';have l:decide (c<=57)=false:=dF';have m:decide (0<=c)=true:=dT';have n:decide (c<=32)=false:=dF';have o:decide (32<c)=true:=dT';have p:decide (c<127)=true:=dT';have q:(c==127)=false:=bF';have s:(c==45)=false:=bF';have x:(c==46)=false:=bF'
  have d:Hid (fJ T c=0):=ah (by
   rw[vg (by omega) (by omega),oH]
   repeat' split
   all_goals first|rfl|(exfalso;omega))
  go_enter func198,ntmps198
  go_wp2_with(first
   |(go_at_call 136;refine(jf _ _ _ T.bW _ _ f.out).mono ?_;rintro e y⟨rfl,a⟩))
  go_ret;exact⟨aU d.out.symm,b⟩
 by_cases r:123<=c/\c<=126
 ·
  obtain⟨z,A⟩:=r;have g:decide (97<=c)=true:=dT';have h:decide (c<=122)=false:=dF';have i:decide (65<=c)=true:=dT';have j:decide (c<=90)=false:=dF';have k:decide (48<=c)=true:=dT';have l:decide (c<=57)=false:=dF';have m:decide (0<=c)=true:=dT';have n:decide (c<=32)=false:=dF';have o:decide (32<c)=true:=dT';have p:decide (c<127)=true:=dT';have q:(c==127)=false:=bF';have s:(c==45)=false:=bF';have x:(c==46)=false:=bF'
  have d:Hid (fJ T c=8):=ah (by
   rw[vg (by omega) (by omega),oH]
   repeat' split
   all_goals first|rfl|(exfalso;omega))
  go_enter func198,ntmps198
  go_wp2_with(first
   |(go_at_call 136;refine(jf _ _ _ T.bW _ _ f.out).mono ?_;rintro e y⟨rfl,a⟩))
  go_ret;exact⟨aU d.out.symm,b⟩
 by_cases r:127<=c/\c<=127
 ·
  obtain⟨z,A⟩:=r;have g:decide (97<=c)=true:=dT';have h:decide (c<=122)=false:=dF';have i:decide (65<=c)=true:=dT';have j:decide (c<=90)=false:=dF';have k:decide (48<=c)=true:=dT';have l:decide (c<=57)=false:=dF';have m:decide (0<=c)=true:=dT';have n:decide (c<=32)=false:=dF';have o:decide (32<c)=true:=dT';have p:decide (c<127)=false:=dF';have q:(c==127)=true:=by rw[beq_iff_eq];omega
  have s:(c==45)=false:=bF';have x:(c==46)=false:=bF'
  have d:Hid (fJ T c=11):=ah (by
   rw[vg (by omega) (by omega),oH]
   repeat' split
   all_goals first|rfl|(exfalso;omega))
  go_enter func198,ntmps198
  go_wp2_with(first
   |(go_at_call 136;refine(jf _ _ _ T.bW _ _ f.out).mono ?_;rintro e y⟨rfl,a⟩))
  go_ret;exact⟨aU d.out.symm,b⟩
 have B:c<0\/127<c:=by omega
 have d:Hid (fJ T c=fB T.bW c):=ah (aO7 D.out B);rcases B with B|B
 ·
  have g:decide (97<=c)=false:=dF';have h:decide (c<=122)=true:=dT';have i:decide (65<=c)=false:=dF';have j:decide (c<=90)=true:=dT';have k:decide (48<=c)=false:=dF';have l:decide (c<=57)=true:=dT';have m:decide (0<=c)=false:=dF';have n:decide (c<=32)=true:=dT';have o:decide (32<c)=false:=dF';have p:decide (c<127)=true:=dT';have q:(c==127)=false:=bF';have s:(c==45)=false:=bF';have x:(c==46)=false:=bF';clear B;go_enter func198,ntmps198
  go_wp2_with(first
   |(go_at_call 136;refine(jf _ _ _ T.bW _ _ f.out).mono ?_;rintro e y⟨rfl,a⟩))
  go_ret;exact⟨aU d.out.symm,b.trans' a⟩
 ·
  have g:decide (97<=c)=true:=dT';have h:decide (c<=122)=false:=dF';have i:decide (65<=c)=true:=dT';have j:decide (c<=90)=false:=dF';have k:decide (48<=c)=true:=dT';have l:decide (c<=57)=false:=dF';have m:decide (0<=c)=true:=dT';have n:decide (c<=32)=false:=dF';have o:decide (32<c)=true:=dT';have p:decide (c<127)=false:=dF';have q:(c==127)=false:=bF';have s:(c==45)=false:=bF';have x:(c==46)=false:=bF';clear B;go_enter func198,ntmps198
  go_wp2_with(first
   |(go_at_call 136;refine(jf _ _ _ T.bW _ _ f.out).mono ?_;rintro e y⟨rfl,a⟩))
  go_ret;exact⟨aU d.out.symm,b.trans' a⟩
def dN(ks B:List Int):Bool:=B.any λx=>ks.any λy=>y==x
def lastB(B:List Int):Int:=B.foldl (λk x=>if x=10 then k else x) (-1)
def cO(T:aj)(l:List Int):List Int:=l.map (fJ T)
def mD(B:List Int):List Int:=if lastB B= -1 then[]else[lastB B]
def LX(b1 b2 b3 b4 b5 b6 b7 b8:Bool):Int:=if b1 then(if b2 then 2 else if !b3 then 3 else if b4&&b5 then 4 else 0)else if b6 then(if b7 then 5 else if !b8 then 6 else 0)else 1
def vk(B:List Int):Int:=match B with
 |[]=>0
 |f::r=>LX (dN [1,2] [f]) (dN [0,11] (f::r)) (dN [1,2,3,4] (mD (f::r))) (dN [4] (f::r)) (dN [3] (f::r)) (dN [0] [f]) (dN [1,2,3,11] (f::r)) (dN [0,4] (mD (f::r)))
def jq(B:List Int):Nat:=B.foldl (λs b=>s ||| 2 ^ b.toNat) 0
def InB(B:List Int):Prop:=∀x∈B,0<=x/\x<=11
theorem InB.snoc{B:List Int}{x:Int}(h:InB (B++[x])):InB B/\0<=x/\x<=11:=⟨λy a=>h y (by simp[a]),h x (by simp)⟩
theorem LP(B:List Int)(x:Int):jq (B++[x])=jq B ||| 2 ^ x.toNat:=by
 unfold jq;rw[List.foldl_append];rfl
theorem aQ3(ks B:List Int)(x:Int):dN ks (B++[x])=(dN ks B||ks.any λy=>y==x):=by
 unfold dN;rw[List.any_append];simp
theorem LQ{p:List Int->Prop}(c:p [])(d:∀B x,p B->p (B++[x])):∀B,p B:=by
 intro B;have a:∀R:List Int,p R.reverse:=by
  intro R
  induction R with
  |nil=>exact c
  |cons x R ih=>
   rw[List.reverse_cons];exact d _ _ ih
 have b:=a B.reverse;rwa[List.reverse_reverse]at b
theorem LU:∀(B:List Int),InB B->jq B<4096:=by
 refine LQ (λ_=>by decide) (λB x a h=> ?_);obtain⟨b,c,d⟩:=h.snoc;rw[LP];exact Nat.or_lt_two_pow (n:=12) (a b) (Nat.pow_lt_pow_right (by decide) (by omega))
theorem GH(i:Nat):∀(B:List Int),InB B->(jq B).testBit i=B.any λx=>x==(i:Int):=by
 refine LQ (λ_=>by simp[jq]) (λB x a h=> ?_);obtain⟨b,c,d⟩:=h.snoc;rw[LP,Nat.testBit_or,a b,List.any_append,Nat.testBit_two_pow];congr 1;simp only[List.any_cons,List.any_nil,Bool.or_false];rw[Bool.eq_iff_iff,au,beq_iff_eq];omega
theorem aPm(ks B:List Int)(m:InB ks)(g:InB B):(jq B &&& jq ks != 0)=dN ks B:=by
 rw[Bool.eq_iff_iff,bne_iff_ne];constructor
 .intro h;rcases Bool.eq_false_or_eq_true (dN ks B)with b|b
  .exact b
  .exfalso;apply h;apply Nat.eq_of_testBit_eq;intro i;rw[Nat.testBit_and,GH i B g,GH i ks m,Nat.zero_testBit,Bool.and_eq_false_iff];by_cases a:(B.any λx=>x==(i:Int))=true
   .right;rw[List.any_eq_true]at a;obtain⟨x,f,c⟩:=a;rw[beq_iff_eq]at c;subst c;unfold dN at b;rw[List.any_eq_false]at b;have:=b _ f;rw[List.any_eq_false];intro z n d;rw[beq_iff_eq]at d;subst d;exact this (List.any_eq_true.2 ⟨_,n,by simp⟩)
   .left;exact Bool.eq_false_iff.2 a
 .intro h o;unfold dN at h;rw[List.any_eq_true]at h;obtain⟨x,a,j⟩:=h;rw[List.any_eq_true]at j;obtain⟨y,p,k⟩:=j;rw[beq_iff_eq]at k;subst k;have q:=g _ a;have l:(jq B &&& jq ks).testBit y.toNat=true:=by
   rw[Nat.testBit_and,GH _ B g,GH _ ks m,aW,List.any_eq_true,List.any_eq_true];exact⟨⟨y,a,by rw[beq_iff_eq];omega⟩,⟨y,p,by rw[beq_iff_eq];omega⟩⟩
  rw[o,Nat.zero_testBit]at l;cases l
theorem GI(a:Nat)(b:a<4096):(BitVec.ofInt 64 (a:Int)).toNat=a:=by
 rw[BitVec.ofInt_natCast,BitVec.toNat_ofNat];exact Nat.mod_eq_of_lt (by omega)
theorem aQ1(a b:Nat)(d:a<4096)(c:b<4096):bits .and .i64 (a:Int) (b:Int)=((a &&& b:Nat):Int):=by
 have f:a &&& b<2 ^ 12:=Nat.and_lt_two_pow _ c;show IntKind.i64.wrap ((BitVec.ofInt 64 (a:Int) &&& BitVec.ofInt 64 (b:Int)).toNat:Int)=_
 rw[BitVec.toNat_and,GI a d,GI b c,IntKind.wrap_i64];omega
theorem aQ6(a b:Nat)(c:a<4096)(d:b<4096):bits .or .i64 (a:Int) (b:Int)=((a ||| b:Nat):Int):=by
 have f:a ||| b<2 ^ 12:=Nat.or_lt_two_pow c d;show IntKind.i64.wrap ((BitVec.ofInt 64 (a:Int) ||| BitVec.ofInt 64 (b:Int)).toNat:Int)=_
 rw[BitVec.toNat_or,GI a c,GI b d,IntKind.wrap_i64];omega
theorem yJ(ks B:List Int)(a:InB ks)(b:InB B)(m:Int)(c:m=(jq ks:Nat)):(bits .and .i64 ((jq B:Nat):Int) m != 0)=dN ks B:=by
 subst c;rw[aQ1 _ _ (LU B b) (LU ks a),<- aPm ks B a b,Bool.eq_iff_iff,bne_iff_ne,bne_iff_ne];omega
theorem aPu:∀n:Fin 64,n.val<=11->wrap64 (2 ^ n.val)=((2 ^ n.val:Nat):Int):=by decide+kernel
theorem aQ7{k:Int}(a:0<=k)(b:k<=11):wrap64 (2 ^ k.toNat)=((2 ^ k.toNat:Nat):Int):=aPu ⟨k.toNat,by omega⟩ (by simp only;omega)
theorem Uw{a b:Int}:∀{l:List Sp},valuesL a b l=true->a<=0->0<=b->∀c,a<=fB l c/\fB l c<=b
 |[],_,h0,h1,c=>⟨h0,h1⟩
 |s::r,h,h0,h1,c=>by
  simp only[valuesL,aW,Bool.not_eq_true',Bool.or_eq_false_iff,aA]at h;rw[fB];by_cases d:s.lo<=c/\c<=s.hi
  .rw[if_pos d];omega
  .rw[if_neg d];exact Uw h.2 h0 h1 c
theorem GL{T:aj}(h:bY T=true)(c:Int):0<=fJ T c/\fJ T c<=11:=by
 simp only[bY,aW]at h;have a:valuesB T=true:=by simp only[h]
 simp only[valuesB,cols,nR,aW]at a;have b:=Uw a.2.2.2.1 (by omega) (by omega) c;unfold fJ mM;split
 .omega
 .split
  .unfold oH
   repeat' split
   all_goals omega
  .exact b
theorem LW{T:aj}(h:bY T=true)(l:List Int):InB (cO T l):=by
 intro x a;unfold cO at a;rw[List.mem_map]at a;obtain⟨c,_,rfl⟩:=a;exact GL h c
theorem GK(T:aj)(l:List Int)(k:Nat)(a:k<l.length):cO T (l.take (k+1))=cO T (l.take k)++[fJ T l[k]]:=by
 unfold cO;rw[List.take_succ_eq_append_getElem a,List.map_append];rfl
theorem LV(B:List Int)(x:Int):lastB (B++[x])=if x=10 then lastB B else x:=by
 unfold lastB;rw[List.foldl_append];rfl
theorem aPw:∀B,InB B-> -1<=lastB B/\lastB B<=11/\lastB B≠10:=by
 refine LQ (λ_=>by decide) (λB x a h=> ?_);obtain⟨b,c,d⟩:=h.snoc;rw[LV];split
 .exact a b
 .omega
theorem Uy{B:List Int}(h:InB B):InB (mD B):=by
 have:=aPw B h;unfold mD;split
 .intro x a;cases a
 .intro x a;rw[List.mem_singleton]at a;subst a;omega
theorem GN(k:Int)(b:0<=k)(c:k<=11)(w:World):Calls prog 237 #[.int .i64 k] w λe w'=>e= .returned (.int .i64 ((2 ^ k.toNat:Nat):Int))/\w=w':=by
 have a:=ah (aQ7 b c);have d:k<=64:=by omega
 go_enter func237,ntmps237;go_wp2;go_ret;exact⟨aU a.out,rfl⟩
theorem aQ2(a b:Int)(w:World):Calls prog 236 #[.int .i64 a,.int .i64 b] w λe w'=>e= .returned (.bool (bits .and .i64 a b != 0))/\w=w':=by
 go_enter func236,ntmps236;go_wp2;go_ret;exact⟨rfl,rfl⟩
def aQ0(T:aj)(w0:World)(l:List Int)(gh:Nat)(s5 s10:Value)(wx:World):Prop:=
 ∃(k:Nat),k+gh=l.length/\s10= .int .i64 k/\s5= .int .i64 ((jq (cO T (l.take k)):Nat):Int)/\Hid (Ext w0 wx)
theorem Ux(T:aj)(t:TV)(l:List Int)(A:Option Addr)(n c:Nat)(w:World)(ht:aV w t T)(I:aF w ⟨A,n,c⟩ l)(p:bY T=true)(M:l.length<=4096):
 Calls prog 235 #[t.v,.slice A n c] w λe w'=>e= .returned (.int .i64 ((jq (cO T l):Nat):Int))/\Ext w w':=by
 have a:=cZ w t;have r:=ah a;have N:=ah (ht.aB a);have O:=ah (I.ext a);have P:=ah (mF p);have Q:=ah λl=>LW p l
 have s:=ah λc=>GL p c
 have R:=I.len.1;subst R;have S:=ah M;clear ht I a M p;go_enter func235,ntmps235;go_wp2;go_loopg[5,10] l.length (λU V z W=>aQ0 T (tW' w t) l U V z W);exact⟨0,by omega,rfl,rfl,ah (Ext.refl _)⟩;obtain⟨k,X,rfl,rfl,f⟩:=hrel;have g:=r.out.trans' f.out;have J:∀k:Nat,wr.cell? ⟨w.heap.size,k,none⟩=t.v.cells[k]? :=aQ f.out;have Y:l.length<=4096:=S.out;by_cases h:k<l.length
 .obtain⟨B,rfl⟩:=gS' gk;obtain⟨b,o,rfl,a0⟩:=(O.out.ext f.out).at_ h;have HK:=ah (GK T l k h);generalize l[k]=x at*;have a2:=z0' k;have a3:(k:Int)<(l.length:Int):=by omega
  have i:=s.out x;have C:=ah (LU _ (Q.out (l.take k)));have j:2 ^ (fJ T x).toNat<4096:=Nat.pow_lt_pow_right (n:=12) (by decide) (by omega)
  have K:Hid (∀y:Int,y=fJ T x->bits .or .i64 ((jq (cO T (l.take k)):Nat):Int) ((2 ^ y.toNat:Nat):Int)=((jq (cO T (l.take (k+1))):Nat):Int)):=ah (by
   rintro y rfl
   rw[aQ6 _ _ C.out j,HK.out,LP])
  clear j g;go_wp2_with fail;refine(LJ t T x wr (N.out.aB f.out) P.out).mono ?_;rintro e w3⟨rfl,m⟩;have D:=ah (f.out.trans' m);clear m J;obtain⟨q,E⟩:=eX' (fJ T x);have ho:=K.out q E;rw[<- E]at i |-;clear E K;obtain⟨F,G⟩:=i;generalize jq (cO T (l.take k))=S1 at*;obtain⟨L,d⟩:∃L:Nat,L=jq (cO T (l.take (k+1))):=⟨_,rfl⟩;have H:=ah d;rw[<- d]at ho;clear d;go_wp2_with fail;refine(GN q F G w3).mono ?_;rintro e w4⟨rfl,rfl⟩;generalize((2 ^ q.toNat:Nat):Int)=P2 at*;go_wp2;go_roundg B;exact⟨k+1,by omega,by go_num,by rw[<- H.out],D⟩;omega
 .have HE:Hid (l.take k=l):=ah (List.take_of_length_le (by omega));clear J;go_wp2;go_ret;exact⟨by rw[HE.out];rfl,g⟩
def aRF(T:aj)(w0:World)(l:List Int)(gh:Nat)(s5:Value)(wx:World):Prop:=
 gh<=l.length/\s5= .int .i64 ((gh:Int) - 1)/\Hid (Ext w0 wx)/\Hid (lastB (cO T l)=lastB (cO T (l.take gh)))
theorem Uz(x:Int):jq [x]=2 ^ x.toNat:=by
 unfold jq;simp
theorem aQA(T:aj)(t:TV)(l:List Int)(A:Option Addr)(n c:Nat)(w:World)(ht:aV w t T)(M:aF w ⟨A,n,c⟩ l)(N:bY T=true)(R:l.length<=4096):
 Calls prog 239 #[t.v,.slice A n c] w λe w'=>e= .returned (.int .i64 ((jq (mD (cO T l)):Nat):Int))/\Ext w w':=by
 have d:=cZ w t;have g:=ah d;have S:=ah (ht.aB d);have U:=ah (M.ext d);have V:=ah (mF N);have B:=ah λc=>GL N c
 have W:=M.len.1;subst W;have X:=ah R;clear ht M d R N;have Y:l.length<=4096:=X.out;go_enter func239,ntmps239;go_wp2;go_loopg[5] l.length (λZ s5 wx=>aRF T (tW' w t) l Z s5 wx);exact⟨Nat.le_refl _,rfl,ah (Ext.refl _),ah (by rw[List.take_length])⟩;obtain⟨a2,rfl,i,C⟩:=hrel;have j:=g.out.trans' i.out;cases gk with
 |zero=>
  have D:Hid (jq (mD (cO T l))=0):=ah (by rw[mD,C.out];rfl);go_wp2;go_ret;exact⟨by rw[D.out];rfl,j⟩
 |succ k=>
  have m:k<l.length:=by omega
  have e0:((k+1:Nat):Int) - 1=(k:Int):=by omega
  rw[e0];obtain⟨b,o,rfl,p⟩:=(U.out.ext i.out).at_ m;have E:Hid (lastB (cO T (l.take (k+1)))=if fJ T l[k]=10 then lastB (cO T (l.take k))else fJ T l[k]):=ah (by rw[GK T l k m,LV]);generalize l[k]=x at*;have F:=z0' k;have a4:(k:Int)<(l.length:Int):=by omega
  have a5:decide ((0:Int)<=(k:Int))=true:=decide_eq_true F;have r:=B.out x;have rT:∀s:ak wr,∀k:Nat,s.w.cell? ⟨w.heap.size,k,none⟩=t.v.cells[k]? :=λs=>aQ (i.out.trans' s.h)
  have rX:∀s:ak wr,s.w.cell? ⟨b,o+k,none⟩=some (.int .i64 x):=dD p;have G:Hid (∀w',Ext wr w'->Calls prog 238 #[t.v,.int .i64 x] w' λe H=>e= .returned (.int .i64 (fJ T x))/\Ext w' H):=ah (λw' h=>LJ t T x w' (S.out.aB (i.out.trans' h)) V.out);obtain⟨q,O⟩:=eY' (fJ T x);rw[O]at G E r;clear O;obtain⟨I,J⟩:=r;go_wp2_with fail;refine rX' ?_
  repeat(go_big_quiet_step((go_at_call 238;with_reducible exact aS (G.out _ (ak.h _)))))
  refine wpQuiet_nil ?_;rintro _⟨P,rfl⟩;clear rT rX p G;obtain⟨z,f⟩:=eX' P.w;have y:Hid (Ext _ z):=ah (by rw[f];exact i.out.trans' P.h);rw[<- f];clear f j;have K:=g.out.trans' y.out;by_cases a:q=10
  .have e1:(q != 10)=false:=by rw[a];rfl
   have L:=ah (C.out.trans (E.out.trans (if_pos a)));clear a;go_wp2;go_roundg k;exact⟨by omega,by go_num,y,L⟩;omega
  .have e1:(q != 10)=true:=bN' a
   have D:Hid (jq (mD (cO T l))=2 ^ q.toNat):=ah (by
    have h1:=C.out.trans (E.out.trans (if_neg a))
    rw[mD,h1,if_neg (by omega),Uz])
   clear a;go_wp2_with fail;refine(GN q I J z).mono ?_;rintro e w5⟨rfl,rfl⟩;generalize Q:((2 ^ q.toNat:Nat):Int)=P2 at*;have HP:=ah Q;clear Q;go_wp2;go_ret;exact⟨by rw[D.out,HP.out];rfl,K⟩
def lbG:List (List Int)->List Int->List Int->List (List Int)
 |L,cur,[]=>L++[cur]
 |L,cur,c::r=>if c=46 then lbG (L++[cur]) [] r else lbG L (cur++[c]) r
def mP(l:List Int):List (List Int):=lbG [] [] l
theorem aF.kb{w w':World}{s:SV}{l:List Int}(h:aF w s l)(g:∀b o,aG s.a=some b->w'.cell? ⟨b,o,none⟩=w.cell? ⟨b,o,none⟩):aF w' s l:=
 ⟨h.1,λi x d=>by
  obtain⟨b,o,c,f⟩:=h.2 i x d
  exact⟨b,o,c,by rw[g b _ (by rw[c];rfl)];exact f⟩⟩
theorem SG{w w':World}{row:Option Nat}(h:w.grownBy w' row){b:Nat}(a:b<w.heap.size)(c:some b≠row)(o:Nat):w'.cell? ⟨b,o,none⟩=w.cell? ⟨b,o,none⟩:=by
 unfold World.cell?;rw[h.block b a c]
abbrev AQ(w:World)(base:Nat)(A:Option Addr)(n c:Nat)(S:List SV):Prop:=Own w base 22 1 A n c (S.map SV.v)
structure LbS(w0 w:World)(g C B:Nat)(S:List SV)(L:List (List Int))(z:SV)(cur:List Int):Prop where
 own:AQ w w0.heap.size (some ⟨g,0,none⟩) (S.length+1) C (S++[z])
 eq:S.length=L.length
 ok:∀(i:Nat)s x,S[i]? =some s->L[i]? =some x->aF w s x/\∀b,aG s.a=some b->b<B/\b≠g
 last:aN w B z.a z.n z.c cur
 lne:aG z.a≠some g
 b0:w0.heap.size<=B
 b1:B<=w.heap.size
 ext:Ext w0 w
theorem LbS.turn{p w w':World}{g C B:Nat}{S:List SV}{L:List (List Int)}{z z':SV}{A f:List Int}(h:LbS p w g C B S L z A)(E:∀b,b<w.heap.size->some b≠aG z.a->w'.heap[b]? =w.heap[b]?)(D:w.heap.size<=w'.heap.size)
 (P:aN w' B z'.a z'.n z'.c f) (F:aG z'.a≠some g) (Q:Ext p w'):LbS p (w'.setCell ⟨g,S.length,none⟩ z'.v) g C B S L z' f:=by
 have k:=Own.lt h.own g rfl;have j:AQ w' p.heap.size (some ⟨g,0,none⟩) (S.length+1) C (S++[z]):=by
  refine⟨h.own.1,?_⟩;rcases h.own.2 with⟨G,_⟩|⟨R,H,I,d,m,J,K⟩
  .cases G
  .injection d with d M q;injection d with d;injection d with d;subst d q;refine .inr ⟨g,C,I,rfl,m,?_,K⟩;rw[E g k.2 (λe=>h.lne e.symm)];exact J
 have l:=World.ownsRow.stored j S.length z'.v;refine⟨?_,h.eq,λi s x N r=> ?_,?_,F,h.b0,by simp;exact Nat.le_trans h.b1 D,Q.kD k.1 _⟩
 .have:=l.1;unfold AQ Own;simpa using this
 .obtain⟨d,m⟩:=h.ok i s x N r;refine⟨d.kb (λb o O=> ?_),m⟩;obtain⟨t,y⟩:=m b O;rw[World.cell?_setCell_far _ _ _ _ (λe=>y e.symm)];unfold World.cell?;rw[E b (Nat.lt_of_lt_of_le t h.b1) (λe=>by have:=(Own.lt h.last b e.symm).1;omega)]
 .exact World.ownsRow.kept P l.2 (by
   rw[CV]
   exact .inr F)
theorem LbS.more{M w:World}{g C B:Nat}{S:List SV}{L:List (List Int)}{z:SV}{y:List Int}(h:LbS M w g C B S L z y)(P:S.length<=1099511000000):
 ∃g' C' w',(∀ty,(Builtin.append_ #[48,48] ty #[.slice (some ⟨g,0,none⟩) (S.length+1) C,.slice (some ⟨w.heap.size,0,none⟩) 1 1]).run prog (w.alloc (.cells #[.slice none 0 0] 22))= .ok (.slice (some ⟨g',0,none⟩) (S.length+1+1) C') w')/\LbS M w' g' C' w'.heap.size (S++[z]) (L++[y]) l7 []:=by
 have c:Ext w (w.alloc (.cells #[.slice none 0 0] 22)):=(Ext.refl _).aC _;obtain⟨O,C',w',q,d,l,A⟩:=Ad (T:=48) underlying48 infoSl rfl (by omega) (Own.ext h.own c) (some ⟨w.heap.size,0,none⟩) 1 1 [.slice none 0 0] rfl
  (λj u r=>by
   refine⟨w.heap.size,0,rfl,?_⟩;rw[Nat.zero_add,World.cell?_alloc_new]
   match j,r with
   |0,r=>simpa using r
   |j+1,r=>simp at r)
  (by intro u J;simp at J;subst J;rfl) (by simp only[maxLen];omega) (by omega) (Nat.le_trans h.ext.b.size c.b.size)
 obtain⟨g',rfl⟩:=Own.some_ d (by omega);have D:=Own.lt h.own g rfl;have N:=Own.lt d g' rfl;refine⟨g',C',w',q,?_,by simp[h.eq],λi s x p f=> ?_,Own.nil_ _ _ _ _,by simp[aG],Nat.le_trans (Nat.le_trans h.ext.b.size c.b.size) l.size,Nat.le_refl _,dU (h.ext.trans' c) l (λk E=>by injection E with E;subst E;exact D.1)⟩
 .have e:S.length+1+1=(S++[z]).length+1:=by simp
  rw[<- e];unfold AQ;simpa using d
 .have keep:∀{s:SV}{x:List Int},aF w s x->(∀b,aG s.a=some b->b<w.heap.size/\b≠g)->aF w' s x/\∀b,aG s.a=some b->b<w'.heap.size/\b≠g':=by
   intro s x F t;refine⟨(F.ext c).kb (λb o m=> ?_),λb m=> ?_⟩
   .obtain⟨G,H⟩:=t b m;exact SG l (Nat.lt_of_lt_of_le G c.b.size) (by intro e;injection e with e;exact H e) o
   .obtain⟨G,H⟩:=t b m;refine⟨Nat.lt_of_lt_of_le G (Nat.le_trans c.b.size l.size),λe=> ?_⟩;rcases A with n|n
    .injection n with n;exact H (e.trans n)
    .injection n with n;have:=c.b.size;simp at n;omega
  by_cases K:i<S.length
  .rw[List.getElem?_append_left K]at p;rw[List.getElem?_append_left (by rw[<- h.eq];exact K)]at f;obtain⟨F,t⟩:=h.ok i s x p f;exact keep F (λb m=>⟨Nat.lt_of_lt_of_le (t b m).1 h.b1,(t b m).2⟩)
  .have I:i=S.length:=by
    have:=(List.getElem?_eq_some_iff.1 p).1;simp at this;omega
   subst I;rw[List.getElem?_append_right (Nat.le_refl _)]at p;rw[List.getElem?_append_right (by rw[h.eq];exact Nat.le_refl _),h.eq]at f;simp at p f;subst p f;exact keep (aN.ints h.last) (λb m=>⟨(Own.lt h.last b m).2,λe=>h.lne (by rw[m,e])⟩)
def Cj(w0 w:World)(A:Option Addr)(N C:Nat)(ls:List (List Int)):Prop:=
 ∃g S,A=some ⟨g,0,none⟩/\AQ w w0.heap.size A N C S/\S.length=N/\ls.length=N/\∀(i:Nat)s x,S[i]? =some s->ls[i]? =some x->aF w s x/\∀b,aG s.a=some b->b<w.heap.size/\b≠g
theorem LbS.done{m w:World}{g C B:Nat}{S:List SV}{L:List (List Int)}{z:SV}{f:List Int}(h:LbS m w g C B S L z f):Cj m w (some ⟨g,0,none⟩) (S.length+1) C (L++[f]):=by
 refine⟨g,S++[z],rfl,h.own,by simp,by simp[h.eq],λi s x c a=> ?_⟩;by_cases k:i<S.length
 .rw[List.getElem?_append_left k]at c;rw[List.getElem?_append_left (by rw[<- h.eq];exact k)]at a;obtain⟨n,l⟩:=h.ok i s x c a;exact⟨n,λb d=>⟨Nat.lt_of_lt_of_le (l b d).1 h.b1,(l b d).2⟩⟩
 .have j:i=S.length:=by
   have:=(List.getElem?_eq_some_iff.1 c).1;simp at this;omega
  subst j;rw[List.getElem?_append_right (Nat.le_refl _)]at c;rw[List.getElem?_append_right (by rw[h.eq];exact Nat.le_refl _),h.eq]at a;simp at c a;subst c a;exact⟨aN.ints h.last,λb d=>⟨(Own.lt h.last b d).2,λe=>h.lne (by rw[d,e])⟩⟩
def SQ(w:World)(ls:List (List Int))(e:Ending)(w':World):Prop:=∃A N C,e= .returned (.slice A N C)/\Cj w w' A N C ls/\Ext w w'
def SI(w:World)(l:List Int)(gh:Nat)(s3 s10:Value)(wx:World):Prop:=
 ∃(g C B k:Nat)(S:List SV)(L:List (List Int))(z:SV)(cur:List Int),gh+k=l.length/\s3= .slice (some ⟨g,0,none⟩) (S.length+1) C/\s10= .int .i64 k/\S.length<=k/\z.n<=k/\Hid (LbS w wx g C B S L z cur)/\Hid (mP l=lbG L cur (l.drop k))
theorem aMw(l:List Int)(A:Option Addr)(n c:Nat)(w:World)(hi:aF w ⟨A,n,c⟩ l)(a6:l.length<=1000000):Calls prog 83 #[.slice A n c] w (SQ w (mP l)):=by
 have Q:=hi.len.1;subst Q;have HI:=ah hi;clear hi;have F:Ext w (w.alloc (.cells #[.slice none 0 0] 22)):=(Ext.refl _).aC _
 have G:Hid (LbS w (w.alloc (.cells #[.slice none 0 0] 22)) w.heap.size 1 (w.heap.size+1) [] [] l7 []):=ah ⟨by
  refine⟨rfl,.inr ⟨w.heap.size,1,#[.slice none 0 0],rfl,Nat.le_refl _,heap_alloc_new w _,Nat.le_refl _,by simp only[maxLen];omega,rfl,rfl⟩⟩,rfl,λi s x h=>by simp at h,Own.nil_ _ _ _ _,by simp[aG],by omega,by simp,F⟩
 go_enter func83,ntmps83;go_wp2_with fail;clear F;go_loopg[3,10] l.length (λgh s3 R wx=>SI w l gh s3 R wx);exact⟨_,1,_,0,[],[],l7,[],by omega,rfl,rfl,by simp,Nat.le_refl _,G,rfl⟩;obtain⟨g,C,B,k,S,L,z,q,hg,rfl,rfl,ab,T,H,E⟩:=hrel;clear G;by_cases N:k<l.length
 .obtain⟨b,o,hA,ad⟩:=(HI.out.ext H.out.ext).at_ N;subst hA;have O:Hid (lbG L q (l.drop k)=if l[k]=46 then lbG (L++[q]) [] (l.drop (k+1))else lbG L (q++[l[k]]) (l.drop (k+1))):=ah (by rw[drop_at l k N];rfl);generalize l[k]=x at*;by_cases r:x=46
  .have D:=aI E (O.out.trans (if_pos r));have e1:(x==46)=true:=(by rw[beq_iff_eq];exact r);obtain⟨g',C',w',m,H2⟩:=H.out.more (by omega);have U:=ah H2;have I:(S++[z]).length=S.length+1:=(by simp);clear H E O r H2;go_wp2_with(at_builtin;refine dH rfl _ _ _ rfl _ _ rfl rfl _ _ m ?_);go_roundg (l.length - (k+1));exact⟨g',C',_,k+1,S++[z],L++[q],l7,[],by omega,by rw[I],by go_num,by rw[I];omega,Nat.zero_le _,U,D⟩;omega
  .have D:=aI E (O.out.trans (if_neg r));have e1:(x==46)=false:=(by rw[aP];exact r);have t:=Own.lt H.out.own g rfl;have J:wr.cell? ⟨g,S.length,none⟩=some (.slice z.a z.n z.c):=by
    have:=World.ownsRow.cellAt H.out.own S.length (by omega);rw[this];simp
   have V:=λW(h:Ext wr W)=>h.b.frozen (p:=⟨g,S.length,none⟩) t.2
   have K:wr.frozen? ⟨g,S.length,none⟩=false:=World.ownsRow.frozenAt H.out.own S.length;obtain⟨za,X,zc⟩:=z;have am:(0:Int)<=(S.length:Int):=bI _;simp only at J T;have d:Ext wr (wr.alloc (.cells #[.int .i64 x] 3)):=(Ext.refl _).aC _;obtain⟨Y,c5,P,m,j,f,Z⟩:=fO (Own.ext H.out.last d) (iC wr x) (by simp only;omega) (Nat.le_trans H.out.b1 d.b.size);simp only at m j f Z;have M:Ext w P:=dU (H.out.ext.trans' d) f (λk N=>Nat.le_trans H.out.b0 (Own.lt H.out.last k N).1);have y:aG Y≠some g:=by
    rcases Z with h|h
    .rw[h];exact H.out.lne
    .rw[h];intro e;injection e with e;have:=d.b.size;omega
   have U:=ah (H.out.turn (w':=P) (z':=⟨Y,X+1,c5⟩) (λb hb Q=>by
    have h1:=d.b.block b hb;have h2:=f.block b (Nat.lt_of_lt_of_le hb d.b.size) Q
    rw[h2,h1]) (Nat.le_trans d.b.size f.size) j y M)
   have an:P.cell? ⟨g,S.length,none⟩=some (.slice za X zc):=by
    rw[SG f (Nat.lt_of_lt_of_le t.2 d.b.size) (λe=>H.out.lne e.symm),d.b.cell (p:=⟨g,S.length,none⟩) t.2,J]
   have ao:P.frozen? ⟨g,S.length,none⟩=false:=by
    have h2:=f.block g (Nat.lt_of_lt_of_le t.2 d.b.size) (λe=>H.out.lne e.symm);have h1:=d.b.block g t.2;unfold World.frozen? at K |-;rw[h2,h1];exact K
   clear H E O d j f Z M y V r;go_wp2_with(at_builtin;refine dH rfl _ _ _ rfl _ _ rfl rfl _ _ m ?_);go_roundg (l.length - (k+1));exact⟨g,C,B,k+1,S,L,⟨Y,X+1,c5⟩,q++[x],by omega,rfl,by go_num,by omega,by simp only;omega,U,D⟩;omega
 .have HF:Hid (mP l=L++[q]):=ah (by rw[E.out,bQ l k (by omega)];rfl);have hd:=H.out.done;have hx:=H.out.ext;clear H E;go_wp2;go_ret;exact⟨_,_,_,rfl,by rw[HF.out];exact hd,hx⟩
theorem aMq(l:List Int)(A:Option Addr)(n c:Nat)(w:World)(Y:aF w ⟨A,n,c⟩ l)(a4:l.length<=1000000):Calls prog 59 #[.slice A n c] w (SQ w (mP l)):=by
 have hn:=Y.len.1;subst hn;have HI:=ah Y;clear Y;have F:Ext w (w.alloc (.cells #[.slice none 0 0] 22)):=(Ext.refl _).aC _
 have G:Hid (LbS w (w.alloc (.cells #[.slice none 0 0] 22)) w.heap.size 1 (w.heap.size+1) [] [] l7 []):=ah ⟨by
  refine⟨rfl,.inr ⟨w.heap.size,1,#[.slice none 0 0],rfl,Nat.le_refl _,heap_alloc_new w _,Nat.le_refl _,by simp only[maxLen];omega,rfl,rfl⟩⟩,rfl,λi s x h=>by simp at h,Own.nil_ _ _ _ _,by simp[aG],by omega,by simp,F⟩
 go_enter func59,ntmps59;go_wp2_with fail;clear F;go_loopg[3,10] l.length (λgh s3 Q wx=>SI w l gh s3 Q wx);exact⟨_,1,_,0,[],[],l7,[],by omega,rfl,rfl,by simp,Nat.le_refl _,G,rfl⟩;obtain⟨g,C,B,k,S,L,z,q,hg,rfl,rfl,aa,R,H,E⟩:=hrel;clear G;by_cases Z:k<l.length
 .obtain⟨b,o,hA,ac⟩:=(HI.out.ext H.out.ext).at_ Z;subst hA;have O:Hid (lbG L q (l.drop k)=if l[k]=46 then lbG (L++[q]) [] (l.drop (k+1))else lbG L (q++[l[k]]) (l.drop (k+1))):=ah (by rw[drop_at l k Z];rfl);generalize l[k]=x at*;by_cases r:x=46
  .have D:=aI E (O.out.trans (if_pos r));have e1:(x==46)=true:=(by rw[beq_iff_eq];exact r);obtain⟨g',C',w',m,H2⟩:=H.out.more (by omega);have T:=ah H2;have I:(S++[z]).length=S.length+1:=(by simp);clear H E O r H2;go_wp2_with(at_builtin;refine dH rfl _ _ _ rfl _ _ rfl rfl _ _ m ?_);go_roundg (l.length - (k+1));exact⟨g',C',_,k+1,S++[z],L++[q],l7,[],by omega,by rw[I],by go_num,by rw[I];omega,Nat.zero_le _,T,D⟩;omega
  .have D:=aI E (O.out.trans (if_neg r));have e1:(x==46)=false:=(by rw[aP];exact r);have J:=Own.lt H.out.own g rfl;have K:wr.cell? ⟨g,S.length,none⟩=some (.slice z.a z.n z.c):=by
    have:=World.ownsRow.cellAt H.out.own S.length (by omega);rw[this];simp
   have M:=λW(h:Ext wr W)=>h.b.frozen (p:=⟨g,S.length,none⟩) J.2
   have U:wr.frozen? ⟨g,S.length,none⟩=false:=World.ownsRow.frozenAt H.out.own S.length;obtain⟨za,V,zc⟩:=z;have al:(0:Int)<=(S.length:Int):=bI _;simp only at K R;have HZ:=ah (aN.ints H.out.last);obtain⟨A6,c6,w6,d,f,EG,_⟩:=fO (n:=0) (c:=0) (l:=[]) (Own.nil_ wr wr.heap.size 3 1) HZ.out (by simp only;omega) (Nat.le_refl _);simp only[Nat.zero_add,List.nil_append]at d f;have N:Ext wr w6:=dU (Ext.refl _) EG (by simp[aG]);obtain⟨X,c5,P,m,j,t,_⟩:=xu f N x (by omega);have y:aG X≠some g:=by
    intro e;have:=(Own.lt j g e).1;omega
   have T:=ah (H.out.turn (w':=P) (z':=⟨X,V+1,c5⟩) (λb hb _=>t.b.block b hb) t.b.size (RX j H.out.b1) y (H.out.ext.trans' t));have ao:P.cell? ⟨g,S.length,none⟩=some (.slice za V zc):=(by rw[t.b.cell (p:=⟨g,S.length,none⟩) J.2,K]);have ap:P.frozen? ⟨g,S.length,none⟩=false:=(by rw[M P t];exact U);clear H E O N f EG j t y M r HZ
   go_wp2_with(at_builtin;first
    |(refine dH rfl _ _ _ rfl _ _ rfl rfl _ _ d ?_;clear d)
    |(refine dH rfl _ _ _ rfl _ _ rfl rfl _ _ m ?_;clear m))
   go_roundg (l.length - (k+1));exact⟨g,C,B,k+1,S,L,⟨X,V+1,c5⟩,q++[x],by omega,rfl,by go_num,by omega,by simp only;omega,T,D⟩;omega
 .have HF:Hid (mP l=L++[q]):=ah (by rw[E.out,bQ l k (by omega)];rfl);have hd:=H.out.done;have hx:=H.out.ext;clear H E;go_wp2;go_ret;exact⟨_,_,_,rfl,by rw[HF.out];exact hd,hx⟩
end Go.Proofs.YtlmkgaoakcjlnaaGreatDoor
