/- Part Bx17. -/
import Derived.Test.YtlmkgaoakcjlnaaGreatDoorBx16
import Derived.Deep.LoopGhost
open Go.Proofs.Tryz
namespace Go.Proofs.YtlmkgaoakcjlnaaGreatDoor
set_option maxHeartbeats 25600000
set_option maxRecDepth 100000
open Go.RowKit
variable (t:TV)(T:aj)(l:List Int)(A:Option Addr)(n c:Nat)(w:World)
def um(x:Int):Int:=if 65<=x/\x<=90 then x+32 else x
def fU(l:List Int):List Int:=l.map um
theorem Dq{l:List Int}(h:IsB l):IsB (fU l):=by
 intro x a;unfold fU at a;rw[List.mem_map]at a;obtain⟨y,b,rfl⟩:=a;have:=h y b;unfold um;split<;>omega
theorem Dp:(fU l).length=l.length:=List.length_map _
def isX(l:List Int):Bool:=decide (4<=l.length)&&decide (fU (l.take 4)=[120,110,45,45])
def jQ(l:List Int):Bool:= !l.any (λc=>decide (c<0)||decide (127<c))
noncomputable def alE(l:List Int):List Int×Int:=
 if l.length=0 then([],10)else if jQ l=true then(if 63<l.length then([],11)else(l,0))else if(jO l).2≠0 then([],(jO l).2)else if 63<(jO l).1.length+4 then([],11)else([120,110,45,45]++(jO l).1,0)
noncomputable def alD(s:List Int):List Int×Int:=
 if s.length=0 then([],10)else if s.any (λb=>decide (127<b))then([],12)else if 63<s.length then([],11)else if isX s=false then(s,0)
 else if(pdU (fU (s.drop 4))).2≠0 then([],(pdU (fU (s.drop 4))).2)else if jQ (pdU (fU (s.drop 4))).1=true then([],12)
 else if(alE (pdU (fU (s.drop 4))).1).2≠0\/(alE (pdU (fU (s.drop 4))).1).1≠fU s then([],12)else((pdU (fU (s.drop 4))).1,0)
def RbS(w:World)(g n:Nat)(f:Nat->Int):Prop:=g<w.heap.size/\∀k,k<n->w.cell? ⟨g,k,none⟩=some (.int .u8 (f k))/\w.frozen? ⟨g,k,none⟩=false
theorem RbS.set{w:World}{g n a:Nat}{f:Nat->Int}{x:Int}(h:RbS w g n f)(c:a<n):RbS (w.setCell ⟨g,a,none⟩ (.int .u8 x)) g n (λk=>if k=a then x else f k):=
 ⟨by simpa using h.1,λk b=>⟨by
  by_cases e:k=a
  .subst e;rw[World.cell?_setCell_same w _ (.int .u8 x) (h.2 k b).1];simp
  .rw[World.cell?_setCell_other w _ _ (.int .u8 x) (by simp;try omega),(h.2 k b).1]
   simp[e],by simpa using(h.2 k b).2⟩⟩
theorem RbS.congr{w:World}{g n:Nat}{p q:Nat->Int}(h:RbS w g n p)(e:∀k,k<n->p k=q k):RbS w g n q:=
 ⟨h.1,λk a=>by rw[<- e k a];exact h.2 k a⟩
def aM3(w:World)(l:List Int)(G:Nat)(g:Nat)(s10:Value)(wx:World):Prop:=
 ∃k:Nat,g+k=l.length/\s10=.int .i64 k/\Hid (RbS wx G l.length (λj=>if j<k then um (l.getD j 0)else l.getD j 0))/\Hid (Ext w wx)
theorem Nq(F:IsB l)(X:l.length<=4096)(w:World):cE' 228 #[.string (sB l)] w (.string (sB (fU l))):=by
 obtain⟨K,L,p,a,q,H,r⟩:=GU (w:=w) F (by omega);have M:=ah F
 have h:Hid (RbS L w.heap.size l.length (λj=>if j<0 then um (l.getD j 0)else l.getD j 0)):=ah ⟨H,λk m=>⟨by
  obtain⟨b,o,B,I⟩:=a.at_ m;injection B with B;injection B with s N;subst s N;rw[Nat.zero_add]at I;rw[I];show _=some (Value.int .u8 (if k<0 then um (l.getD k 0)else l.getD k 0))
  rw[nN' (by omega),getD_lt l k 0 m],r k m⟩⟩
 have f:=a.len;have t:=f.2;have y:=ah q;go_enter func228,ntmps228;go_wp2_with fail;clear F p a q H r f;obtain⟨G,J⟩:=eY' w.heap.size;rw[J]at h |-;have O:Hid (w.heap.size<=G):=ah (by omega);clear J;go_loopg[10] l.length (λP C Q=>aM3 w l G P C Q);exact⟨0,by omega,rfl,h,y⟩;obtain⟨k,V,rfl,g,z⟩:=hrel;clear h y;by_cases m:k<l.length
 .have D:=(g.out.2 k m).1;simp only[Nat.lt_irrefl,if_false]at D;have R:=(g.out.2 k m).2;have W:=wY M.out k;have c:Hid (um (l.getD k 0)=if 65<=l.getD k 0/\l.getD k 0<=90 then l.getD k 0+32 else l.getD k 0):=rfl;by_cases n:65<=l.getD k 0/\l.getD k 0<=90
  .have d:Hid (RbS (wr.setCell ⟨G,k,none⟩ (.int .u8 (l.getD k 0+32))) G l.length (λj=>if j<k+1 then um (l.getD j 0)else l.getD j 0)):=ah ((g.out.set m).congr (λj _=>by
    by_cases e:j=k
    .subst e;show(if j=j then l.getD j 0+32 else _)=if j<j+1 then um (l.getD j 0)else l.getD j 0
     rw[pP' rfl,pP' (Nat.lt_succ_self j),c.out,pP' n]
    .have s:(j<k+1)=(j<k):=by rw[eq_iff_iff];omega
     simp only[e,if_false,s]))
   have E:Hid (Ext w (wr.setCell ⟨G,k,none⟩ (.int .u8 (l.getD k 0+32)))):=ah (z.out.kQ O.out _);generalize l.getD k 0=x at*;clear g z c;go_wp2_with fail;rw[show x+97-65=x+32 by omega];go_roundg (l.length-(k+1));exact⟨k+1,by omega,by go_num,d,E⟩;omega
  .have d:Hid (RbS wr G l.length (λj=>if j<k+1 then um (l.getD j 0)else l.getD j 0)):=ah (g.out.congr (λj _=>by
    by_cases e:j=k
    .subst e;show(if j<j then um (l.getD j 0)else l.getD j 0)=if j<j+1 then um (l.getD j 0)else l.getD j 0
     rw[nN' (Nat.lt_irrefl j),pP' (Nat.lt_succ_self j),c.out,nN' n]
    .have s:(j<k+1)=(j<k):=by rw[eq_iff_iff];omega
     simp only[s]))
   generalize l.getD k 0=x at*;clear g c;by_cases S:65<=x
   .have T:90<x:=(by omega);go_wp2;go_roundg (l.length-(k+1));exact⟨k+1,by omega,by go_num,d,z⟩;omega
   .go_wp2;go_roundg (l.length-(k+1));exact⟨k+1,by omega,by go_num,d,z⟩;omega
 .have a:ou wr ⟨some ⟨G,0,none⟩,l.length,K⟩ (fU l):=⟨⟨(Dp l).symm,by rw[Dp];exact t.1,t.2⟩,λi x n=>⟨G,0,rfl,by
   have A:=(List.getElem?_eq_some_iff.1 n).1;rw[Dp]at A;rw[Nat.zero_add,(g.out.2 i A).1];show some (Value.int .u8 (if i<k then um (l.getD i 0)else l.getD i 0))=_
   rw[pP' (by omega)];unfold fU at n;rw[List.getElem?_map,List.getElem?_eq_getElem A]at n;rw[getD_lt l i 0 A]
   simpa using n⟩⟩
  have p:=CZ a;have U:=z.out;clear a g;go_wp2;go_ret;exact⟨rfl,U⟩
def aMF(w:World)(l:List Int)(g:Nat)(s3 s4:Value)(wx:World):Prop:=
 ∃k:Nat,g+k=l.length/\s4=.int .i64 k/\s3=.string (sB (fU (l.take k)))/\Ext w wx
theorem Nl(o:IsB l)(D:l.length<=4096)(w:World):cE' 120 #[.string (sB l)] w (.string (sB (fU l))):=by
 have m:=ah o;clear o;go_enter func120,ntmps120;go_wp2;go_loopg[3,4] l.length (λp q r s=>aMF w l p q r s);exact⟨0,by omega,rfl,rfl,eR'⟩;obtain⟨k,B,rfl,rfl,d⟩:=hrel;have f:=ah d;clear d;by_cases g:k<l.length
 .have h:=ixc m.out g wr;have C:=wY m.out k;have c:Hid (fU (l.take k)++[um (l.getD k 0)]=fU (l.take (k+1))):=ah (by unfold fU;rw[tS' g,getD_lt l k 0 g,List.map_append];rfl);have a:Hid (um (l.getD k 0)=if 65<=l.getD k 0/\l.getD k 0<=90 then l.getD k 0+32 else l.getD k 0):=rfl;have t:(fU (l.take k)).length<=4096:=by rw[Dp,List.length_take];omega
  generalize l.getD k 0=x at*;have b:∀n,Ext w (wr.alloc (.cells n 5)):=λn=>f.out.aB _
  by_cases h:65<=x/\x<=90
  .rw[a.out,pP' h]at c;have i:=yY wr #[.int .u8 (x+32)] [x+32] 1 rfl rfl (by omega);have j:[x+32].length<=1:=lr' _;generalize[x+32]=E at*;generalize fU (l.take k)=S at*;clear a f;go_wp2;go_roundg (l.length-(k+1));exact⟨k+1,by omega,by go_num,by rw[c.out],b _⟩;omega
  .rw[a.out,nN' h]at c;have i:=yY wr #[.int .u8 x] [x] 1 rfl rfl (by omega);have j:[x].length<=1:=lr' _;generalize[x]=E at*;generalize fU (l.take k)=S at*;clear a f;by_cases y:65<=x
   .have z:90<x:=(by omega);go_wp2;go_roundg (l.length-(k+1));exact⟨k+1,by omega,by go_num,by rw[c.out],b _⟩;omega
   .go_wp2;go_roundg (l.length-(k+1));exact⟨k+1,by omega,by go_num,by rw[c.out],b _⟩;omega
 .have A:l.take k=l:=tL' (by omega);rw[A];have d:=f.out;go_wp2;go_ret;exact⟨rfl,d⟩
def Uu(w:World)(l:List Int)(g:Nat)(s7:Value)(wx:World):Prop:=
 ∃k:Nat,g+k=l.length/\s7=.int .i64 k/\wx=w/\Hid ((l.take k).any (λc=>decide (c<0)||decide (127<c))=false)
theorem UC(g:IsB l)(w:World):cE' 158 #[.string (sB l)] w (.bool (isX l)):=by
 have c:Hid (isX l=(decide (4<=l.length)&&decide (fU (l.take 4)=[120,110,45,45]))):=rfl;generalize isX l=V at*;by_cases d:4<=l.length
 .have h:=ah (Nq (l.take 4) (xO g 4) (by rw[List.length_take];omega) w);have b:=Bh w (l:=l) (k:=4) d;have f:(Instr.slice 9 (.string (sB l)) none (some (.int .i64 4)) none).run prog w=.ok (.string (sB (l.take 4))) w:=b;have i:=rV (Dq (xO g 4)) (show IsB [120,110,45,45]from by intro x j;simp at j;omega);have o:(⟨#[120,110,45,45]⟩:ByteArray)=sB [120,110,45,45]:=rfl;have m:decide (4<=(l.length:Int))=true:=dT';have a:decide (4<=l.length)=true:=by rw[au];exact d
  rw[a,Bool.true_and]at c;rw[<- c.out]at i;clear b a;generalize l.take 4=t at*;go_enter func158,ntmps158;go_wp2_with(refine h.out.mono ?_;rintro e p⟨rfl,n⟩);go_ret;exact⟨rfl,n⟩
 .have a:decide (4<=l.length)=false:=by rw[aA];exact d
  rw[a,Bool.false_and]at c;rw[c.out];have m:decide (4<=(l.length:Int))=false:=dF';go_enter func158,ntmps158;go_wp2;go_ret;exact⟨rfl,eR'⟩
theorem Ns(g:aF w ⟨A,n,c⟩ l):cW' 157 #[.slice A n c] w (.bool (jQ l)):=by
 have h:Hid (jQ l= !l.any (λc=>decide (c<0)||decide (127<c))):=rfl;generalize jQ l=V at*;have r:=g.len.2;have s:=g.len.1;subst s;have t:=ah g;clear g;go_enter func157,ntmps157;go_wp2;go_loopg[7] l.length (λy z B=>Uu w l y z B);exact⟨0,by omega,rfl,rfl,rfl⟩;obtain⟨k,G,rfl,rfl,i⟩:=hrel;by_cases j:k<l.length
 .obtain⟨b,o,C,D⟩:=t.out.at_ j;subst C;have m:=ah (y7 (f:=λc=>decide (c<0)||decide (127<c)) j);have a:=ah (anyM (f:=λc=>decide (c<0)||decide (127<c)) j);generalize l[k]=x at*;by_cases E:x<0
  .have d:Hid (V=false):=ah (by rw[h.out,a.out (by simp[E])];rfl);go_wp2;go_ret;exact⟨aP d.out.symm,rfl⟩
  by_cases p:127<x
  .have d:Hid (V=false):=ah (by rw[h.out,a.out (by simp[p])];rfl);go_wp2;go_ret;exact⟨aP d.out.symm,rfl⟩
  .have q:Hid ((l.take (k+1)).any (λc=>decide (c<0)||decide (127<c))=false):=ah (by rw[m.out,i.out];simp;omega);go_wp2;go_roundg (l.length-(k+1));exact⟨k+1,by omega,by go_num,rfl,q⟩;omega
 .have F:l.take k=l:=tL' (by omega);rw[F]at i;have d:Hid (V=true):=ah (by rw[h.out,i.out];rfl);go_wp2;go_ret;exact⟨aP d.out.symm,rfl⟩
theorem UA(g:IsB l)(w:World):cE' 61 #[.string (sB l)] w (.bool (isX l)):=by
 have c:Hid (isX l=(decide (4<=l.length)&&decide (fU (l.take 4)=[120,110,45,45]))):=rfl;generalize isX l=V at*;by_cases d:4<=l.length
 .have h:=ah (Nl (l.take 4) (xO g 4) (by rw[List.length_take];omega) w);have b:=Bh w (l:=l) (k:=4) d;have f:(Instr.slice 9 (.string (sB l)) none (some (.int .i64 4)) none).run prog w=.ok (.string (sB (l.take 4))) w:=b;have i:=rV (Dq (xO g 4)) (show IsB [120,110,45,45]from by intro x j;simp at j;omega);have o:(⟨#[120,110,45,45]⟩:ByteArray)=sB [120,110,45,45]:=rfl;have m:decide (4<=(l.length:Int))=true:=dT';have a:decide (4<=l.length)=true:=by rw[au];exact d
  rw[a,Bool.true_and]at c;rw[<- c.out]at i;clear b a;generalize l.take 4=t at*;go_enter func61,ntmps61;go_wp2_with(refine h.out.mono ?_;rintro e p⟨rfl,n⟩);go_ret;exact⟨rfl,n⟩
 .have a:decide (4<=l.length)=false:=by rw[aA];exact d
  rw[a,Bool.false_and]at c;rw[c.out];have m:decide (4<=(l.length:Int))=false:=dF';go_enter func61,ntmps61;go_wp2;go_ret;exact⟨rfl,eR'⟩
theorem Nr(g:aF w ⟨A,n,c⟩ l):cW' 60 #[.slice A n c] w (.bool (jQ l)):=by
 have h:Hid (jQ l= !l.any (λc=>decide (c<0)||decide (127<c))):=rfl;generalize jQ l=V at*;have r:=g.len.2;have s:=g.len.1;subst s;have t:=ah g;clear g;go_enter func60,ntmps60;go_wp2;go_loopg[7] l.length (λy z B=>Uu w l y z B);exact⟨0,by omega,rfl,rfl,rfl⟩;obtain⟨k,G,rfl,rfl,i⟩:=hrel;by_cases j:k<l.length
 .obtain⟨b,o,C,D⟩:=t.out.at_ j;subst C;have m:=ah (y7 (f:=λc=>decide (c<0)||decide (127<c)) j);have a:=ah (anyM (f:=λc=>decide (c<0)||decide (127<c)) j);generalize l[k]=x at*;by_cases E:x<0
  .have d:Hid (V=false):=ah (by rw[h.out,a.out (by simp[E])];rfl);go_wp2;go_ret;exact⟨aP d.out.symm,rfl⟩
  by_cases p:127<x
  .have d:Hid (V=false):=ah (by rw[h.out,a.out (by simp[p])];rfl);go_wp2;go_ret;exact⟨aP d.out.symm,rfl⟩
  .have q:Hid ((l.take (k+1)).any (λc=>decide (c<0)||decide (127<c))=false):=ah (by rw[m.out,i.out];simp;omega);go_wp2;go_roundg (l.length-(k+1));exact⟨k+1,by omega,by go_num,rfl,q⟩;omega
 .have F:l.take k=l:=tL' (by omega);rw[F]at i;have d:Hid (V=true):=ah (by rw[h.out,i.out];rfl);go_wp2;go_ret;exact⟨aP d.out.symm,rfl⟩
def lbG:List (List Int)->List Int->List Int->List (List Int)
 |L,cur,[]=>L++[cur]
 |L,cur,c::r=>if c=46 then lbG (L++[cur]) [] r else lbG L (cur++[c]) r
def nK(l:List Int):List (List Int):=lbG [] [] l
theorem aF.kb{w w':World}{s:SV}{l:List Int}(h:aF w s l)(g:∀b o,aG s.a=some b->w'.cell? ⟨b,o,none⟩=w.cell? ⟨b,o,none⟩):aF w' s l:=
 ⟨h.1,λi x d=>by
  obtain⟨b,o,c,f⟩:=h.2 i x d
  exact⟨b,o,c,by rw[g b _ (by rw[c];rfl)];exact f⟩⟩
theorem UK{w w':World}{row:Option Nat}(h:w.grownBy w' row){b:Nat}(a:b<w.heap.size)(c:some b≠row)(o:Nat):w'.cell? ⟨b,o,none⟩=w.cell? ⟨b,o,none⟩:=by
 unfold World.cell?;rw[h.block b a c]
abbrev BG(w:World)(base:Nat)(A:Option Addr)(n c:Nat)(S:List SV):Prop:=Own w base 22 1 A n c (S.map SV.v)
structure LbS(w0 w:World)(g C B:Nat)(S:List SV)(L:List (List Int))(z:SV)(cur:List Int):Prop where
 own:BG w w0.heap.size (some ⟨g,0,none⟩) (S.length+1) C (S++[z])
 eq:S.length=L.length
 ok:∀(i:Nat)s x,S[i]? =some s->L[i]? =some x->aF w s x/\∀b,aG s.a=some b->b<B/\b≠g
 last:aK w B z.a z.n z.c cur
 lne:aG z.a≠some g
 b0:w0.heap.size<=B
 b1:B<=w.heap.size
 ext:Ext w0 w
theorem LbS.turn{p w w':World}{g C B:Nat}{S:List SV}{L:List (List Int)}{z z':SV}{A f:List Int}(h:LbS p w g C B S L z A)(E:∀b,b<w.heap.size->some b≠aG z.a->w'.heap[b]? =w.heap[b]?)(D:w.heap.size<=w'.heap.size)
 (P:aK w' B z'.a z'.n z'.c f) (F:aG z'.a≠some g) (Q:Ext p w'):LbS p (w'.setCell ⟨g,S.length,none⟩ z'.v) g C B S L z' f:=by
 have k:=Own.lt h.own g rfl;have j:BG w' p.heap.size (some ⟨g,0,none⟩) (S.length+1) C (S++[z]):=by
  refine⟨h.own.1,?_⟩;rcases h.own.2 with⟨G,_⟩|⟨R,H,I,d,m,J,K⟩
  .cases G
  .injection d with d M q;injection d with d;injection d with d;subst d q;refine .inr ⟨g,C,I,rfl,m,?_,K⟩;rw[E g k.2 (λe=>h.lne e.symm)];exact J
 have l:=World.ownsRow.stored j S.length z'.v;refine⟨?_,h.eq,λi s x N r=>?_,?_,F,h.b0,by simp;exact Nat.le_trans h.b1 D,Q.kQ k.1 _⟩
 .have:=l.1;unfold BG Own;simpa using this
 .obtain⟨d,m⟩:=h.ok i s x N r;refine⟨d.kb (λb o O=>?_),m⟩;obtain⟨t,y⟩:=m b O;rw[World.cell?_setCell_far _ _ _ _ (λe=>y e.symm)];unfold World.cell?;rw[E b (lt' t h.b1) (λe=>by have:=(Own.lt h.last b e.symm).1;omega)]
 .exact World.ownsRow.kept P l.2 (by
   rw[DL]
   exact .inr F)
theorem LbS.more{M w:World}{g C B:Nat}{S:List SV}{L:List (List Int)}{z:SV}{y:List Int}(h:LbS M w g C B S L z y)(P:S.length<=1099511000000):
 ∃g' C' w',(∀ty,(Builtin.append_ #[48,48] ty #[.slice (some ⟨g,0,none⟩) (S.length+1) C,.slice (some ⟨w.heap.size,0,none⟩) 1 1]).run prog (w.alloc (.cells #[.slice none 0 0] 22))=.ok (.slice (some ⟨g',0,none⟩) (S.length+1+1) C') w')/\LbS M w' g' C' w'.heap.size (S++[z]) (L++[y]) lS []:=by
 have c:Ext w (w.alloc (.cells #[.slice none 0 0] 22)):=eR'.aB _;obtain⟨O,C',w',q,d,l,A⟩:=AU (T:=48) underlying48 infoSl rfl (by omega) (Own.ext h.own c) (some ⟨w.heap.size,0,none⟩) 1 1 [.slice none 0 0] rfl
  (λj u r=>by
   refine⟨w.heap.size,0,rfl,?_⟩;rw[Nat.zero_add,World.cell?_alloc_new]
   match j,r with
   |0,r=>simpa using r
   |j+1,r=>simp at r)
  (by intro u J;simp at J;subst J;rfl) (by simp only[maxLen];omega) (by omega) (Nat.le_trans h.ext.b.size c.b.size)
 obtain⟨g',rfl⟩:=Own.some_ d (by omega);have D:=Own.lt h.own g rfl;have N:=Own.lt d g' rfl;refine⟨g',C',w',q,?_,by simp[h.eq],λi s x p f=>?_,Own.nil_ _ _ _ _,by simp[aG],Nat.le_trans (Nat.le_trans h.ext.b.size c.b.size) l.size,lr' _,dW (h.ext.trans' c) l (λk E=>by injection E with E;subst E;exact D.1)⟩
 .have e:S.length+1+1=(S++[z]).length+1:=by simp
  rw[<- e];unfold BG;simpa using d
 .have keep:∀{s:SV}{x:List Int},aF w s x->(∀b,aG s.a=some b->b<w.heap.size/\b≠g)->aF w' s x/\∀b,aG s.a=some b->b<w'.heap.size/\b≠g':=by
   intro s x F t;refine⟨(F.ext c).kb (λb o m=>?_),λb m=>?_⟩
   .obtain⟨G,H⟩:=t b m;exact UK l (lt' G c.b.size) (by intro e;injection e with e;exact H e) o
   .obtain⟨G,H⟩:=t b m;refine⟨lt' G (Nat.le_trans c.b.size l.size),λe=>?_⟩;rcases A with n|n
    .injection n with n;exact H (e.trans n)
    .injection n with n;have:=c.b.size;simp at n;omega
  by_cases K:i<S.length
  .rw[List.getElem?_append_left K]at p;rw[List.getElem?_append_left (by rw[<- h.eq];exact K)]at f;obtain⟨F,t⟩:=h.ok i s x p f;exact keep F (λb m=>⟨lt' (t b m).1 h.b1,(t b m).2⟩)
  .have I:i=S.length:=by
    have:=(List.getElem?_eq_some_iff.1 p).1;simp at this;omega
   subst I;rw[List.getElem?_append_right (lr' _)]at p;rw[List.getElem?_append_right (by rw[h.eq];exact lr' _),h.eq]at f;simp at p f;subst p f;exact keep (aK.ints h.last) (λb m=>⟨(Own.lt h.last b m).2,λe=>h.lne (by rw[m,e])⟩)
def Dt(w0 w:World)(A:Option Addr)(N C:Nat)(ls:List (List Int)):Prop:=
 ∃g S,A=some ⟨g,0,none⟩/\BG w w0.heap.size A N C S/\S.length=N/\ls.length=N/\∀(i:Nat)s x,S[i]? =some s->ls[i]? =some x->aF w s x/\∀b,aG s.a=some b->b<w.heap.size/\b≠g
theorem LbS.done{m w:World}{g C B:Nat}{S:List SV}{L:List (List Int)}{z:SV}{f:List Int}(h:LbS m w g C B S L z f):Dt m w (some ⟨g,0,none⟩) (S.length+1) C (L++[f]):=by
 refine⟨g,S++[z],rfl,h.own,by simp,by simp[h.eq],λi s x c a=>?_⟩;by_cases k:i<S.length
 .rw[List.getElem?_append_left k]at c;rw[List.getElem?_append_left (by rw[<- h.eq];exact k)]at a;obtain⟨n,l⟩:=h.ok i s x c a;exact⟨n,λb d=>⟨lt' (l b d).1 h.b1,(l b d).2⟩⟩
 .have j:i=S.length:=by
   have:=(List.getElem?_eq_some_iff.1 c).1;simp at this;omega
  subst j;rw[List.getElem?_append_right (lr' _)]at c;rw[List.getElem?_append_right (by rw[h.eq];exact lr' _),h.eq]at a;simp at c a;subst c a;exact⟨aK.ints h.last,λb d=>⟨(Own.lt h.last b d).2,λe=>h.lne (by rw[d,e])⟩⟩
def UQ(w:World)(ls:List (List Int))(e:Ending)(w':World):Prop:=∃A N C,e=.returned (.slice A N C)/\Dt w w' A N C ls/\Ext w w'
def UM(w:World)(l:List Int)(gh:Nat)(s3 s10:Value)(wx:World):Prop:=
 ∃(g C B k:Nat)(S:List SV)(L:List (List Int))(z:SV)(cur:List Int),gh+k=l.length/\s3=.slice (some ⟨g,0,none⟩) (S.length+1) C/\s10=.int .i64 k/\S.length<=k/\z.n<=k/\Hid (LbS w wx g C B S L z cur)/\Hid (nK l=lbG L cur (l.drop k))
theorem aMw(hi:aF w ⟨A,n,c⟩ l)(a6:l.length<=1000000):Calls prog 83 #[.slice A n c] w (UQ w (nK l)):=by
 have Q:=hi.len.1;subst Q;have HI:=ah hi;clear hi;have F:Ext w (w.alloc (.cells #[.slice none 0 0] 22)):=eR'.aB _
 have G:Hid (LbS w (w.alloc (.cells #[.slice none 0 0] 22)) w.heap.size 1 (w.heap.size+1) [] [] lS []):=ah ⟨by
  refine⟨rfl,.inr ⟨w.heap.size,1,#[.slice none 0 0],rfl,lr' _,heap_alloc_new w _,lr' _,by simp only[maxLen];omega,rfl,rfl⟩⟩,rfl,λi s x h=>by simp at h,Own.nil_ _ _ _ _,by simp[aG],by omega,by simp,F⟩
 go_enter func83,ntmps83;go_wp2_with fail;clear F;go_loopg[3,10] l.length (λgh s3 R wx=>UM w l gh s3 R wx);exact⟨_,1,_,0,[],[],lS,[],by omega,rfl,rfl,by simp,lr' _,G,rfl⟩;obtain⟨g,C,B,k,S,L,z,q,hg,rfl,rfl,ab,T,H,E⟩:=hrel;clear G;by_cases N:k<l.length
 .obtain⟨b,o,hA,ad⟩:=(HI.out.ext H.out.ext).at_ N;subst hA;have O:Hid (lbG L q (l.drop k)=if l[k]=46 then lbG (L++[q]) [] (l.drop (k+1))else lbG L (q++[l[k]]) (l.drop (k+1))):=ah (by rw[drop_at l k N];rfl);generalize l[k]=x at*;by_cases r:x=46
  .have D:=aI E (O.out.trans (pP' r));have e1:(x==46)=true:=(by rw[bq'];exact r);obtain⟨g',C',w',m,H2⟩:=H.out.more (by omega);have U:=ah H2;have I:(S++[z]).length=S.length+1:=(by simp);clear H E O r H2;go_wp2_with(at_builtin;refine dG rfl _ _ _ rfl _ _ rfl rfl _ _ m ?_);go_roundg (l.length-(k+1));exact⟨g',C',_,k+1,S++[z],L++[q],lS,[],by omega,by rw[I],by go_num,by rw[I];omega,zl' _,U,D⟩;omega
  .have D:=aI E (O.out.trans (nN' r));have e1:(x==46)=false:=(by rw[aO];exact r);have t:=Own.lt H.out.own g rfl;have J:wr.cell? ⟨g,S.length,none⟩=some (.slice z.a z.n z.c):=by
    have:=World.ownsRow.cellAt H.out.own S.length (by omega);rw[this];simp
   have V:=λW(h:Ext wr W)=>h.b.frozen (p:=⟨g,S.length,none⟩) t.2
   have K:wr.frozen? ⟨g,S.length,none⟩=false:=World.ownsRow.frozenAt H.out.own S.length;obtain⟨za,X,zc⟩:=z;have am:(0:Int)<=(S.length:Int):=bI _;simp only at J T;have d:Ext wr (wr.alloc (.cells #[.int .i64 x] 3)):=eR'.aB _;obtain⟨Y,c5,P,m,j,f,Z⟩:=fZ (Own.ext H.out.last d) (iI wr x) (by simp only;omega) (Nat.le_trans H.out.b1 d.b.size);simp only at m j f Z;have M:Ext w P:=dW (H.out.ext.trans' d) f (λk N=>Nat.le_trans H.out.b0 (Own.lt H.out.last k N).1);have y:aG Y≠some g:=by
    rcases Z with h|h
    .rw[h];exact H.out.lne
    .rw[h];intro e;injection e with e;have:=d.b.size;omega
   have U:=ah (H.out.turn (w':=P) (z':=⟨Y,X+1,c5⟩) (λb hb Q=>by
    have h1:=d.b.block b hb;have h2:=f.block b (lt' hb d.b.size) Q
    rw[h2,h1]) (Nat.le_trans d.b.size f.size) j y M)
   have an:P.cell? ⟨g,S.length,none⟩=some (.slice za X zc):=by
    rw[UK f (lt' t.2 d.b.size) (λe=>H.out.lne e.symm),d.b.cell (p:=⟨g,S.length,none⟩) t.2,J]
   have ao:P.frozen? ⟨g,S.length,none⟩=false:=by
    have h2:=f.block g (lt' t.2 d.b.size) (λe=>H.out.lne e.symm);have h1:=d.b.block g t.2;unfold World.frozen? at K |-;rw[h2,h1];exact K
   clear H E O d j f Z M y V r;go_wp2_with(at_builtin;refine dG rfl _ _ _ rfl _ _ rfl rfl _ _ m ?_);go_roundg (l.length-(k+1));exact⟨g,C,B,k+1,S,L,⟨Y,X+1,c5⟩,q++[x],by omega,rfl,by go_num,by omega,by simp only;omega,U,D⟩;omega
 .have HF:Hid (nK l=L++[q]):=ah (by rw[E.out,bT l k (by omega)];rfl);have hd:=H.out.done;have hx:=H.out.ext;clear H E;go_wp2;go_ret;exact⟨_,_,_,rfl,by rw[HF.out];exact hd,hx⟩
theorem aMq(Y:aF w ⟨A,n,c⟩ l)(a4:l.length<=1000000):Calls prog 59 #[.slice A n c] w (UQ w (nK l)):=by
 have hn:=Y.len.1;subst hn;have HI:=ah Y;clear Y;have F:Ext w (w.alloc (.cells #[.slice none 0 0] 22)):=eR'.aB _
 have G:Hid (LbS w (w.alloc (.cells #[.slice none 0 0] 22)) w.heap.size 1 (w.heap.size+1) [] [] lS []):=ah ⟨by
  refine⟨rfl,.inr ⟨w.heap.size,1,#[.slice none 0 0],rfl,lr' _,heap_alloc_new w _,lr' _,by simp only[maxLen];omega,rfl,rfl⟩⟩,rfl,λi s x h=>by simp at h,Own.nil_ _ _ _ _,by simp[aG],by omega,by simp,F⟩
 go_enter func59,ntmps59;go_wp2_with fail;clear F;go_loopg[3,10] l.length (λgh s3 Q wx=>UM w l gh s3 Q wx);exact⟨_,1,_,0,[],[],lS,[],by omega,rfl,rfl,by simp,lr' _,G,rfl⟩;obtain⟨g,C,B,k,S,L,z,q,hg,rfl,rfl,aa,R,H,E⟩:=hrel;clear G;by_cases Z:k<l.length
 .obtain⟨b,o,hA,ac⟩:=(HI.out.ext H.out.ext).at_ Z;subst hA;have O:Hid (lbG L q (l.drop k)=if l[k]=46 then lbG (L++[q]) [] (l.drop (k+1))else lbG L (q++[l[k]]) (l.drop (k+1))):=ah (by rw[drop_at l k Z];rfl);generalize l[k]=x at*;by_cases r:x=46
  .have D:=aI E (O.out.trans (pP' r));have e1:(x==46)=true:=(by rw[bq'];exact r);obtain⟨g',C',w',m,H2⟩:=H.out.more (by omega);have T:=ah H2;have I:(S++[z]).length=S.length+1:=(by simp);clear H E O r H2;go_wp2_with(at_builtin;refine dG rfl _ _ _ rfl _ _ rfl rfl _ _ m ?_);go_roundg (l.length-(k+1));exact⟨g',C',_,k+1,S++[z],L++[q],lS,[],by omega,by rw[I],by go_num,by rw[I];omega,zl' _,T,D⟩;omega
  .have D:=aI E (O.out.trans (nN' r));have e1:(x==46)=false:=(by rw[aO];exact r);have J:=Own.lt H.out.own g rfl;have K:wr.cell? ⟨g,S.length,none⟩=some (.slice z.a z.n z.c):=by
    have:=World.ownsRow.cellAt H.out.own S.length (by omega);rw[this];simp
   have M:=λW(h:Ext wr W)=>h.b.frozen (p:=⟨g,S.length,none⟩) J.2
   have U:wr.frozen? ⟨g,S.length,none⟩=false:=World.ownsRow.frozenAt H.out.own S.length;obtain⟨za,V,zc⟩:=z;have al:(0:Int)<=(S.length:Int):=bI _;simp only at K R;have HZ:=ah (aK.ints H.out.last);obtain⟨A6,c6,w6,d,f,wB,_⟩:=fZ (n:=0) (c:=0) (l:=[]) (Own.nil_ wr wr.heap.size 3 1) HZ.out (by simp only;omega) (lr' _);simp only[Nat.zero_add,List.nil_append]at d f;have N:Ext wr w6:=dW eR' wB (by simp[aG]);obtain⟨X,c5,P,m,j,t,_⟩:=xX f N x (by omega);have y:aG X≠some g:=by
    intro e;have:=(Own.lt j g e).1;omega
   have T:=ah (H.out.turn (w':=P) (z':=⟨X,V+1,c5⟩) (λb hb _=>t.b.block b hb) t.b.size (Uo j H.out.b1) y (H.out.ext.trans' t));have ao:P.cell? ⟨g,S.length,none⟩=some (.slice za V zc):=(by rw[t.b.cell (p:=⟨g,S.length,none⟩) J.2,K]);have ap:P.frozen? ⟨g,S.length,none⟩=false:=(by rw[M P t];exact U);clear H E O N f wB j t y M r HZ
   go_wp2_with(at_builtin;first
    |(refine dG rfl _ _ _ rfl _ _ rfl rfl _ _ d ?_;clear d)
    |(refine dG rfl _ _ _ rfl _ _ rfl rfl _ _ m ?_;clear m))
   go_roundg (l.length-(k+1));exact⟨g,C,B,k+1,S,L,⟨X,V+1,c5⟩,q++[x],by omega,rfl,by go_num,by omega,by simp only;omega,T,D⟩;omega
 .have HF:Hid (nK l=L++[q]):=ah (by rw[E.out,bT l k (by omega)];rfl);have hd:=H.out.done;have hx:=H.out.ext;clear H E;go_wp2;go_ret;exact⟨_,_,_,rfl,by rw[HF.out];exact hd,hx⟩
def jnG:Bool->List (List Int)->List Int
 |_,[]=>[]
 |f,x::r=>(if f then x else 46::x)++jnG false r
def jnL(ls:List (List Int)):List Int:=jnG true ls
theorem Ny{ls:List (List Int)}{k:Nat}(h:k<ls.length):jnG (k==0) (ls.drop k)=(if(k==0)=true then ls[k]else 46::ls[k])++jnG (k+1==0) (ls.drop (k+1)):=by
 rw[drop_at ls k h];rfl
theorem Dt.lists{o w:World}{A:Option Addr}{N C:Nat}{ls:List (List Int)}(h:Dt o w A N C ls):qw w ⟨A,N,C⟩ ls:=by
 obtain⟨g,S,rfl,d,p,f,k⟩:=h;obtain⟨l,m⟩:=Own.le d;refine⟨⟨f.symm,by rw[f];exact l,m⟩,λi x j=>?_⟩;have q:=(List.getElem?_eq_some_iff.1 j).1;have b:i<S.length:=by omega
 refine⟨g,0,S[i].a,S[i].n,S[i].c,rfl,?_,(k i S[i] x (List.getElem?_eq_getElem b) j).1⟩;have:=World.ownsRow.cellAt d i (by omega);rw[Nat.zero_add,this];simp[b]
def oC(w:World)(s:SV)(ls:List (List Int)):Prop:=
 xZ s ls.length/\∀i x,ls[i]? =some x->∃b o,s.a=some ⟨b,o,none⟩/\w.cell? ⟨b,o+i,none⟩=some (.string (sB x))
theorem oC.keep{w w':World}{s:SV}{l:List (List Int)}(h:oC w s l)(f:∀p:Addr,p.block<w.heap.size->w'.cell? p=w.cell? p):oC w' s l:=
 ⟨h.1,λi x a=>by obtain⟨b,o,c,d⟩:=h.2 i x a;exact⟨b,o,c,bg f d⟩⟩
theorem oC.ext{w w':World}{s:SV}{l:List (List Int)}(h:oC w s l)(a:Ext w w'):oC w' s l:=h.keep (bD a)
theorem oC.at_{A:Option Addr}{n c:Nat}{w:World}{l:List (List Int)}(h:oC w ⟨A,n,c⟩ l){i:Nat}(a:i<l.length):∃b o,A=some ⟨b,o,none⟩/\w.cell? ⟨b,o+i,none⟩=some (.string (sB l[i])):=
 h.2 i _ (List.getElem?_eq_getElem a)
def fbG:Nat->List (List Int)->Option (Int×Int)
 |_,[]=>none
 |k,x::r=>if x.length=0 then some (k,10)else if 63<x.length then some (k,11)else fbG (k+1) r
def lN:List (List Int)->Int
 |[]=>0
 |x::r=>x.length+lN r
def jF(ls:List (List Int)):Int×Int:=
 if ls.length=0 then(0,10)else match fbG 0 ls with
  |some p=>p
  |none=>if 127<(ls.length:Int)\/253<(ls.length:Int)-1+lN ls then(0,11)else(0,0)
theorem UY{ls:List (List Int)}{k:Nat}(h:k<ls.length):fbG k (ls.drop k)=if ls[k].length=0 then some ((k:Int),10)else if 63<ls[k].length then some ((k:Int),11)else fbG (k+1) (ls.drop (k+1)):=by
 rw[drop_at ls k h];rfl
theorem UR(a:List (List Int))(x:List Int):lN (a++[x])=lN a+x.length:=by
 induction a with
 |nil=>simp[lN]
 |cons y a ih=>simp[lN,ih];omega
theorem V6:∀(ls:List (List Int)),((jnG false ls).length:Int)=ls.length+lN ls
 |[]=>rfl
 |x::r=>by
  have:=V6 r;show(((46::x)++jnG false r).length:Int)=_
  simp only[lA',List.length_cons,lN];omega
theorem Ik{ls:List (List Int)}(h:ls≠[]):((jnL ls).length:Int)=(ls.length:Int)-1+lN ls:=by
 cases ls with
 |nil=>exact absurd rfl h
 |cons x r=>
  have:=V6 r;show((x++jnG false r).length:Int)=_
  simp only[lA',List.length_cons,lN];omega
theorem Nz{ls:List (List Int)}(h:(jF ls).2=0):ls≠[]/\ls.length<=127/\(jnL ls).length<=253/\(jF ls).1=0:=by
 unfold jF at h |-;split at h
 .cases h
 .rename_i d;rw[nN' d];have a:ls≠[]:=λe=>d (by rw[e];rfl)
  have g:=Ik a;cases b:fbG 0 ls with
  |some p=>
   rw[b]at h;exfalso;have c:∀(l:List (List Int))(k:Nat)(p:Int×Int),fbG k l=some p->p.2≠0:=by
    intro l
    induction l with
    |nil=>intro k p h;cases h
    |cons y r ih=>
     intro k p h;unfold fbG at h;split at h
     .injection h with h;subst h;simp
     .split at h
      .injection h with h;subst h;simp
      .exact ih _ _ h
   exact c ls 0 p b h
  |none=>
   rw[b]at h;simp only at h |-;split at h
   .cases h
   .rename_i f;rw[nN' f];exact⟨a,by omega,by omega,rfl⟩
def pK(ls:List (List Int)):List Int×Int:=if(jF ls).2≠0 then([],(jF ls).2)else(jnL ls,0)
theorem Nw:∀(ls:List (List Int))(k:Nat),fbG k ls=none->∀x∈ls,0<x.length/\x.length<=63
 |[],_,_,x,a=>by cases a
 |y::r,k,h,x,a=>by
  unfold fbG at h;split at h
  .cases h
  .split at h
   .cases h
   .rcases List.mem_cons.1 a with rfl|a
    .omega
    .exact Nw r _ h x a
def aN4(w:World)(ls:List (List Int))(g:Nat)(s3 s8:Value)(wx:World):Prop:=
 ∃(A:Option Addr)(n c k:Nat)(acc:List Int),g+k=ls.length/\s8=.int .i64 k/\s3=.slice A n c/\Hid (n=acc.length)/\n<=1000000/\aK wx w.heap.size A n c acc/\Ext w wx/\Hid (jnL ls=acc++jnG (k==0) (ls.drop k))
theorem aNA(ls:List (List Int))(A:Option Addr)(n c:Nat)(w:World)(D:qw w ⟨A,n,c⟩ ls)(hm:(jnL ls).length<=1000000):Calls prog 78 #[.slice A n c] w (P8 w (jnL ls)):=by
 have V:=D.len.1;have X:=D.len.2;subst V;have Y:=ah D;clear D;go_enter func78,ntmps78;go_wp2;go_loopg[3,8] ls.length (λZ s3 s8 wx=>aN4 w ls Z s3 s8 wx);exact⟨none,0,0,0,[],by omega,rfl,rfl,rfl,by omega,Own.nil_ _ _ _ _,eR',rfl⟩;obtain⟨B,m,d,k,g,hg,rfl,rfl,E,a3,s,J,F⟩:=hrel;have y:=ah s;have t:=ah J;clear s J;by_cases G:k<ls.length
 .obtain⟨b,o,za,H,zc,hA,I,M⟩:=Y.out.at_ G;subst hA;have a5:=bg (bD t.out) I;have K:=ah (Ny G);have U:=ah (λW(h:Ext w W)=>M.ext h);have L:=M.len.1;clear M I;generalize ls[k]=x at*;by_cases q:k=0
  .have hd:decide ((0:Int)<(k:Int))=false:=dF';have N:decide (0<k)=false:=dF';have l:=aI F (show _=(g++x)++jnG (k+1==0) (ls.drop (k+1))from by rw[K.out,pP' (by rw[bq'];exact q),List.append_assoc]);have z:m+H<=1000000:=by
    have O:=congrArg List.length l.out;simp only[lA']at O;have h2:=E.out;omega
   obtain⟨P,Q,R,j,a,f,_⟩:=fZ y.out (U.out wr t.out) (by omega) t.out.b.size;have S:Hid (Ext w R):=ah (dW t.out f (λk G=>(Own.lt y.out k G).1));have T:=ah a;have C:Hid (m+H=(g++x).length):=ah (by rw[lA',E.out,L]);clear a f F K y t L E q;go_wp2_with(at_builtin;refine dG rfl _ _ _ rfl _ _ rfl rfl _ _ j ?_);go_roundg (ls.length-(k+1));exact⟨P,m+H,Q,k+1,g++x,by omega,by go_num,rfl,C,z,T.out,S.out,l⟩;omega
  .have hd:decide ((0:Int)<(k:Int))=true:=dT';have N:decide (0<k)=true:=dT';have l:=aI F (show _=((g++[46])++x)++jnG (k+1==0) (ls.drop (k+1))from by rw[K.out,nN' (by rw[bq'];exact q)];simp);have z:m+1+H<=1000000:=by
    have O:=congrArg List.length l.out;simp only[lA',List.length_singleton]at O;have h2:=E.out;omega
   obtain⟨A4,c4,w4,p,i,r,_⟩:=xX y.out t.out 46 (by omega);obtain⟨P,Q,R,j,a,f,_⟩:=fZ i (U.out w4 r) (by omega) r.b.size;have S:Hid (Ext w R):=ah (dW r f (λk G=>(Own.lt i k G).1));have T:=ah a;have C:Hid (m+1+H=((g++[46])++x).length):=ah (by simp only[lA',List.length_singleton];rw[E.out,L]);clear a f F K y t L E q i r
   go_wp2_with(at_builtin;first
    |(refine dG rfl _ _ _ rfl _ _ rfl rfl _ _ p ?_;clear p)
    |(refine dG rfl _ _ _ rfl _ _ rfl rfl _ _ j ?_;clear j))
   go_roundg (ls.length-(k+1));exact⟨P,m+1+H,Q,k+1,(g++[46])++x,by omega,by go_num,rfl,C,z,T.out,S.out,l⟩;omega
 .have HF:Hid (jnL ls=g):=ah (by rw[F.out,bT ls k (by omega)];simp[jnG]);have D:=aK.ints y.out;have J:=t.out;clear F y;go_wp2;go_ret;exact⟨B,_,d,rfl,by rw[HF.out];exact D,J⟩
def aNK(w:World)(ls:List (List Int))(g:Nat)(s3 s8:Value)(wx:World):Prop:=
 ∃(A:Option Addr)(n c k:Nat)(acc:List Int),g+k=ls.length/\s8=.int .i64 k/\s3=.slice A n c/\Hid (n=acc.length)/\n<=1000000/\aK wx w.heap.size A n c acc/\Ext w wx/\Hid (jnL ls=acc++jnG (k==0) (ls.drop k))
theorem aNU(ls:List (List Int))(A:Option Addr)(n c:Nat)(w:World)(D:qw w ⟨A,n,c⟩ ls)(hm:(jnL ls).length<=1000000):Calls prog 100 #[.slice A n c] w (P8 w (jnL ls)):=by
 have V:=D.len.1;have X:=D.len.2;subst V;have Y:=ah D;clear D;go_enter func100,ntmps100;go_wp2;go_loopg[3,8] ls.length (λZ s3 s8 wx=>aNK w ls Z s3 s8 wx);exact⟨none,0,0,0,[],by omega,rfl,rfl,rfl,by omega,Own.nil_ _ _ _ _,eR',rfl⟩;obtain⟨B,m,d,k,g,hg,rfl,rfl,E,a3,s,J,F⟩:=hrel;have y:=ah s;have t:=ah J;clear s J;by_cases G:k<ls.length
 .obtain⟨b,o,za,H,zc,hA,I,M⟩:=Y.out.at_ G;subst hA;have a5:=bg (bD t.out) I;have K:=ah (Ny G);have U:=ah (λW(h:Ext w W)=>M.ext h);have L:=M.len.1;clear M I;generalize ls[k]=x at*;by_cases q:k=0
  .have hd:decide ((0:Int)<(k:Int))=false:=dF';have N:decide (0<k)=false:=dF';have l:=aI F (show _=(g++x)++jnG (k+1==0) (ls.drop (k+1))from by rw[K.out,pP' (by rw[bq'];exact q),List.append_assoc]);have z:m+H<=1000000:=by
    have O:=congrArg List.length l.out;simp only[lA']at O;have h2:=E.out;omega
   obtain⟨P,Q,R,j,a,f,_⟩:=fZ y.out (U.out wr t.out) (by omega) t.out.b.size;have S:Hid (Ext w R):=ah (dW t.out f (λk G=>(Own.lt y.out k G).1));have T:=ah a;have C:Hid (m+H=(g++x).length):=ah (by rw[lA',E.out,L]);clear a f F K y t L E q;go_wp2_with(at_builtin;refine dG rfl _ _ _ rfl _ _ rfl rfl _ _ j ?_);go_roundg (ls.length-(k+1));exact⟨P,m+H,Q,k+1,g++x,by omega,by go_num,rfl,C,z,T.out,S.out,l⟩;omega
  .have hd:decide ((0:Int)<(k:Int))=true:=dT';have N:decide (0<k)=true:=dT';have l:=aI F (show _=((g++[46])++x)++jnG (k+1==0) (ls.drop (k+1))from by rw[K.out,nN' (by rw[bq'];exact q)];simp);have z:m+1+H<=1000000:=by
    have O:=congrArg List.length l.out;simp only[lA',List.length_singleton]at O;have h2:=E.out;omega
   obtain⟨A4,c4,w4,p,i,r,_⟩:=xX y.out t.out 46 (by omega);obtain⟨P,Q,R,j,a,f,_⟩:=fZ i (U.out w4 r) (by omega) r.b.size;have S:Hid (Ext w R):=ah (dW r f (λk G=>(Own.lt i k G).1));have T:=ah a;have C:Hid (m+1+H=((g++[46])++x).length):=ah (by simp only[lA',List.length_singleton];rw[E.out,L]);clear a f F K y t L E q i r
   go_wp2_with(at_builtin;first
    |(refine dG rfl _ _ _ rfl _ _ rfl rfl _ _ p ?_;clear p)
    |(refine dG rfl _ _ _ rfl _ _ rfl rfl _ _ j ?_;clear j))
   go_roundg (ls.length-(k+1));exact⟨P,m+1+H,Q,k+1,(g++[46])++x,by omega,by go_num,rfl,C,z,T.out,S.out,l⟩;omega
 .have HF:Hid (jnL ls=g):=ah (by rw[F.out,bT ls k (by omega)];simp[jnG]);have D:=aK.ints y.out;have J:=t.out;clear F y;go_wp2;go_ret;exact⟨B,_,d,rfl,by rw[HF.out];exact D,J⟩
def aNL(w:World)(ls:List (List Int))(g:Nat)(s14:Value)(wx:World):Prop:=
 ∃k:Nat,g+k=ls.length/\s14=.int .i64 k/\wx=w/\Hid (fbG 0 ls=fbG k (ls.drop k))
def aNR(w:World)(ls:List (List Int))(g:Nat)(s6 s32:Value)(wx:World):Prop:=
 ∃(k:Nat)(u:Int),g+k=ls.length/\s32=.int .i64 k/\s6=.int .i64 u/\wx=w/\Hid (u=(ls.length:Int)-1+lN (ls.take k))/\ -1<=u/\u<=ls.length+63*k
def IE2(d:Int×Int)(e:Ending):Prop:=e=.returned (.tuple #[.int .i64 d.1,.int .i64 d.2])
theorem V5(ls:List (List Int))(A:Option Addr)(n c:Nat)(w:World)(M:oC w ⟨A,n,c⟩ ls)(hm:ls.length<=1000000):Calls prog 139 #[.slice A n c] w λe w'=>IE2 (jF ls) e/\w=w':=by
 have h:Hid (jF ls=if ls.length=0 then(0,10)else match fbG 0 ls with
  |some p=>p
  |none=>if 127<(ls.length:Int)\/253<(ls.length:Int)-1+lN ls then(0,11)else(0,0)):=rfl
 generalize jF ls=D at*;have Q:n=ls.length:=M.1.1;subst Q;have N:=ah M;clear M;by_cases t:ls.length=0
 .rw[pP' t]at h;have R:((ls.length:Int)==0)=true:=by rw[bq'];omega
  have S:(ls.length==0)=true:=by rw[bq'];omega
  clear t;go_enter func139,ntmps139;go_wp2;go_ret2;exact⟨by rw[h.out];rfl,rfl⟩
 rw[nN' t]at h;have R:((ls.length:Int)==0)=false:=bF';have S:(ls.length==0)=false:=bF';go_enter func139,ntmps139;go_wp2;go_loopg[14] ls.length (λy z B=>aNL w ls y z B);exact⟨0,by omega,rfl,rfl,rfl⟩;obtain⟨k,hg,rfl,rfl,q⟩:=hrel;by_cases O:k<ls.length
 .obtain⟨b,o,C,E⟩:=N.out.at_ O;subst C;have i:=ah (UY O);have l:=y9 ls[k];have r:ls[k].isEmpty=decide (ls[k].length=0):=by cases ls[k]<;>simp
  rw[r]at l;generalize ls[k]=x at*;clear r;by_cases d:x.length=0
  .have f:Hid (D=((k:Int),10)):=ah (by rw[h.out,q.out,i.out,pP' d]);rw[dt' d]at l;go_wp2;go_ret2;exact⟨by rw[f.out];rfl,rfl⟩
  rw[df' d]at l;by_cases P:63<x.length
  .have f:Hid (D=((k:Int),11)):=ah (by rw[h.out,q.out,i.out,nN' d,pP' P]);go_wp2;go_ret2;exact⟨by rw[f.out];rfl,rfl⟩
  .have f:=aI q (i.out.trans (by rw[nN' d,nN' P]));clear q i;go_wp2;go_roundg (ls.length-(k+1));exact⟨k+1,by omega,by go_num,rfl,f⟩;omega
 .have m:fbG 0 ls=none:=by rw[q.out,bT ls k (by omega)];rfl
  rw[m]at h;have a:Hid (D=if 127<(ls.length:Int)\/253<(ls.length:Int)-1+lN ls then(0,11)else(0,0)):=h;have T:=ah (Nw ls 0 m);clear h q m;go_wp2;go_loopg[6,32] ls.length (λy U F B=>aNR wr ls y U F B);exact⟨0,_,by omega,rfl,rfl,rfl,ah (by simp[lN]),by omega,by omega⟩;obtain⟨j,u,V,rfl,rfl,rfl,s,W,X⟩:=hrel;by_cases G:j<ls.length
  .obtain⟨b,o,C,E⟩:=N.out.at_ G;subst C;have i:Hid (lN (ls.take (j+1))=lN (ls.take j)+ls[j].length):=ah (by rw[tS' G,UR]);have Y:=T.out _ (gM' G);generalize ls[j]=x at*;have H:Hid (u+x.length=(ls.length:Int)-1+lN (ls.take (j+1))):=ah (by rw[i.out];have:=s.out;omega);clear s i;go_wp2;go_roundg (ls.length-(j+1));exact⟨j+1,_,by omega,by go_num,rfl,rfl,H,by omega,by omega⟩;omega
  .have I:=s.out;rw[tL' (by omega)]at I;rw[<- I]at a;clear s I;by_cases g:127<(ls.length:Int)
   .rw[pP' (.inl g)]at a;have Z:decide (127<(ls.length:Int))=true:=(by rw[au];exact g);have J:decide (127<ls.length)=true:=dT';go_wp2;go_ret2;exact⟨by rw[a.out];rfl,rfl⟩
   have Z:decide (127<(ls.length:Int))=false:=(by rw[aA];exact g);have J:decide (127<ls.length)=false:=dF';by_cases K:253<u
   .rw[pP' (.inr K)]at a;have L:decide (253<u)=true:=(by rw[au];exact K);go_wp2;go_ret2;exact⟨by rw[a.out];rfl,rfl⟩
   .rw[nN' (by omega)]at a;have L:decide (253<u)=false:=(by rw[aA];exact K);go_wp2;go_ret2;exact⟨by rw[a.out];rfl,rfl⟩
def aNi(w:World)(ls:List (List Int))(g:Nat)(s4 s15:Value)(wx:World):Prop:=
 ∃(k:Nat)(u:Int),g+k=ls.length/\s15=.int .i64 k/\s4=.int .i64 u/\wx=w/\Hid (fbG 0 ls=fbG k (ls.drop k))/\Hid (u=(ls.length:Int)-1+lN (ls.take k))/\ -1<=u/\u<=ls.length+63*k
theorem V3(ls:List (List Int))(A:Option Addr)(n c:Nat)(w:World)(G:oC w ⟨A,n,c⟩ ls)(W:ls.length<=1000000):Calls prog 94 #[.slice A n c] w λe w'=>IE2 (jF ls) e/\w=w':=by
 have h:Hid (jF ls=if ls.length=0 then(0,10)else match fbG 0 ls with
  |some p=>p
  |none=>if 127<(ls.length:Int)\/253<(ls.length:Int)-1+lN ls then(0,11)else(0,0)):=rfl
 generalize jF ls=D at*;have J:n=ls.length:=G.1.1;subst J;have K:=ah G;clear G;by_cases s:ls.length=0
 .rw[pP' s]at h;have L:((ls.length:Int)==0)=true:=by rw[bq'];omega
  have M:(ls.length==0)=true:=by rw[bq'];omega
  clear s;go_enter func94,ntmps94;go_wp2;go_ret2;exact⟨by rw[h.out];rfl,rfl⟩
 rw[nN' s]at h;have L:((ls.length:Int)==0)=false:=bF';have M:(ls.length==0)=false:=bF';go_enter func94,ntmps94;go_wp2;go_loopg[4,15] ls.length (λN O t P=>aNi w ls N O t P);exact⟨0,_,by omega,rfl,rfl,rfl,rfl,ah (by simp[lN]),by omega,by omega⟩;obtain⟨k,u,V,rfl,rfl,rfl,j,q,Q,R⟩:=hrel;by_cases y:k<ls.length
 .obtain⟨b,o,S,T⟩:=K.out.at_ y;subst S;have r:=ah (UY y);have H:Hid (lN (ls.take (k+1))=lN (ls.take k)+ls[k].length):=ah (by rw[tS' y,UR]);have i:=y9 ls[k];have l:ls[k].isEmpty=decide (ls[k].length=0):=by cases ls[k]<;>simp
  rw[l]at i;generalize ls[k]=x at*;clear l;by_cases d:x.length=0
  .have f:Hid (D=((k:Int),10)):=ah (by rw[h.out,j.out,r.out,pP' d]);rw[dt' d]at i;go_wp2;go_ret2;exact⟨by rw[f.out];rfl,rfl⟩
  rw[df' d]at i;by_cases I:63<x.length
  .have f:Hid (D=((k:Int),11)):=ah (by rw[h.out,j.out,r.out,nN' d,pP' I]);go_wp2;go_ret2;exact⟨by rw[f.out];rfl,rfl⟩
  .have f:=aI j (r.out.trans (by rw[nN' d,nN' I]));have z:Hid (u+x.length=(ls.length:Int)-1+lN (ls.take (k+1))):=ah (by rw[H.out];have:=q.out;omega);clear j r q H;go_wp2;go_roundg (ls.length-(k+1));exact⟨k+1,_,by omega,by go_num,rfl,rfl,f,z,by omega,by omega⟩;omega
 .have m:fbG 0 ls=none:=by rw[j.out,bT ls k (by omega)];rfl
  rw[m]at h;have a:Hid (D=if 127<(ls.length:Int)\/253<(ls.length:Int)-1+lN ls then(0,11)else(0,0)):=h;have B:=q.out;rw[tL' (by omega)]at B;rw[<- B]at a;clear q B h j m;by_cases g:127<(ls.length:Int)
  .rw[pP' (.inl g)]at a;have U:decide (127<(ls.length:Int))=true:=(by rw[au];exact g);have C:decide (127<ls.length)=true:=dT';go_wp2;go_ret2;exact⟨by rw[a.out];rfl,rfl⟩
  have U:decide (127<(ls.length:Int))=false:=by rw[aA];exact g
  have C:decide (127<ls.length)=false:=dF';by_cases E:253<u
  .rw[pP' (.inr E)]at a;have F:decide (253<u)=true:=(by rw[au];exact E);go_wp2;go_ret2;exact⟨by rw[a.out];rfl,rfl⟩
  .rw[nN' (by omega)]at a;have F:decide (253<u)=false:=(by rw[aA];exact E);go_wp2;go_ret2;exact⟨by rw[a.out];rfl,rfl⟩
def aNf(w:World)(ls:List (List Int))(g:Nat)(s6 AP:Value)(wx:World):Prop:=
 ∃(k:Nat)(acc:List Int),g+k=ls.length/\AP=.int .i64 k/\s6=.string (sB acc)/\acc.length<=253/\wx=w/\Hid (jnL ls=acc++jnG (k==0) (ls.drop k))
theorem aNm(ls:List (List Int))(A:Option Addr)(n c:Nat)(w:World)(p:oC w ⟨A,n,c⟩ ls)(S:ls.length<=1000000):Calls prog 95 #[.slice A n c] w (xY w (pK ls)):=by
 have j:Hid (pK ls=if(jF ls).2≠0 then([],(jF ls).2)else(jnL ls,0)):=rfl;have t:=ah (V3 ls A n c w p S);have g:=ah (@Nz ls);generalize pK ls=D at*;generalize jF ls=C at*;obtain⟨T,B⟩:=C;have F:n=ls.length:=p.1.1;subst F;have G:=ah p;simp only at j g;clear p;go_enter func95,ntmps95;go_wp2_with fail;refine t.out.mono ?_;rintro e U⟨y,rfl⟩;unfold IE2 at y;subst y;by_cases q:B=0
 case neg=>
  rw[pP' q]at j;go_wp2;go_ret2;exact⟨by rw[j.out];rfl,eR'⟩
 rw[nN' (by rw[q];simp)]at j;subst q;have H:=(g.out rfl).2.2.1;clear g t;go_wp2;go_loopg[6,19] ls.length (λI J K L=>aNf w ls I J K L);exact⟨0,[],by omega,rfl,rfl,by simp,rfl,rfl⟩;obtain⟨k,a,V,rfl,rfl,M,rfl,i⟩:=hrel;by_cases z:k<ls.length
 .obtain⟨b,o,N,O⟩:=G.out.at_ z;subst N;have m:=ah (Ny z);generalize ls[k]=x at*;by_cases f:k=0
  .have P:decide ((0:Int)<(k:Int))=false:=dF';have r:decide (0<k)=false:=dF';have d:=aI i (show _=(a++x)++jnG (k+1==0) (ls.drop (k+1))from by rw[m.out,pP' (by rw[bq'];exact f),List.append_assoc]);have l:=congrArg List.length d.out;simp only[lA']at l;have s:x.length<=253:=(by omega);have h:(a++x).length<=253:=(by rw[lA'];omega);clear i m f l;go_wp2;go_roundg (ls.length-(k+1));exact⟨k+1,a++x,by omega,by go_num,rfl,h,rfl,d⟩;omega
  .have P:decide ((0:Int)<(k:Int))=true:=dT';have r:decide (0<k)=true:=dT';have d:=aI i (show _=(a++[46]++x)++jnG (k+1==0) (ls.drop (k+1))from by rw[m.out,nN' (by rw[bq'];exact f)];simp);have l:=congrArg List.length d.out;simp only[lA',List.length_singleton]at l;have s:x.length<=253:=(by omega);have Q:(⟨#[46]⟩:ByteArray)=sB [46]:=rfl;have h:(a++[46]++x).length<=253:=(by simp only[lA',List.length_singleton];omega);have W:[(46:Int)].length<=1:=lr' _;have X:(a++[(46:Int)]).length<=254:=(by simp only[lA',List.length_singleton];omega);clear i m f l;generalize[(46:Int)]=E at*;go_wp2_with fail;clear Q;go_roundg (ls.length-(k+1));exact⟨k+1,a++E++x,by omega,by go_num,by rw[List.append_assoc],h,rfl,d⟩;omega
 .have R:Hid (jnL ls=a):=ah (by rw[i.out,bT ls k (by omega)];simp[jnG]);clear i;go_wp2;go_ret2;exact⟨by rw[j.out,R.out];rfl,eR'⟩
end Go.Proofs.YtlmkgaoakcjlnaaGreatDoor
