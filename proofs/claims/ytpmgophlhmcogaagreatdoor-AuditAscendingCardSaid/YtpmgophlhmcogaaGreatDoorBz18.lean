/- Part Bz18. -/
import Derived.Test.YtpmgophlhmcogaaGreatDoorBz17
open Go.Proofs.Tryz
namespace Go.Proofs.YtpmgophlhmcogaaGreatDoor
set_option maxHeartbeats 25600000
set_option maxRecDepth 100000
open Go.RowKit
variable (T:aj)(t:TV)(l:List Int)(A:Option Addr)(n c:Nat)(w:World)
def lbG:List (List Int)->List Int->List Int->List (List Int)
 |L,cur,[]=>L++[cur]
 |L,cur,c::r=>if c=46 then lbG (L++[cur]) [] r else lbG L (cur++[c]) r
def kL(l:List Int):List (List Int):=lbG [] [] l
theorem au.kb{w w':World}{s:SV}{l:List Int}(h:au w s l)(g:∀b o,aK s.a=some b->w'.cell? ⟨b,o,none⟩=w.cell? ⟨b,o,none⟩):au w' s l:=
 ⟨h.1,λi x d=>by
  obtain⟨b,o,c,f⟩:=h.2 i x d
  exact⟨b,o,c,by rw[g b _ (by rw[c];rfl)];exact f⟩⟩
theorem Gm{w w':World}{row:Option Nat}(h:w.grownBy w' row){b:Nat}(a:b<w.heap.size)(c:some b≠row)(o:Nat):w'.cell? ⟨b,o,none⟩=w.cell? ⟨b,o,none⟩:=by
 unfold World.cell?;rw[h.block b a c]
abbrev uH(w:World)(base:Nat)(A:Option Addr)(n c:Nat)(S:List SV):Prop:=Own w base 22 1 A n c (S.map SV.v)
structure LbS(w0 w:World)(g C B:Nat)(S:List SV)(L:List (List Int))(z:SV)(cur:List Int):Prop where
 own:uH w w0.heap.size (some ⟨g,0,none⟩) (S.length+1) C (S++[z])
 eq:S.length=L.length
 ok:∀(i:Nat)s x,S[i]? =some s->L[i]? =some x->au w s x/\∀b,aK s.a=some b->b<B/\b≠g
 last:aB w B z.a z.n z.c cur
 lne:aK z.a≠some g
 b0:w0.heap.size<=B
 b1:B<=w.heap.size
 ext:Ext w0 w
theorem LbS.turn{p w w':World}{g C B:Nat}{S:List SV}{L:List (List Int)}{z z':SV}{A f:List Int}(h:LbS p w g C B S L z A)(E:∀b,b<w.heap.size->some b≠aK z.a->w'.heap[b]? =w.heap[b]?)(D:w.heap.size<=w'.heap.size)
 (P:aB w' B z'.a z'.n z'.c f) (F:aK z'.a≠some g) (Q:Ext p w'):LbS p (w'.setCell ⟨g,S.length,none⟩ z'.v) g C B S L z' f:=by
 have k:=Own.lt h.own g rfl;have j:uH w' p.heap.size (some ⟨g,0,none⟩) (S.length+1) C (S++[z]):=by
  refine⟨h.own.1,?_⟩;rcases h.own.2 with⟨G,_⟩|⟨R,H,I,d,m,J,K⟩
  .cases G
  .injection d with d M q;injection d with d;injection d with d;subst d q;refine .inr ⟨g,C,I,rfl,m,?_,K⟩;rw[E g k.2 (λe=>h.lne e.symm)];exact J
 have l:=World.ownsRow.stored j S.length z'.v;refine⟨?_,h.eq,λi s x N r=>?_,?_,F,h.b0,by simp;exact Nat.le_trans h.b1 D,Q.lG k.1 _⟩
 .have:=l.1;unfold uH Own;simpa using this
 .obtain⟨d,m⟩:=h.ok i s x N r;refine⟨d.kb (λb o O=>?_),m⟩;obtain⟨t,y⟩:=m b O;rw[World.cell?_setCell_far _ _ _ _ (λe=>y e.symm)];unfold World.cell?;rw[E b (lt' t h.b1) (λe=>by have:=(Own.lt h.last b e.symm).1;omega)]
 .exact World.ownsRow.kept P l.2 (by
   rw[vZ]
   exact .inr F)
theorem LbS.more{M w:World}{g C B:Nat}{S:List SV}{L:List (List Int)}{z:SV}{y:List Int}(h:LbS M w g C B S L z y)(P:S.length<=1099511000000):
 ∃g' C' w',(∀ty,(Builtin.append_ #[102,102] ty #[.slice (some ⟨g,0,none⟩) (S.length+1) C,.slice (some ⟨w.heap.size,0,none⟩) 1 1]).run prog (w.alloc (.cells #[.slice none 0 0] 22))=.ok (.slice (some ⟨g',0,none⟩) (S.length+1+1) C') w')/\LbS M w' g' C' w'.heap.size (S++[z]) (L++[y]) iW []:=by
 have c:Ext w (w.alloc (.cells #[.slice none 0 0] 22)):=eR'.aA _;obtain⟨N,C',w',q,d,l,A⟩:=wH (T:=102) underlying102 infoSl rfl (by omega) (Own.ext h.own c) (some ⟨w.heap.size,0,none⟩) 1 1 [.slice none 0 0] rfl
  (λj u r=>by
   refine⟨w.heap.size,0,rfl,?_⟩;rw[Nat.zero_add,World.cell?_alloc_new]
   match j,r with
   |0,r=>simpa using r
   |j+1,r=>simp at r)
  (by intro u J;simp at J;subst J;rfl) (by simp only[maxLen];omega) (by omega) (Nat.le_trans h.ext.b.size c.b.size)
 obtain⟨g',rfl⟩:=Own.some_ d (by omega);have D:=Own.lt h.own g rfl;have O:=Own.lt d g' rfl;refine⟨g',C',w',q,?_,by simp[h.eq],λi s x p f=>?_,Own.nil_ _ _ _ _,by simp[aK],Nat.le_trans (Nat.le_trans h.ext.b.size c.b.size) l.size,lr' _,dP (h.ext.trans' c) l (λk E=>by injection E with E;subst E;exact D.1)⟩
 .have e:S.length+1+1=(S++[z]).length+1:=by simp
  rw[<- e];unfold uH;simpa using d
 .have keep:∀{s:SV}{x:List Int},au w s x->(∀b,aK s.a=some b->b<w.heap.size/\b≠g)->au w' s x/\∀b,aK s.a=some b->b<w'.heap.size/\b≠g':=by
   intro s x F t;refine⟨(F.ext c).kb (λb o m=>?_),λb m=>?_⟩
   .obtain⟨G,H⟩:=t b m;exact Gm l (lt' G c.b.size) (by intro e;injection e with e;exact H e) o
   .obtain⟨G,H⟩:=t b m;refine⟨lt' G (Nat.le_trans c.b.size l.size),λe=>?_⟩;rcases A with n|n
    .injection n with n;exact H (e.trans n)
    .injection n with n;have:=c.b.size;simp at n;omega
  by_cases K:i<S.length
  .rw[List.getElem?_append_left K]at p;rw[List.getElem?_append_left (by rw[<- h.eq];exact K)]at f;obtain⟨F,t⟩:=h.ok i s x p f;exact keep F (λb m=>⟨lt' (t b m).1 h.b1,(t b m).2⟩)
  .have I:i=S.length:=by
    have:=(List.getElem?_eq_some_iff.1 p).1;simp at this;omega
   subst I;rw[List.getElem?_append_right (lr' _)]at p;rw[List.getElem?_append_right (by rw[h.eq];exact lr' _),h.eq]at f;simp at p f;subst p f;exact keep (aB.ints h.last) (λb m=>⟨(Own.lt h.last b m).2,λe=>h.lne (by rw[m,e])⟩)
def vS(w0 w:World)(A:Option Addr)(N C:Nat)(ls:List (List Int)):Prop:=
 ∃g S,A=some ⟨g,0,none⟩/\uH w w0.heap.size A N C S/\S.length=N/\ls.length=N/\∀(i:Nat)s x,S[i]? =some s->ls[i]? =some x->au w s x/\∀b,aK s.a=some b->b<w.heap.size/\b≠g
theorem LbS.done{m w:World}{g C B:Nat}{S:List SV}{L:List (List Int)}{z:SV}{f:List Int}(h:LbS m w g C B S L z f):vS m w (some ⟨g,0,none⟩) (S.length+1) C (L++[f]):=by
 refine⟨g,S++[z],rfl,h.own,by simp,by simp[h.eq],λi s x c a=>?_⟩;by_cases k:i<S.length
 .rw[List.getElem?_append_left k]at c;rw[List.getElem?_append_left (by rw[<- h.eq];exact k)]at a;obtain⟨n,l⟩:=h.ok i s x c a;exact⟨n,λb d=>⟨lt' (l b d).1 h.b1,(l b d).2⟩⟩
 .have j:i=S.length:=by
   have:=(List.getElem?_eq_some_iff.1 c).1;simp at this;omega
  subst j;rw[List.getElem?_append_right (lr' _)]at c;rw[List.getElem?_append_right (by rw[h.eq];exact lr' _),h.eq]at a;simp at c a;subst c a;exact⟨aB.ints h.last,λb d=>⟨(Own.lt h.last b d).2,λe=>h.lne (by rw[d,e])⟩⟩
def PW(w:World)(ls:List (List Int))(e:Ending)(w':World):Prop:=∃A N C,e=.returned (.slice A N C)/\vS w w' A N C ls/\Ext w w'
def PO(w:World)(l:List Int)(gh:Nat)(s3 s10:Value)(wx:World):Prop:=
 ∃(g C B k:Nat)(S:List SV)(L:List (List Int))(z:SV)(cur:List Int),gh+k=l.length/\s3=.slice (some ⟨g,0,none⟩) (S.length+1) C/\s10=.int .i64 k/\S.length<=k/\z.n<=k/\Hid (LbS w wx g C B S L z cur)/\Hid (kL l=lbG L cur (l.drop k))
theorem PU(hi:au w ⟨A,n,c⟩ l)(a6:l.length<=1000000):Calls prog 115 #[.slice A n c] w (PW w (kL l)):=by
 have Q:=hi.len.1;subst Q;have HI:=ah hi;clear hi;have F:Ext w (w.alloc (.cells #[.slice none 0 0] 22)):=eR'.aA _
 have G:Hid (LbS w (w.alloc (.cells #[.slice none 0 0] 22)) w.heap.size 1 (w.heap.size+1) [] [] iW []):=ah ⟨by
  refine⟨rfl,.inr ⟨w.heap.size,1,#[.slice none 0 0],rfl,lr' _,heap_alloc_new w _,lr' _,by simp only[maxLen];omega,rfl,rfl⟩⟩,rfl,λi s x h=>by simp at h,Own.nil_ _ _ _ _,by simp[aK],by omega,by simp,F⟩
 go_enter func115,ntmps115;go_wp2_with fail;clear F;go_loopg[3,10] l.length (λgh s3 R wx=>PO w l gh s3 R wx);exact⟨_,1,_,0,[],[],iW,[],by omega,rfl,rfl,by simp,lr' _,G,rfl⟩;obtain⟨g,C,B,k,S,L,z,q,hg,rfl,rfl,ab,T,H,E⟩:=hrel;clear G;by_cases N:k<l.length
 .obtain⟨b,o,hA,ad⟩:=(HI.out.ext H.out.ext).at_ N;subst hA;have O:Hid (lbG L q (l.drop k)=if l[k]=46 then lbG (L++[q]) [] (l.drop (k+1))else lbG L (q++[l[k]]) (l.drop (k+1))):=ah (by rw[drop_at l k N];rfl);generalize l[k]=x at*;by_cases r:x=46
  .have D:=aF E (O.out.trans (pP' r));have e1:(x==46)=true:=(by rw[bq'];exact r);obtain⟨g',C',w',m,H2⟩:=H.out.more (by omega);have U:=ah H2;have I:(S++[z]).length=S.length+1:=(by simp);clear H E O r H2;go_wp2_with(at_builtin;refine bP rfl _ _ _ rfl _ _ rfl rfl _ _ m ?_);go_roundg (l.length-(k+1));exact⟨g',C',_,k+1,S++[z],L++[q],iW,[],by omega,by rw[I],by go_num,by rw[I];omega,zl' _,U,D⟩;omega
  .have D:=aF E (O.out.trans (nN' r));have e1:(x==46)=false:=(by rw[aP];exact r);have t:=Own.lt H.out.own g rfl;have J:wr.cell? ⟨g,S.length,none⟩=some (.slice z.a z.n z.c):=by
    have:=World.ownsRow.cellAt H.out.own S.length (by omega);rw[this];simp
   have V:=λW(h:Ext wr W)=>h.b.frozen (p:=⟨g,S.length,none⟩) t.2
   have K:wr.frozen? ⟨g,S.length,none⟩=false:=World.ownsRow.frozenAt H.out.own S.length;obtain⟨za,X,zc⟩:=z;have am:(0:Int)<=(S.length:Int):=bI _;simp only at J T;have d:Ext wr (wr.alloc (.cells #[.int .i64 x] 3)):=eR'.aA _;obtain⟨Y,c5,P,m,j,f,Z⟩:=gK (Own.ext H.out.last d) (iP wr x) (by simp only;omega) (Nat.le_trans H.out.b1 d.b.size);simp only at m j f Z;have M:Ext w P:=dP (H.out.ext.trans' d) f (λk N=>Nat.le_trans H.out.b0 (Own.lt H.out.last k N).1);have y:aK Y≠some g:=by
    rcases Z with h|h
    .rw[h];exact H.out.lne
    .rw[h];intro e;injection e with e;have:=d.b.size;omega
   have U:=ah (H.out.turn (w':=P) (z':=⟨Y,X+1,c5⟩) (λb hb Q=>by
    have h1:=d.b.block b hb;have h2:=f.block b (lt' hb d.b.size) Q
    rw[h2,h1]) (Nat.le_trans d.b.size f.size) j y M)
   have an:P.cell? ⟨g,S.length,none⟩=some (.slice za X zc):=by
    rw[Gm f (lt' t.2 d.b.size) (λe=>H.out.lne e.symm),d.b.cell (p:=⟨g,S.length,none⟩) t.2,J]
   have ao:P.frozen? ⟨g,S.length,none⟩=false:=by
    have h2:=f.block g (lt' t.2 d.b.size) (λe=>H.out.lne e.symm);have h1:=d.b.block g t.2;unfold World.frozen? at K |-;rw[h2,h1];exact K
   clear H E O d j f Z M y V r;go_wp2_with(at_builtin;refine bP rfl _ _ _ rfl _ _ rfl rfl _ _ m ?_);go_roundg (l.length-(k+1));exact⟨g,C,B,k+1,S,L,⟨Y,X+1,c5⟩,q++[x],by omega,rfl,by go_num,by omega,by simp only;omega,U,D⟩;omega
 .have HF:Hid (kL l=L++[q]):=ah (by rw[E.out,bV l k (by omega)];rfl);have hd:=H.out.done;have hx:=H.out.ext;clear H E;go_wp2;go_ret;exact⟨_,_,_,rfl,by rw[HF.out];exact hd,hx⟩
def pV(T:aj)(c:Int):List Int:=if 65<=c/\c<=90 then[c+32]else aG T.mps c
def iG(T:aj)(c:Int):List Int:=if dM T c=3 then pV T c else if dM T c=1\/dM T c=4 then[c]else[]
def iV(T:aj):Int->List Int->Int
 |_,[]=> -1
 |i,c::r=>if dM T c=0 then i else iV T (i+1) r
def je(T:aj)(l:List Int):Int:=if aS T l≠0 then aS T l else if iV T 0 l≠ -1 then 16 else if 4096<((l.flatMap (iG T)).length:Int)then 7 else 0
def oD(T:aj)(l:List Int):Int:=if aS T l≠0 then 0 else if iV T 0 l≠ -1 then iV T 0 l else 0
def jH(T:aj)(l:List Int):List Int:=if je T l=0 then l.flatMap (iG T)else[]
def QD(w:World)(T:aj)(l:List Int)(e:Ending)(w':World):Prop:=∃B m d,e=.returned (.tuple #[.slice B m d,.int .i64 (oD T l),.int .i64 (je T l)])/\Ext w w'/\au w' ⟨B,m,d⟩ (jH T l)
theorem GL{T:aj}(h:bC T=true):T.mps.length<=256/\∀x,(aG T.mps x).length<=18:=by
 simp only[bC,aQ]at h;have b:jE T=true:=by simp only[h]
 have a:gX T=true:=by simp only[h]
 simp only[jE,maps,qC,aQ,aW]at b;simp only[gX,maps,jC,aQ]at a;exact⟨by omega,Aw a.2.1⟩
theorem GH{T:aj}(h:bC T=true)(x:Int):(pV T x).length<=18:=by
 unfold pV;split
 .simp
 .exact(GL h).2 x
theorem Qd{T:aj}(h:bC T=true)(x:Int):(iG T x).length<=18:=by
 unfold iG;split
 .exact GH h x
 .split<;>simp
theorem BP{f:Int->List Int}(a:∀x,(f x).length<=18):∀l:List Int,(l.flatMap f).length<=18*l.length
 |[]=>by simp
 |x::r=>by
  have b:=BP a r;have c:=a x;simp only[List.flatMap_cons,lA',List.length_cons];omega
theorem QG(T:aj)(c:Int)(w:World)(ht:aN w t T)(j:bC T=true)(R:0<=c/\c<=1114111):
 Calls prog 177 #[t.v,.int .i64 c] w λe w'=>∃B m d,e=.returned (.slice B m d)/\au w' ⟨B,m,d⟩ (pV T c)/\Ext w w':=by
 have b:=dI w t;have C:=ah (ht.ay b);have D:=ah ((GL j).2 c);have r:=ah (iR j);have E:=ah (yV j);by_cases f:65<=c/\c<=90
 .have k:Hid (pV T c=[c+32]):=ah (by rw[pV,pP' f]);obtain⟨F,G⟩:=f;have s:decide (65<=c)=true:=dt' F;have I:decide (c<=90)=true:=dt' G;have S:c+97-65=c+32:=by omega
  have J:Hid (∀H,(tW' w t).heap.size=H->au ((tW' w t).alloc (.cells #[.int .i64 (c+32)] 3)) ⟨some ⟨H,0,none⟩,1,1⟩ [c+32]):=ah (by rintro _ rfl;exact iP _ _);have l:=b.trans' ((Ext.refl (tW' w t)).aA (.cells #[.int .i64 (c+32)] 3));clear j;go_enter func177,ntmps177;go_wp2;go_ret;exact⟨_,_,_,rfl,by rw[k.out];exact J.out _ (by simp),l⟩
 .have k:Hid (pV T c=aG T.mps c):=ah (by rw[pV,nN' f]);have K:(decide (65<=c)=true/\decide (c<=90)=false)\/decide (65<=c)=false:=by
   by_cases h:65<=c
   .exact .inl ⟨dt' h,by rw[bf];exact λL=>f ⟨h,L⟩⟩
   .exact .inr (df' h)
  clear j f;obtain⟨x,M,y,z,g,N⟩:=uf T.mps t.s8.a t.s8.n t.s8.c c _ C.out.mps r.out.mps.1 r.out.mps.2;have O:=ah z;have o:Hid (aG T.mps c=[]->x=none/\y=0):=ah λh=>by
   have:=g (uX E.out.mps h);exact⟨this.1,this.2.2⟩
  clear z g;rcases K with⟨s,I⟩|s
  all_goals
   go_enter func177,ntmps177;go_wp2_with fail;refine(N _ eR').mono ?_;rintro e P⟨rfl,i⟩;go_wp2_with fail;refine(AZ _ x M y P (O.out.ext i) (by have:=D.out;omega) o.out).mono ?_;rintro e U⟨B,d,rfl,A,p,q⟩;have l:=(b.trans' i).trans' q;have Q:=ah (aB.ints A);clear A p;go_wp2;go_ret;exact⟨_,_,_,rfl,by rw[k.out];exact Q.out,l⟩
def QH(T:aj)(wb:World)(l:List Int)(gh:Nat)(s9 s23:Value)(wx:World):Prop:=
 ∃(k:Nat)(A:Option Addr)(n c:Nat),k+gh=l.length/\s23=.int .i64 k/\s9=.slice A n c/\Hid (aB wx wb.heap.size A n c ((l.take k).flatMap (iG T)))/\Hid (Ext wb wx)/\Hid (iV T k (l.drop k)=iV T 0 l)
theorem Qg(ht:aN w t T)(hi:au w ⟨A,n,c⟩ l):
 Calls prog 113 #[t.v,.slice A n c] w (QD w T l):=by
 have B:=dI w t;have K:=ah B;have HT:=ah (ht.ay B);have HI:=ah (hi.ext B);have hn:=hi.len.1;subst hn;clear ht hi B;go_enter func113,ntmps113;go_wp2_with fail;refine(qo t T l A _ c _ HT.out HI.out).mono ?_;rintro e O⟨v,rfl,L,_⟩;have V:=ah L;have W:=bT' t L;clear L;by_cases j:aS T l=0
 .obtain⟨hw,hl⟩:=qy j;have al:(aS T l != 0)=false:=bZ' j;have X:Hid (je T l=if iV T 0 l≠ -1 then 16 else if 4096<((l.flatMap (iG T)).length:Int)then 7 else 0):=ah (by rw[je,nN' (by rw[j];simp)]);have Y:Hid (oD T l=if iV T 0 l≠ -1 then iV T 0 l else 0):=ah (by rw[oD,nN' (by rw[j];simp)]);have HW:=ah hw;have HL:=ah hl;have Ar:=ah (MC j);clear j hw hl W;go_wp2;go_loopg[9,23] l.length (λgh s9 am wx=>QH T O l gh s9 am wx);exact⟨0,none,0,0,by omega,rfl,rfl,ah (Own.nil_ _ _ _ _),ah eR',ah rfl⟩;obtain⟨k,A2,i,c2,bd,rfl,rfl,C,Z,HD⟩:=hrel;have P:=ah (V.out.trans' Z.out);have W:=bT' t P.out;have an:=ah (HI.out.ext P.out)
  have a0:Hid (((l.take k).flatMap (iG T)).length<=18*4096):=ah (by
   have M:=BP (Qd HW.out) (l.take k);rw[List.length_take]at M;have:=HL.out
   omega)
  have D:=ah (aB.ints C.out).len.1;by_cases E:k<l.length
  .obtain⟨F,rfl⟩:=gS' gk;obtain⟨b,o,rfl,bh⟩:=an.out.at_ E;have G:=ah (yG (iG T) l k E);have ao:=ah (Ls (Ar.out _ (gM' E)));have H:Hid (iV T k (l.drop k)=if dM T l[k]=0 then(k:Int)else iV T (k+1) (l.drop (k+1))):=ah (by rw[drop_at l k E];rfl);have g:Hid (iG T l[k]=if dM T l[k]=3 then pV T l[k]else if dM T l[k]=1\/dM T l[k]=4 then[l[k]]else[]):=rfl;generalize l[k]=x at*;have bi:=z0' k;have bj:(k:Int)<(l.length:Int):=(by omega);have bk:l.length<=4096:=HL.out;go_wp2_with fail;refine(yA t T x wr (HT.out.ay P.out) (iR HW.out)).mono ?_;rintro e w3⟨rfl,m⟩;have p:=ah (Z.out.trans' m);have aU:=ah (Own.ext C.out m);have lK:=bT' t (P.out.trans' m);have vK:=ah (P.out.trans' m);clear m W C;generalize dM T x=s at*;by_cases h0:s=0
   .subst h0;have a3:=ah (HD.out.symm.trans (H.out.trans (pP' rfl)));have hb:=K.out.trans' vK.out;clear H g;go_wp2;go_ret3;have a4:iV T 0 l≠ -1:=(by rw[a3.out];omega);have a5:je T l=16:=(by rw[X.out,pP' a4]);exact⟨none,0,0,by rw[a5,Y.out,pP' a4,a3.out];rfl,hb,by rw[jH,nN' (by rw[a5];decide)];exact au.nil_ _⟩
   .have I:Hid (iV T ((k+1:Nat):Int) (l.drop (k+1))=iV T 0 l):=ah (by
     have M:=H.out;rw[nN' h0]at M
     exact(M.symm.trans HD.out))
    have q0:(s==0)=false:=(by rw[aP];exact h0);clear H HD h0;by_cases J:s=3
    .have q:Hid (iG T x=pV T x):=ah (by rw[g.out,pP' J]);have q3:(s==3)=true:=(by rw[bq'];exact J);have q1:(s==1)=false:=bF';have q4:(s==4)=false:=bF';clear J g;go_wp2_with fail;refine(QG t T x w3 (HT.out.ay vK.out) HW.out ao.out).mono ?_;rintro e w4⟨A3,n3,c3,rfl,N,r⟩;have av:=N.len.1;have aw:=GH HW.out x;obtain⟨Q,R,w5,a,d,f,jM⟩:=gK (Own.ext aU.out r) N (by have:=a0.out;have:=D.out;omega) (p.out.trans' r).b.size;have S:Hid (aB w5 O.heap.size Q (i+n3) R ((l.take (k+1)).flatMap (iG T))):=ah (by rw[G.out,q.out];exact d);have bg:Hid (Ext O w5):=ah (dP (p.out.trans' r) f (λk hk=>(Own.lt (Own.ext aU.out r) k hk).1));clear d f jM N r av aw lK;go_wp2_with(at_builtin;refine bP rfl _ _ _ rfl _ _ rfl rfl _ _ a ?_);clear a;go_roundg F;exact⟨k+1,Q,i+n3,R,by omega,by go_num,rfl,S,bg,I⟩;omega
    .have q3:(s==3)=false:=(by rw[aP];exact J);by_cases y:s=1\/s=4
     .have q:Hid (iG T x=[x]):=ah (by rw[g.out,nN' J,pP' y]);have aD:(s==1)=true\/((s==1)=false/\(s==4)=true):=by
       rcases y with h|h
       .exact .inl (by rw[bq'];exact h)
       .exact .inr ⟨by rw[aP];omega,by rw[bq'];exact h⟩
      have z:Ext w3 (w3.alloc (.cells #[.int .i64 x] 3)):=eR'.aA _;obtain⟨Q,R,w5,a,d,f,jM⟩:=gK (Own.ext aU.out z) (iP w3 x) (by have:=a0.out;have:=D.out;omega) (p.out.trans' z).b.size;have S:Hid (aB w5 O.heap.size Q (i+1) R ((l.take (k+1)).flatMap (iG T))):=ah (by rw[G.out,q.out];exact d);have bg:Hid (Ext O w5):=ah (dP (p.out.trans' z) f (λk hk=>(Own.lt (Own.ext aU.out z) k hk).1));clear d f jM z lK y J g;rcases aD with q1|⟨q1,q4⟩
      .go_wp2_with(at_builtin;refine bP rfl _ _ _ rfl _ _ rfl rfl _ _ a ?_);clear a;go_roundg F;exact⟨k+1,Q,i+1,R,by omega,by go_num,rfl,S,bg,I⟩;omega
      .go_wp2_with(at_builtin;refine bP rfl _ _ _ rfl _ _ rfl rfl _ _ a ?_);clear a;go_roundg F;exact⟨k+1,Q,i+1,R,by omega,by go_num,rfl,S,bg,I⟩;omega
     .have q:Hid (iG T x=[]):=ah (by rw[g.out,nN' J,nN' y]);have q1:(s==1)=false:=bF';have q4:(s==4)=false:=bF';have S:Hid (aB w3 O.heap.size A2 i c2 ((l.take (k+1)).flatMap (iG T))):=ah (by rw[G.out,q.out,List.append_nil];exact aU.out);clear y J g lK;go_wp2;go_roundg F;exact⟨k+1,A2,i,c2,by omega,by go_num,rfl,S,p,I⟩;omega
  .have HE:Hid ((l.take k).flatMap (iG T)=l.flatMap (iG T)):=ah (by rw[tL' (by omega)]);have a7:Hid (iV T 0 l= -1):=ah (by rw[<- HD.out,List.drop_of_length_le (by omega)];rfl);have a8:=K.out.trans' P.out;have a9:Hid (oD T l=0):=ah (by rw[Y.out,nN' (by rw[a7.out];simp)]);have aa:=ah (X.out.trans (nN' (by rw[a7.out];simp)));clear W;by_cases U:4096<((l.flatMap (iG T)).length:Int)
   .have G:Hid (je T l=7):=ah (by rw[aa.out,pP' U]);have hd:decide (4096<(i:Int))=true:=(by rw[aW,D.out,HE.out];exact U);have aM:decide (4096<i)=true:=(by rw[aW];rw[aW]at hd;omega);clear U;go_wp2;go_ret3;exact⟨none,0,0,by rw[G.out,a9.out];rfl,a8,by rw[jH,G.out,nN' (by decide)];exact au.nil_ _⟩
   .have G:Hid (je T l=0):=ah (by rw[aa.out,nN' U]);have hd:decide (4096<(i:Int))=false:=(by rw[bf,D.out,HE.out];exact U);have aM:decide (4096<i)=false:=(by rw[bf];rw[bf]at hd;omega);have aR:Hid (au wr ⟨A2,i,c2⟩ (l.flatMap (iG T))):=ah (by rw[<- HE.out];exact aB.ints C.out);clear U;go_wp2;go_ret3;exact⟨A2,i,c2,by rw[G.out,a9.out];rfl,a8,by rw[jH,G.out,pP' rfl];exact aR.out⟩
 .have al:(aS T l != 0)=true:=bN' j
  have HZ:Hid (je T l=aS T l/\je T l≠0/\oD T l=0):=ah (by
   have M:je T l=aS T l:=by rw[je,pP' j]
   exact⟨M,by rw[M];exact j,by rw[oD,pP' j]⟩)
  have hb:=K.out.trans' V.out;clear j W;go_wp2;go_ret3;exact⟨none,0,0,by rw[HZ.out.1,HZ.out.2.2];rfl,hb,by rw[jH,nN' HZ.out.2.1];exact au.nil_ _⟩
end Go.Proofs.YtpmgophlhmcogaaGreatDoor
