/- Part Bb17. -/
import Derived.Lib.SlBytesConst
import Derived.Test.YtlmkgaoakcjlnaaGreatDoorBb16
open Go.Proofs.Tryz
namespace Go.Proofs.YtlmkgaoakcjlnaaGreatDoor
set_option maxHeartbeats 25600000
set_option maxRecDepth 100000
open Go.RowKit
def jJ(T:aj)(c:Int):List Int:=if um T c=true then[]else if aJ T.dZ c=[]then[c]else aJ T.dZ c
def kN(T:aj)(l:List Int):Int:=if aX T l≠0 then aX T l else if 4096<((l.flatMap (jJ T)).length:Int)then 7 else 0
def qK(T:aj)(l:List Int):List Int:=if kN T l=0 then l.flatMap (jJ T)else[]
def He(w:World)(l:List Int)(v:Int)(e:Ending)(w':World):Prop:=∃B m d,e= .returned (.tuple #[.slice B m d,.int .i64 v])/\Ext w w'/\aF w' ⟨B,m,d⟩ l
theorem H9{T:aj}(h:bY T=true):∀x,(aJ T.dZ x).length<=18:=by
 simp only[bY,aW]at h;have a:iV T=true:=by simp only[h]
 simp only[iV,maps,jX,aW]at a;exact Fq a.2.2.2.1
theorem Vw{T:aj}(h:bY T=true)(x:Int):(jJ T x).length<=18:=by
 unfold jJ;split
 .simp
 .split
  .simp
  .exact H9 h x
theorem aYS(t:TV)(T:aj)(c:Int)(w:World)(ht:aV w t T)(i:bY T=true):
 Calls prog 243 #[t.v,.int .i64 c] w λe w'=>∃B m d,e= .returned (.slice B m d)/\aF w' ⟨B,m,d⟩ (aJ T.dZ c)/\Ext w w':=by
 have b:=cZ w t;have x:=ah (ht.aB b);have y:=ah (H9 i c);have o:=ah (mF i);have z:=ah (DR i);clear i;obtain⟨p,A,q,r,f,C⟩:=Af T.dZ t.s11.a t.s11.n t.s11.c c _ x.out.dZ o.out.dZ.1 o.out.dZ.2;have D:=ah r;have j:Hid (aJ T.dZ c=[]->p=none/\q=0):=ah λh=>by
  have:=f (Bl z.out.dZ h);exact⟨this.1,this.2.2⟩
 clear r f;go_enter func243,ntmps243;go_wp2_with fail;refine(C _ (Ext.refl _)).mono ?_;rintro e E⟨rfl,g⟩;go_wp2_with fail;refine(Jv _ p A q E (D.out.ext g) (by have:=y.out;omega) j.out).mono ?_;rintro e H⟨B,d,rfl,s,k,l⟩;have F:=(b.trans' g).trans' l;have G:=ah (aN.ints s);clear s k;go_wp2;go_ret;exact⟨_,_,_,rfl,G.out,F⟩
theorem aYP(t:TV)(T:aj)(c:Int)(w:World)(ht:aV w t T):
 Calls prog 199 #[t.v,.int .i64 c] w λe w'=>∃B m d,e= .returned (.slice B m d)/\aF w' ⟨B,m,d⟩ (aJ T.dZ c)/\Ext w w':=by
 have a:=cZ w t;have g:=ah (ht.aB a);go_enter func199,ntmps199;go_wp2_with fail;refine(Dq T.dZ _ _ _ c _ g.out.dZ).mono ?_;rintro e j⟨k,l,n,rfl,f,b⟩;have h:=ah f;have i:=a.trans' b;clear f b;go_wp2;go_ret;exact⟨_,_,_,rfl,h.out,i⟩
def Vx(T:aj)(wb:World)(l:List Int)(gh:Nat)(s9 s23:Value)(wx:World):Prop:=
 ∃(k:Nat)(A:Option Addr)(n c:Nat),k+gh=l.length/\s23= .int .i64 k/\s9= .slice A n c/\Hid (aN wx wb.heap.size A n c ((l.take k).flatMap (jJ T)))/\Hid (Ext wb wx)
theorem aYb(T:aj)(t:TV)(l:List Int)(A:Option Addr)(n c:Nat)(w:World)(ht:aV w t T)(hi:aF w ⟨A,n,c⟩ l):
 Calls prog 168 #[t.v,.slice A n c] w (He w (qK T l) (kN T l)):=by
 have z:=cZ w t;have N:=ah z;have HT:=ah (ht.aB z);have HI:=ah (hi.ext z);have hn:=hi.len.1;subst hn;clear ht hi z;go_enter func168,ntmps168;go_wp2_with fail;refine(xK t T l A _ c _ HT.out HI.out).mono ?_;rintro e G⟨v,rfl,H,_⟩;have O:=ah H;have P:∀k:Nat,G.cell? ⟨w.heap.size,k,none⟩=t.v.cells[k]? :=aQ H;clear H;by_cases F:aX T l=0
 .obtain⟨hw,hl⟩:=qA F;have ab:(aX T l != 0)=false:=bZ' F;have Q:Hid (kN T l=if 4096<((l.flatMap (jJ T)).length:Int)then 7 else 0):=ah (by rw[kN,if_neg (by rw[F];simp)]);have HW:=ah hw;have HL:=ah hl;clear F hw hl P;go_wp2;go_loopg[8,23] l.length (λgh s9 ac wx=>Vx T G l gh s9 ac wx);exact⟨0,none,0,0,by omega,rfl,rfl,ah (Own.nil_ _ _ _ _),ah (Ext.refl _)⟩;obtain⟨k,A2,j,c2,b2,rfl,rfl,I,R⟩:=hrel;have L:=ah (O.out.trans' R.out);have P:∀k:Nat,wr.cell? ⟨w.heap.size,k,none⟩=t.v.cells[k]? :=aQ L.out;have ad:=ah (HI.out.ext L.out)
  have S:Hid (((l.take k).flatMap (jJ T)).length<=18*4096):=ah (by
   have h1:=Es (Vw HW.out) (l.take k);rw[List.length_take]at h1;have:=HL.out
   omega)
  have B:=ah (aN.ints I.out).len.1;by_cases U:k<l.length
  .obtain⟨J,rfl⟩:=gS' gk;obtain⟨b,o,rfl,b4⟩:=ad.out.at_ U;have C:=ah (Ai (jJ T) l k U);have h:Hid (jJ T l[k]=if um T l[k]=true then[]else if aJ T.dZ l[k]=[]then[l[k]]else aJ T.dZ l[k]):=rfl;have ae:=ah (H9 HW.out l[k]);generalize l[k]=x at*;have b5:=z0' k;have b6:(k:Int)<(l.length:Int):=(by omega);have b7:l.length<=4096:=HL.out;go_wp2_with fail;refine(Ou t T x wr (HT.out.aB L.out) (mF HW.out)).mono ?_;rintro e w3⟨rfl,m⟩;have V:=ah (R.out.trans' m);have dP:=ah (Own.ext I.out m);have gJ:∀k:Nat,w3.cell? ⟨w.heap.size,k,none⟩=t.v.cells[k]? :=aQ (L.out.trans' m);have lJ:=ah (L.out.trans' m);clear m P ;cases W:um T x with
   |true=>
    rw[W]at h;have p:Hid (jJ T x=[]):=ah (h.out.trans (if_pos rfl));have X:Hid (aN w3 G.heap.size A2 j c2 ((l.take (k+1)).flatMap (jJ T))):=ah (by rw[C.out,p.out,List.append_nil];exact dP.out);clear h gJ;go_wp2;go_roundg J;exact⟨k+1,A2,j,c2,by omega,by go_num,rfl,X,V⟩;omega
   |false=>
    rw[W,if_neg (by simp)]at h;have yL:=h;clear h;go_wp2_with fail;refine(aYS t T x w3 (HT.out.aB lJ.out) HW.out).mono ?_;rintro e w4⟨A3,K,c3,rfl,Y,q⟩;have D:=ah (V.out.trans' q);have oP:=ah (Own.ext dP.out q);have IL:∀k:Nat,w4.cell? ⟨w.heap.size,k,none⟩=t.v.cells[k]? :=aQ (lJ.out.trans' q);have b8:=ah (lJ.out.trans' q);have s:=ah (Y);clear q gJ dP Y;by_cases i:aJ T.dZ x=[]
    .have p:Hid (jJ T x=[x]):=ah (yL.out.trans (if_pos i));have E:K=0:=(by have:=s.out.len.1;rw[i]at this;exact this);have y:Ext w4 (w4.alloc (.cells #[.int .i64 x] 3)):=(Ext.refl _).aC _;obtain⟨Z,c5,w5,f,d,g,jK⟩:=fO (Own.ext oP.out y) (iC w4 x) (by have:=S.out;have:=B.out;omega) (D.out.trans' y).b.size;have X:Hid (aN w5 G.heap.size Z (j+1) c5 ((l.take (k+1)).flatMap (jJ T))):=ah (by rw[C.out,p.out];exact d);have bC:Hid (Ext G w5):=ah (dU (D.out.trans' y) g (λk hk=>(Own.lt (Own.ext oP.out y) k hk).1));clear d g jK y i yL s;subst E;go_wp2_with(at_builtin;refine dH rfl _ _ _ rfl _ _ rfl rfl _ _ f ?_);clear f;go_roundg J;exact⟨k+1,Z,j+1,c5,by omega,by go_num,rfl,X,bC⟩;omega
    .have p:=ah (yL.out.trans (if_neg i));have E:0<K:=by
      have:=s.out.len.1;cases hq:aJ T.dZ x with
      |nil=>exact absurd hq i
      |cons a r=>rw[hq]at this;simp only[List.length_cons]at this;omega
     have d3:decide (0<K)=true:=decide_eq_true E;have EC:K<=18:=(by have h7:K=_:=s.out.len.1;have:=ae.out;omega);obtain⟨Z,c5,w5,f,d,g,jK⟩:=fO oP.out s.out (by have:=S.out;have:=B.out;omega) D.out.b.size;have X:Hid (aN w5 G.heap.size Z (j+K) c5 ((l.take (k+1)).flatMap (jJ T))):=ah (by rw[C.out,p.out];exact d);have bC:Hid (Ext G w5):=ah (dU D.out g (λk hk=>(Own.lt oP.out k hk).1));clear d g jK i yL EC E;go_wp2_with(at_builtin;refine dH rfl _ _ _ rfl _ _ rfl rfl _ _ f ?_);clear f;go_roundg J;exact⟨k+1,Z,j+K,c5,by omega,by go_num,rfl,X,bC⟩;omega
  .have HE:Hid ((l.take k).flatMap (jJ T)=l.flatMap (jJ T)):=ah (by rw[List.take_of_length_le (by omega)]);have a2:=N.out.trans' L.out;clear P;by_cases M:4096<((l.flatMap (jJ T)).length:Int)
   .have C:Hid (kN T l=7):=ah (by rw[Q.out,if_pos M]);have hd:decide (4096<(j:Int))=true:=(by rw[au,B.out,HE.out];exact M);have aq:decide (4096<j)=true:=(by rw[au];rw[au]at hd;omega);clear M;go_wp2;go_ret2;exact⟨none,0,0,by rw[C.out];rfl,a2,by rw[qK,C.out,if_neg (by decide)];exact aF.nil_ _⟩
   .have C:Hid (kN T l=0):=ah (by rw[Q.out,if_neg M]);have hd:decide (4096<(j:Int))=false:=(by rw[aA,B.out,HE.out];exact M);have aq:decide (4096<j)=false:=(by rw[aA];rw[aA]at hd;omega);have ar:Hid (aF wr ⟨A2,j,c2⟩ (l.flatMap (jJ T))):=ah (by rw[<- HE.out];exact aN.ints I.out);clear M;go_wp2;go_ret2;exact⟨A2,j,c2,by rw[C.out];rfl,a2,by rw[qK,C.out,if_pos rfl];exact ar.out⟩
 .have ab:(aX T l != 0)=true:=bN' F
  have HZ:Hid (kN T l=aX T l/\kN T l≠0):=ah (by
   have h1:kN T l=aX T l:=by rw[kN,if_pos F]
   exact⟨h1,by rw[h1];exact F⟩)
  have hb:=N.out.trans' O.out;clear F P;go_wp2;go_ret2;exact⟨none,0,0,by rw[HZ.out.1];rfl,hb,by rw[qK,if_neg HZ.out.2];exact aF.nil_ _⟩
theorem aYZ(T:aj)(t:TV)(l:List Int)(A:Option Addr)(n c:Nat)(w:World)(ht:aV w t T)(hi:aF w ⟨A,n,c⟩ l):
 Calls prog 129 #[t.v,.slice A n c] w (He w (qK T l) (kN T l)):=by
 have B:=cZ w t;have N:=ah B;have HT:=ah (ht.aB B);have HI:=ah (hi.ext B);have hn:=hi.len.1;subst hn;clear ht hi B;go_enter func129,ntmps129;go_wp2_with fail;refine(rW t T l A _ c _ HT.out HI.out).mono ?_;rintro e G⟨rfl,H⟩;have O:=ah H;have P:∀k:Nat,G.cell? ⟨w.heap.size,k,none⟩=t.v.cells[k]? :=aQ H;clear H;by_cases F:aX T l=0
 .obtain⟨hw,hl⟩:=qA F;have aa:(aX T l != 0)=false:=bZ' F;have Q:Hid (kN T l=if 4096<((l.flatMap (jJ T)).length:Int)then 7 else 0):=ah (by rw[kN,if_neg (by rw[F];simp)]);have HW:=ah hw;have HL:=ah hl;clear F hw hl P;go_wp2;go_loopg[7,19] l.length (λgh s9 ab wx=>Vx T G l gh s9 ab wx);exact⟨0,none,0,0,by omega,rfl,rfl,ah (Own.nil_ _ _ _ _),ah (Ext.refl _)⟩;obtain⟨k,A2,p,c2,b2,rfl,rfl,I,R⟩:=hrel;have L:=ah (O.out.trans' R.out);have P:∀k:Nat,wr.cell? ⟨w.heap.size,k,none⟩=t.v.cells[k]? :=aQ L.out;have ac:=ah (HI.out.ext L.out)
  have S:Hid (((l.take k).flatMap (jJ T)).length<=18*4096):=ah (by
   have h1:=Es (Vw HW.out) (l.take k);rw[List.length_take]at h1;have:=HL.out
   omega)
  have C:=ah (aN.ints I.out).len.1;by_cases U:k<l.length
  .obtain⟨J,rfl⟩:=gS' gk;obtain⟨b,o,rfl,b4⟩:=ac.out.at_ U;have D:=ah (Ai (jJ T) l k U);have h:Hid (jJ T l[k]=if um T l[k]=true then[]else if aJ T.dZ l[k]=[]then[l[k]]else aJ T.dZ l[k]):=rfl;have ad:=ah (H9 HW.out l[k]);generalize l[k]=x at*;have b5:=z0' k;have b6:(k:Int)<(l.length:Int):=(by omega);have b7:l.length<=4096:=HL.out;go_wp2_with fail;refine(aYP t T x wr (HT.out.aB L.out)).mono ?_;rintro e w3⟨A3,K,c3,rfl,V,q⟩;have ae:=ah (R.out.trans' q);have dP:=ah (Own.ext I.out q);have gJ:∀k:Nat,w3.cell? ⟨w.heap.size,k,none⟩=t.v.cells[k]? :=aQ (L.out.trans' q);have lJ:=ah (L.out.trans' q);have W:=ah (V);clear q P V;go_wp2_with fail;refine(Oi t T x w3 (HT.out.aB lJ.out)).mono ?_;rintro e X⟨rfl,i⟩;have s:=ah (ae.out.trans' i);have Y:=ah (Own.ext dP.out i);have IL:∀k:Nat,X.cell? ⟨w.heap.size,k,none⟩=t.v.cells[k]? :=aQ (lJ.out.trans' i);have ba:=ah (lJ.out.trans' i);have j:=ah (W.out.ext i);clear i W gJ dP;cases Z:um T x with
   |true=>
    rw[Z]at h;have y:Hid (jJ T x=[]):=ah (h.out.trans (if_pos rfl));have bJ:Hid (aN X G.heap.size A2 p c2 ((l.take (k+1)).flatMap (jJ T))):=ah (by rw[D.out,y.out,List.append_nil];exact Y.out);clear h IL j;go_wp2;go_roundg J;exact⟨k+1,A2,p,c2,by omega,by go_num,rfl,bJ,s⟩;omega
   |false=>
    rw[Z,if_neg (by simp)]at h;have yL:=h;clear h;by_cases m:aJ T.dZ x=[]
    .have y:Hid (jJ T x=[x]):=ah (yL.out.trans (if_pos m));have E:K=0:=(by have:=j.out.len.1;rw[m]at this;exact this);have z:Ext X (X.alloc (.cells #[.int .i64 x] 3)):=(Ext.refl _).aC _;obtain⟨A5,c5,w5,f,d,g,jK⟩:=fO (Own.ext Y.out z) (iC X x) (by have:=S.out;have:=C.out;omega) (s.out.trans' z).b.size;have bJ:Hid (aN w5 G.heap.size A5 (p+1) c5 ((l.take (k+1)).flatMap (jJ T))):=ah (by rw[D.out,y.out];exact d);have bC:Hid (Ext G w5):=ah (dU (s.out.trans' z) g (λk hk=>(Own.lt (Own.ext Y.out z) k hk).1));clear d g jK z m yL j;subst E;go_wp2_with(at_builtin;refine dH rfl _ _ _ rfl _ _ rfl rfl _ _ f ?_);clear f;go_roundg J;exact⟨k+1,A5,p+1,c5,by omega,by go_num,rfl,bJ,bC⟩;omega
    .have y:=ah (yL.out.trans (if_neg m));have E:0<K:=by
      have:=j.out.len.1;cases hq:aJ T.dZ x with
      |nil=>exact absurd hq m
      |cons a r=>rw[hq]at this;simp only[List.length_cons]at this;omega
     have d3:decide (0<K)=true:=decide_eq_true E;have EC:K<=18:=(by have h7:K=_:=j.out.len.1;have:=ad.out;omega);obtain⟨A5,c5,w5,f,d,g,jK⟩:=fO Y.out j.out (by have:=S.out;have:=C.out;omega) s.out.b.size;have bJ:Hid (aN w5 G.heap.size A5 (p+K) c5 ((l.take (k+1)).flatMap (jJ T))):=ah (by rw[D.out,y.out];exact d);have bC:Hid (Ext G w5):=ah (dU s.out g (λk hk=>(Own.lt Y.out k hk).1));clear d g jK m yL EC E;go_wp2_with(at_builtin;refine dH rfl _ _ _ rfl _ _ rfl rfl _ _ f ?_);clear f;go_roundg J;exact⟨k+1,A5,p+K,c5,by omega,by go_num,rfl,bJ,bC⟩;omega
  .have HE:Hid ((l.take k).flatMap (jJ T)=l.flatMap (jJ T)):=ah (by rw[List.take_of_length_le (by omega)]);have a4:=N.out.trans' L.out;clear P;by_cases M:4096<((l.flatMap (jJ T)).length:Int)
   .have D:Hid (kN T l=7):=ah (by rw[Q.out,if_pos M]);have hd:decide (4096<(p:Int))=true:=(by rw[au,C.out,HE.out];exact M);have ao:decide (4096<p)=true:=(by rw[au];rw[au]at hd;omega);clear M;go_wp2;go_ret2;exact⟨none,0,0,by rw[D.out];rfl,a4,by rw[qK,D.out,if_neg (by decide)];exact aF.nil_ _⟩
   .have D:Hid (kN T l=0):=ah (by rw[Q.out,if_neg M]);have hd:decide (4096<(p:Int))=false:=(by rw[aA,C.out,HE.out];exact M);have ao:decide (4096<p)=false:=(by rw[aA];rw[aA]at hd;omega);have ap:Hid (aF wr ⟨A2,p,c2⟩ (l.flatMap (jJ T))):=ah (by rw[<- HE.out];exact aN.ints I.out);clear M;go_wp2;go_ret2;exact⟨A2,p,c2,by rw[D.out];rfl,a4,by rw[qK,D.out,if_pos rfl];exact ap.out⟩
 .have aa:(aX T l != 0)=true:=bN' F
  have HZ:Hid (kN T l=aX T l/\kN T l≠0):=ah (by
   have h1:kN T l=aX T l:=by rw[kN,if_pos F]
   exact⟨h1,by rw[h1];exact F⟩)
  have hb:=N.out.trans' O.out;clear F P;go_wp2;go_ret2;exact⟨none,0,0,by rw[HZ.out.1];rfl,hb,by rw[qK,if_neg HZ.out.2];exact aF.nil_ _⟩
theorem aLu{p:List Int}(h:IsB p):Lib.strCells (sB p)=p.map (Value.int .u8):=by
 unfold Lib.strCells;rw[y8,List.map_map];exact List.map_congr_left λx a=>by
  have:=byte_back (h x a);show Value.int .u8 _=_
  rw[this]
theorem Si{ops:Array Oper}{b:List Oper}{o:Oper}{a:Act}{w:World}{Q:Exit->Act->World->Prop}(d:o.guard=none)(s x:Operand)(t u:TypeId)
 (g:o.op= .call {callee:= .builtin .append,args:= #[s,x],argTypes:= #[t,u]}) (v y:Value) (i:a.eval s=v) (j:a.eval x=y) (f:Value) (w':World)
 (c:∀ty,(Builtin.append_ #[t,u] ty #[v,y]).run prog w= .ok f w') (h:wpList prog ops Q b (a.put o.dst f) w'):
 wpList prog ops Q (o::b) a w:=by
 refine wpList_plain d λK hK=> ?_
 unfold Oper.wp execOp;simp only[g,resolve,invoke,builtin,Sem.run_bind,Sem.run_pure,Result.andThen_ok,List.map_toArray,List.map_cons,List.map_nil,i,j,c];exact hK _ _ h
theorem aM1{W:World}{g n:Nat}{l p:List Int}(h:nI W ⟨some ⟨g,0,none⟩,n,n⟩ l)(I:IsB p)(J:n+p.length<=1099511627776):
 ∃A' c' W',(∀ty,(Builtin.append_ #[95,9] ty #[.slice (some ⟨g,0,none⟩) n n,.string (sB p)]).run prog W= .ok (.slice A' (n+p.length) c') W')/\nI W' ⟨A',n+p.length,c'⟩ (l++p)/\Ext W W':=by
 obtain⟨i,y,A,B,m⟩:=info_parts infoB;have f:=h.len.1;by_cases z:p=[]
 .subst z;refine⟨some ⟨g,0,none⟩,n,W,λty=> ?_,by simpa using h,Ext.refl _⟩;have C:sB []=⟨#[]⟩:=rfl;have q:(⟨#[]⟩:ByteArray).size=0:=rfl;rw[C];simp[Builtin.append_,run_underlying underlying95,run_underlying underlying9,sizeOf,typeInfo,y,Builtin.lenOf,Builtin.firstCells,storeCells,q]
 .have D:=List.length_pos_iff.2 z;have a:∀j v,(l.map (Value.int .u8))[j]? =some v->W.cell? ((⟨g,0,none⟩:Addr).add j)=some v:=by
   intro j v c;rw[List.getElem?_map]at c;cases r:l[j]? with
   |none=>rw[r]at c;cases c
   |some x=>
    rw[r]at c;simp only[Option.map_some,Option.some.injEq]at c;subst c;obtain⟨b,o,k,E⟩:=h.2 j x r;have k:some (⟨g,0,none⟩:Addr)=some ⟨b,o,none⟩:=k;injection k with k;injection k with F G;subst F G;rw[Addr.add_lit];exact E
  have s:=uh p;have d:=λty=>Lib.run_append_grow_string (P:=prog) W 95 9 ty 5 i (.int .u8 0) underlying95 underlying9 y A ⟨g,0,none⟩ n n (l.map (Value.int .u8)) (by rw[B];simp[f]) a (sB p) (by omega) (by omega)
   (growslice_fits (by omega) (by rw[m];omega))
  rw[s]at d;have H:=grownCap_ge W (n+p.length) n 5;have t:=grownCap_le_maxLen W (n+p.length) n 5 (by simp only[maxLen];omega);refine⟨_,_,_,d,⟨⟨by simp[f],by simp only[List.length_append];omega,t⟩,λj x c=>⟨W.heap.size,0,rfl,?_⟩⟩,((Ext.refl W).dL).aC _⟩;have:=World.cell?_alloc_new W.drew ((l.map (Value.int .u8)).toArray++(Lib.strCells (sB p)).toArray++Builtin.zeroCells (Value.int .u8 0).cells (grownCap W (n+p.length) n 5 - (n+p.length))) 5 j;rw[Nat.zero_add];refine Eq.trans this ?_;rw[aLu I];have w:=(List.getElem?_eq_some_iff.1 c).1;rw[Array.getElem?_append_left (by simp;simpa using w)];rw[List.append_toArray,<- List.map_append,List.getElem?_toArray,List.getElem?_map,c];rfl
theorem SA(l:List Int)(f:Nat->Bool):∀q,q<=l.length->∃a,sO l f q a
 |0,_=>⟨-1,Qz l f⟩
 |q+1,h=>by
  obtain⟨a,i⟩:=SA l f q (by omega);cases g:f q
  .rcases i with⟨rfl,c⟩|⟨n,d,rfl,c,j,k⟩
   .exact⟨q,Qy (.inl ⟨rfl,c⟩) (by omega) g⟩
   .by_cases b:l[q]<l[n]
    .exact⟨q,QC (.inr ⟨n,d,rfl,c,j,k⟩) (by omega) d g b⟩
    .exact⟨n,QB (.inr ⟨n,d,rfl,c,j,k⟩) (by omega) d b⟩
  .exact⟨a,QD i g⟩
theorem Sz{l:List Int}(p:∀x∈l,0<=x/\x<=1114111)(g:l.length<=256):∀(N:Nat)(pl:Nat->Bool)(n i b:Int)(f:Bool),bU pl l.length+N=l.length->Ei l pl n i->0<=n->0<=i->i<=bU pl l.length->
 ∃ds,nX l pl n i b f ds/\(∀d∈ds,0<=d/\d<36)/\ds.length<=64*N
 |0,pl,n,i,b,f,hc,_,_,_,_=>⟨[],.done (Rf (by omega)),by simp,by simp⟩
 |N+1,pl,n,i,b,f,hc,hv,hn,hi,hi2=>by
  obtain⟨q,w,t⟩:=QZ (f:=pl) (q:=l.length) (by omega);obtain⟨a,y⟩:=SA l pl l.length (Nat.le_refl _);rcases QE y with⟨_,z⟩|⟨m,_,A⟩
  .rw[z q w]at t;cases t
  .obtain⟨c,h,j⟩:=A;have B:=p _ (List.getElem_mem c);obtain⟨r,C,s,D⟩:=Rl hv ⟨c,h,j⟩ c hn ⟨hi,hi2⟩ B.2 g;have E:=AO pl (Nat.le_of_lt c);obtain⟨ds,F,G,H⟩:=Sz p g N (λk=>pl k||k==m) l[m] (bU pl m+1) (nJ ((l[m] - n)*((bU pl l.length:Int)+1)+bU pl m - i) ((bU pl l.length:Int)+1) f) false (by omega) s (by omega) (by omega) (by omega);refine⟨_,.step c ⟨c,h,j⟩ rfl F,λd o=> ?_,?_⟩
   .rcases List.mem_append.1 o with o|o
    .exact QF 64 0 _ r.1 d o
    .exact G d o
   .have:=G9 b 64 0 ((l[m] - n)*((bU pl l.length:Int)+1)+bU pl m - i);rw[List.length_append];omega
theorem Gy{l:List Int}(b:∀x∈l,0<=x/\x<=1114111)(a:l.length<=256):nX l (plc l 128 0) 128 0 72 true (xE l)/\(∀d∈xE l,0<=d/\d<36)/\(xE l).length<=64*l.length:=by
 have f:=uZ (plc l 128 0) l.length;obtain⟨h,c,g,i⟩:=Sz b a (l.length - bU (plc l 128 0) l.length) (plc l 128 0) 128 0 72 true (by omega) (inv_start l) (by omega) (by omega) (by omega);rw[JW c];exact⟨c,g,by omega⟩
theorem Ls{l:List Int}(h:(jE l).2=0):l.length<=256/\(∀x∈l,aY x=true)/\(jE l).1=jZ l:=by
 unfold jE at h |-;split at h
 .cases h
 .rename_i b;split at h
  .cases h
  .rename_i a;rw[if_neg b,if_neg a];refine⟨by omega,λx c=> ?_,rfl⟩;cases d:aY x
   .exact absurd (List.any_eq_true.2 ⟨x,c,by simp[d]⟩) a
   .rfl
theorem Sl(l:List Int)(h:(jE l).2=0):IsB (jE l).1:=by
 obtain⟨c,b,f⟩:=Ls h;rw[f];intro x a;unfold jZ lN at a;rcases List.mem_append.1 a with a|a
 .rcases List.mem_append.1 a with a|a
  .unfold iQ at a;rw[List.mem_filter]at a;have i:=uY (b x a.1);have j:=of_decide_eq_true a.2;omega
  .split at a
   .cases a
   .simp at a;omega
 .rw[List.mem_map]at a;obtain⟨d,g,rfl⟩:=a;exact ZA ((Gy (λx a=>uY (b x a)) c).2.1 d g)
theorem Sj(l:List Int):(jE l).1.length<=20000:=by
 by_cases h:(jE l).2=0
 .obtain⟨a,b,c⟩:=Ls h;have f:=(Gy (λx d=>uY (b x d)) a).2.2;have g:=Gf l;rw[c];unfold jZ lN;rw[List.length_append,List.length_append,List.length_map];split<;>simp<;>omega
 .unfold jE at h |-;split
  .simp
  .split
   .simp
   .rename_i a b;rw[if_neg a,if_neg b]at h;exact absurd rfl h
theorem En{l:List Int}(h:jG l=true):∀c∈l,0<=c/\c<=127:=by
 intro c a;unfold jG at h;by_cases b:0<=c/\c<=127
 .exact b
 .have:l.any (λc=>decide (c<0)||decide (127<c))=true:=List.any_eq_true.2 ⟨c,a,by simp;omega⟩;rw[this]at h;cases h
def aMP(w:World)(l:List Int)(g:Nat)(s4 s16:Value)(wx:World):Prop:=
 ∃(A:Option Addr)(c k:Nat),g+k=l.length/\s16= .int .i64 k/\s4= .slice A k c/\OwnB wx w.heap.size A k c (l.take k)/\Ext w wx
theorem Sv(l:List Int)(A:Option Addr)(n c:Nat)(w:World)(W:aF w ⟨A,n,c⟩ l)(a0:l.length<=1099511000000):Calls prog 138 #[.slice A n c] w (xA w (alE l)):=by
 have a:Hid (alE l=if l.length=0 then([],10)else if jG l=true then(if 63<l.length then([],11)else(l,0))else if(jE l).2≠0 then([],(jE l).2)else if 63<(jE l).1.length+4 then([],11)else([120,110,45,45]++(jE l).1,0)):=rfl;generalize alE l=D at*;have hn:=W.len.1;subst hn;have N:=ah W;clear W;by_cases O:l.length=0
 .rw[if_pos O]at a;have e1:((l.length:Int)==0)=true:=by rw[beq_iff_eq];omega
  have e2:(l.length==0)=true:=by rw[beq_iff_eq];omega
  clear O;go_enter func138,ntmps138;go_wp2;go_ret2;exact⟨by rw[a.out];rfl,Ext.refl _⟩
 rw[if_neg O]at a;have e1:((l.length:Int)==0)=false:=bF';have e2:(l.length==0)=false:=bF';have s:=ah (Lr l A l.length c w N.out);have t:=ah (@En l);have z:=ah (aGc l A l.length c w N.out);have C:=ah (Sl l);have G:=Sj l;generalize jE l=P at*;generalize jG l=b at*;go_enter func138,ntmps138;go_wp2_with fail;refine s.out.mono ?_;rintro e w'⟨rfl,rfl⟩;cases b
 .rw[if_neg (by simp)]at a;obtain⟨p,pe⟩:=P;simp only at a C G;clear t s;go_wp2_with fail;refine z.out.mono ?_;rintro e E⟨rfl,H⟩;have I:=ah H;clear z H;by_cases F:pe=0
  .rw[if_neg (by rw[F];simp)]at a;subst F;have J:Ext E (E.alloc (.cells #[.int .u8 120,.int .u8 110,.int .u8 45,.int .u8 45] 5 (4,5))):=(Ext.refl _).aC _;have a5:=Lib.run_convert_bytes_const (P:=prog) E 95 5 #[.int .u8 120,.int .u8 110,.int .u8 45,.int .u8 45] 4 4 underlying95 underlying5;have K:nI (E.alloc (.cells #[.int .u8 120,.int .u8 110,.int .u8 45,.int .u8 45] 5 (4,5))) ⟨some ⟨E.heap.size,0,none⟩,4,4⟩ [120,110,45,45]:=by
    refine⟨⟨rfl,Nat.le_refl _,by simp only[maxLen];omega⟩,λi y g=>⟨E.heap.size,0,rfl,?_⟩⟩;have:=heap_alloc_new E (.cells #[.int .u8 120,.int .u8 110,.int .u8 45,.int .u8 45] 5 (4,5));rw[Nat.zero_add,cell_of_row _ _ i _ _ _ this]
    match i,g with
    |0,g=>simpa using g
    |1,g=>simpa using g
    |2,g=>simpa using g
    |3,g=>simpa using g
    |i+4,g=>simp at g
   obtain⟨Q,R,X,f,h,L⟩:=aM1 K (C.out rfl) (by omega);have Y:=ah (I.out.trans' (J.trans' L));have S:=BK h;clear K J L h;by_cases j:63<p.length+4
   .rw[if_pos j]at a;have m:=Y.out;have hd:decide ((63:Int)<4+p.length)=true:=dT';go_wp2_with(at_builtin;refine Si rfl _ _ _ _ rfl _ _ rfl rfl _ _ f ?_);go_ret2;exact⟨by rw[a.out];rfl,m⟩
   .rw[if_neg j]at a;have m:=Y.out;have hd:decide ((63:Int)<4+p.length)=false:=dF';go_wp2_with(at_builtin;refine Si rfl _ _ _ _ rfl _ _ rfl rfl _ _ f ?_);go_ret2;exact⟨by rw[a.out];rfl,m⟩
  .rw[if_pos F]at a;have m:=I.out;go_wp2;go_ret2;exact⟨by rw[a.out];rfl,m⟩
 .rw[if_pos rfl]at a;have HM:=ah (t.out rfl);clear z C G t s;go_wp2;go_loopg[4,16] l.length (λgh s4 T wx=>aMP w l gh s4 T wx);exact⟨none,0,0,by omega,rfl,rfl,Own.nil_ _ _ _ _,Ext.refl _⟩;obtain⟨B,d,k,hg,rfl,rfl,r,m⟩:=hrel;have M:=ah r;have U:=ah m;clear r m;by_cases V:k<l.length
  .obtain⟨b,o,hA,ac⟩:=(N.out.ext U.out).at_ V;subst hA;have hr:=HM.out _ (List.getElem_mem V);have Z:Hid (l.take (k+1)=l.take k++[l[k]]):=ah (List.take_succ_eq_append_getElem V);generalize l[k]=x at*;obtain⟨Q,R,X,f,q,h,_⟩:=yD M.out U.out #[.int .u8 x] [x] 1 rfl rfl (by omega) (by omega);have bJ:Hid (OwnB X w.heap.size Q (k+1) R (l.take (k+1))):=ah (by rw[Z.out];exact q);have bC:=ah h;clear q h Z;go_wp2_with(at_builtin;refine dH rfl _ _ _ rfl _ _ rfl rfl _ _ f ?_);go_roundg (l.length - (k+1));exact⟨Q,R,k+1,by omega,by go_num,rfl,bJ.out,bC.out⟩;omega
  .have he:l.take k=l:=List.take_of_length_le (by omega);rw[he]at M;have S:=BK (OwnB.Jr M.out);have m:=U.out;have ag:k<=l.length/\l.length<=k:=(by omega);clear M;by_cases j:63<l.length
   .rw[if_pos j]at a;go_wp2;go_ret2;exact⟨by rw[a.out];rfl,m⟩
   .rw[if_neg j]at a;go_wp2;go_ret2;exact⟨by rw[a.out];rfl,m⟩
def aMW(w:World)(l:List Int)(g:Nat)(s4 s16:Value)(wx:World):Prop:=
 ∃k:Nat,g+k=l.length/\s16= .int .i64 k/\s4= .string (sB (l.take k))/\Ext w wx
theorem SE(l:List Int)(A:Option Addr)(n c:Nat)(w:World)(F:aF w ⟨A,n,c⟩ l)(H:l.length<=1000000):Calls prog 93 #[.slice A n c] w (xA w (alE l)):=by
 have a:Hid (alE l=if l.length=0 then([],10)else if jG l=true then(if 63<l.length then([],11)else(l,0))else if(jE l).2≠0 then([],(jE l).2)else if 63<(jE l).1.length+4 then([],11)else([120,110,45,45]++(jE l).1,0)):=rfl;generalize alE l=D at*;have I:=F.len.1;subst I;have t:=ah F;clear F;by_cases y:l.length=0
 .rw[if_pos y]at a;have J:((l.length:Int)==0)=true:=by rw[beq_iff_eq];omega
  have K:(l.length==0)=true:=by rw[beq_iff_eq];omega
  clear y;go_enter func93,ntmps93;go_wp2;go_ret2;exact⟨by rw[a.out];rfl,Ext.refl _⟩
 rw[if_neg y]at a;have J:((l.length:Int)==0)=false:=bF';have K:(l.length==0)=false:=bF';have g:=ah (Lp l A l.length c w t.out);have h:=ah (@En l);have i:=ah (aGu l A l.length c w t.out);have m:=Sj l;generalize jE l=P at*;generalize jG l=b at*;go_enter func93,ntmps93;go_wp2_with fail;refine g.out.mono ?_;rintro e Z⟨rfl,rfl⟩;cases b
 .rw[if_neg (by simp)]at a;obtain⟨p,L⟩:=P;simp only at a m;clear h g;go_wp2_with fail;refine i.out.mono ?_;rintro e w1⟨rfl,q⟩;have r:=ah q;clear i q;by_cases j:L=0
  .rw[if_neg (by rw[j];simp)]at a;subst j;have hc:(⟨#[120,110,45,45]⟩:ByteArray)=sB [120,110,45,45]:=rfl;have f:=r.out;by_cases d:63<p.length+4
   .rw[if_pos d]at a;go_wp2;go_ret2;exact⟨by rw[a.out];rfl,f⟩
   .rw[if_neg d]at a;go_wp2;go_ret2;exact⟨by rw[a.out];rfl,f⟩
  .rw[if_pos j]at a;have f:=r.out;go_wp2;go_ret2;exact⟨by rw[a.out];rfl,f⟩
 .rw[if_pos rfl]at a;have M:=ah (h.out rfl);clear i m h g;go_wp2;go_loopg[4,16] l.length (λN O z Q=>aMW w l N O z Q);exact⟨0,by omega,rfl,rfl,Ext.refl _⟩;obtain⟨k,hg,rfl,rfl,f⟩:=hrel;have s:=ah f;clear f;by_cases B:k<l.length
  .obtain⟨b,o,R,T⟩:=(t.out.ext s.out).at_ B;subst R;have hr:=M.out _ (List.getElem_mem B);have U:Hid (l.take k++[l[k]]=l.take (k+1)):=ah (List.take_succ_eq_append_getElem B).symm;have V:(l.take k).length<=1000000:=(by rw[List.length_take];omega);generalize l[k]=x at*;have W:=yF wr #[.int .u8 x] [x] 1 rfl rfl (by omega);have X:[x].length<=1:=Nat.le_refl _;have C:∀G,Ext w (wr.alloc (.cells G 5)):=λG=>s.out.aC _
   generalize[x]=E at*;generalize l.take k=S at*;clear s;go_wp2;go_roundg (l.length - (k+1));exact⟨k+1,by omega,by go_num,by rw[U.out],C _⟩;omega
  .have Y:l.take k=l:=List.take_of_length_le (by omega);rw[Y];have f:=s.out;by_cases d:63<l.length
   .rw[if_pos d]at a;go_wp2;go_ret2;exact⟨by rw[a.out];rfl,f⟩
   .rw[if_neg d]at a;go_wp2;go_ret2;exact⟨by rw[a.out];rfl,f⟩
theorem SC(b:Int):∀(ds:List (Option Int))(j v w x:Int)(r:List (Option Int)),jl b ds j v w=some (x,r)->r.length<ds.length
 |[],_,_,_,_,_,h=>by cases h
 |none::_,_,_,_,_,_,h=>by cases h
 |some d::ds,j,v,w,x,r,h=>by
  unfold jl at h;split at h
  .injection h with h;injection h with _ h;subst h;simp
  .have:=SC b ds _ _ _ _ _ h;simp only[List.length_cons];omega
theorem SB:∀(g:Nat)(ds:List (Option Int))(o:List Int)(n i b:Int)(f:Bool)(l:List Int),0<=i->decP g ds o n i b f= .ok l->l.length<=o.length+ds.length
 |0,_,o,_,_,_,_,l,_,h=>by
  unfold decP at h;injection h with h;subst h;omega
 |g+1,ds,o,n,i,b,f,l,hi,h=>by
  by_cases a:ds=[]
  .subst a;unfold decP at h;injection h with h;subst h;simp
  .rw[KE a]at h;split at h
   .cases h
   .rename_i v r c;have j:=SC b ds 0 0 1 v r c;split at h
    .cases h
    .split at h
     .cases h
     .have k:=Int.emod_nonneg (v+i) (b:=(o.length:Int)+1) (by omega);have d:=Int.emod_lt_of_pos (v+i) (b:=(o.length:Int)+1) (by omega);have:=SB g r _ _ _ _ _ l (by omega) h;rw[zH _ _ _ (by omega)]at this;omega
theorem Lu(s:List Int):(pdU s).1.length<=s.length:=by
 unfold pdU;split
 .simp
 .split
  .simp
  .cases a:decP (pF s).length ((pF s).map fE) (s.take (hyB s)) 128 0 72 true with
   |C9=>simp[resD]
   |over=>simp[resD]
   |ok l=>
    have h:=SB _ _ _ _ _ _ _ l (by omega) a;simp only[resD];unfold pF at h;split at h
    .rename_i b;rw[b]at h;simpa using h
    .simp at h;omega
theorem SH(l:List Int):IsB (alE l).1:=by
 unfold alE;split
 .exact qI
 .split
  .rename_i b;split
   .exact qI
   .intro x a;have:=En b x a;omega
  .split
   .exact qI
   .rename_i c;split
    .exact qI
    .exact Dz (by intro x a;simp at a;omega) (Sl l (by omega))
def aMe(w1:World)(s:List Int)(g:Nat)(so si:Value)(wx:World):Prop:=
 ∃(A:Option Addr)(c k:Nat),g+k=s.length/\si= .int .i64 k/\so= .slice A k c/\aN wx w1.heap.size A k c (s.take k)/\Ext w1 wx/\Hid ((s.take k).any (λb=>decide (127<b))=false)
theorem aMi(s:List Int)(hs:IsB s)(hm:s.length<=1000000)(w:World):Calls prog 159 #[.string (sB s)] w (Cc w (alD s)):=by
 have d:Hid (alD s=if s.length=0 then([],10)else if s.any (λb=>decide (127<b))then([],12)else if 63<s.length then([],11)else if isX s=false then(s,0)
  else if(pdU (fH (s.drop 4))).2≠0 then([],(pdU (fH (s.drop 4))).2)else if jG (pdU (fH (s.drop 4))).1=true then([],12)
  else if(alE (pdU (fH (s.drop 4))).1).2≠0\/(alE (pdU (fH (s.drop 4))).1).1≠fH s then([],12)else((pdU (fH (s.drop 4))).1,0)):=rfl
 have p:=ah hs;generalize alD s=D at*;clear hs;have r:=xG s;by_cases I:s.length=0
 .rw[if_pos I]at d;rw[List.eq_nil_of_length_eq_zero I,show([]:List Int).isEmpty=true from rfl]at r;rw[List.eq_nil_of_length_eq_zero I];clear I;go_enter func159,ntmps159;go_wp2;go_ret2;exact⟨none,0,0,by rw[d.out];rfl,by rw[d.out];exact aF.nil_ w,Ext.refl _⟩
 rw[if_neg I]at d;rw[show s.isEmpty=false from by cases s with|nil=>exact absurd rfl I|cons a b=>rfl]at r;obtain⟨cc,w1,ac,K,L,_⟩:=FN (w:=w) p.out (by omega);have ad:=ah K;have M:=ah L;go_enter func159,ntmps159;go_wp2_with fail;clear r ac K L;go_loopg[4,15] s.length (λgh so si wx=>aMe w1 s gh so si wx);exact⟨none,0,0,by omega,rfl,rfl,Own.nil_ _ _ _ _,Ext.refl _,rfl⟩;obtain⟨A,c,k,hg,rfl,rfl,o,N,O⟩:=hrel;have HO:=ah o;have Q:=ah N;clear o N;by_cases J:k<s.length
 .have hr:=wG p.out k;obtain⟨b',o',hA,ag⟩:=(ad.out.ext Q.out).at_ J;injection hA with hA;injection hA with e1 e2;subst e1 e2;rw[Nat.zero_add,<- getD_lt s k 0 J]at ag;have t:=ah (xC (f:=λb=>decide (127<b)) J);have x:=ah (anyM (f:=λb=>decide (127<b)) J);have HT:Hid (s.take (k+1)=s.take k++[s[k]]):=ah (List.take_succ_eq_append_getElem J);rw[<- getD_lt s k 0 J]at t x HT;generalize s.getD k 0=y at*;by_cases R:127<y
  .have HF:Hid (D=([],12)):=ah (by rw[d.out,if_pos (x.out (by simp[R]))]);have g:=M.out.trans' Q.out;go_wp2;go_ret2;exact⟨none,0,0,by rw[HF.out];rfl,by rw[HF.out];exact aF.nil_ _,g⟩
  .have al:Hid ((s.take (k+1)).any (λb=>decide (127<b))=false):=ah (by rw[t.out,O.out];simp;omega);obtain⟨A5,c5,w5,S,i,j,_⟩:=xu HO.out Q.out y (by omega);have bJ:Hid (aN w5 w1.heap.size A5 (k+1) c5 (s.take (k+1))):=ah (by rw[HT.out];exact i);have T:=ah j;clear i j O t x HT;go_wp2_with(at_builtin;refine dH rfl _ _ _ rfl _ _ rfl rfl _ _ S ?_);go_roundg (s.length - (k+1));exact⟨A5,c5,k+1,by omega,by go_num,rfl,bJ.out,T.out,al⟩;omega
 .have he:s.take k=s:=List.take_of_length_le (by omega);rw[he]at HO O;rw[if_neg (by rw[O.out];simp)]at d;have z:=ah (M.out.trans' Q.out);have U:=ah (aN.ints HO.out);have be:k<=s.length/\s.length<=k:=by omega
  clear O HO he Q;generalize wr=w3 at*;by_cases V:63<s.length
  .rw[if_pos V]at d;have g:=z.out;go_wp2;go_ret2;exact⟨none,0,0,by rw[d.out];rfl,by rw[d.out];exact aF.nil_ _,g⟩
  rw[if_neg V]at d;have B:=ah (Sr s p.out w3);obtain⟨X,hX⟩:=eY' (isX s)
  have pW:Hid (X=true->4<=s.length):=ah (by
   intro h;rw[<- hX]at h;unfold isX at h;rw[aW]at h
   exact of_decide_eq_true h.1)
  rw[hX]at d B;clear hX;go_wp2_with fail;refine B.out.mono ?_;rintro e w4⟨rfl,C⟩;have T:=ah (z.out.trans' C);have wu:=ah (U.out.ext C);clear B C z U;cases X
  .rw[if_pos rfl]at d;have g:=T.out;have hi:=wu.out;go_wp2;go_ret2;exact⟨A,_,c,by rw[d.out];rfl,by rw[d.out];exact hi,g⟩
  rw[if_neg (by simp)]at d;have h4:=pW.out rfl;have Y:∀W,(Instr.slice 9 (.string (sB s)) (some (.int .i64 4)) none none).run prog W= .ok (.string (sB (s.drop 4))) W:=λW=>BL W (l:=s) (k:=4) h4
  have Z:(s.drop 4).length<=63:=by rw[List.length_drop];omega
  have a0:=ah (Lm (s.drop 4) (zu p.out 4) (by omega) w4);have Eo:=ah (λW=>Lm s p.out (by omega) W);have ap:=ah (Ci (zu p.out 4));have a1:=ah (Lu (fH (s.drop 4)));have bi:(fH (s.drop 4)).length<=63:=by rw[Ce];exact Z
  have a2:=ah (λW=>aJw (fH (s.drop 4)) ap.out W);have aq:=ah (Ci p.out);clear pW Z;generalize s.drop 4=s4 at*;generalize fH s4=u at*;generalize fH s=sl at*;go_wp2_with fail;refine a0.out.mono ?_;rintro e w5⟨rfl,j⟩;have iU:=ah (T.out.trans' j);clear a0 j T wu Y;go_wp2_with fail;refine(a2.out w5).mono ?_;rintro e w6⟨A6,n6,c6,rfl,tZ,a3⟩;have nV:=ah (iU.out.trans' a3);have ay:=a1.out;generalize pdU u=P at*;obtain⟨q,pe⟩:=P;simp only at d tZ ay;have az:=tZ.len.1;subst az;have uQ:=ah tZ;clear iU a3 tZ a2 a1;by_cases F:pe=0
  case neg=>
   rw[if_pos F]at d;have g:=nV.out;go_wp2;go_ret2;exact⟨none,0,0,by rw[d.out];rfl,by rw[d.out];exact aF.nil_ _,g⟩
  rw[if_neg (by rw[F];simp)]at d;subst F;have a4:=ah (λW(h:Ext w6 W)=>Lr q A6 q.length c6 W (uQ.out.ext h));have a5:=ah (Sv q A6 q.length c6 w6 uQ.out (by omega));have a6:=ah (SH q);generalize jG q=av at*;generalize alE q=E at*;obtain⟨ae,ee⟩:=E;simp only at d a6;have a7:=xq a6.out aq.out;go_wp2_with fail;refine(a4.out w6 (Ext.refl _)).mono ?_;rintro e w'⟨rfl,rfl⟩;cases av
  case true=>
   rw[if_pos rfl]at d;have g:=nV.out;go_wp2;go_ret2;exact⟨none,0,0,by rw[d.out];rfl,by rw[d.out];exact aF.nil_ _,g⟩
  rw[if_neg (by simp)]at d;go_wp2_with fail;refine a5.out.mono ?_;rintro e w7⟨rfl,G⟩;have rZ:=ah (nV.out.trans' G);have aE:=ah (uQ.out.ext G);clear nV G uQ a5 a4;by_cases H:ee=0
  case neg=>
   rw[if_pos (.inl H)]at d;have bl:(ee != 0)=true:=bN' H;have g:=rZ.out;go_wp2;go_ret2;exact⟨none,0,0,by rw[d.out];rfl,by rw[d.out];exact aF.nil_ _,g⟩
  subst H;by_cases m:ae=sl
  .rw[if_neg (by simp[m])]at d;rw[decide_eq_true m]at a7;go_wp2_with fail;refine(Eo.out _).mono ?_;rintro e w8⟨rfl,n⟩;have g:=rZ.out.trans' n;have hi:=aE.out.ext n;go_wp2;go_ret2;exact⟨A6,_,c6,by rw[d.out];rfl,by rw[d.out];exact hi,g⟩
  .rw[if_pos (.inr m)]at d;rw[decide_eq_false m]at a7;go_wp2_with fail;refine(Eo.out _).mono ?_;rintro e w8⟨rfl,n⟩;have g:=rZ.out.trans' n;go_wp2;go_ret2;exact⟨none,0,0,by rw[d.out];rfl,by rw[d.out];exact aF.nil_ _,g⟩
def aMd(w1:World)(s:List Int)(g:Nat)(so si:Value)(wx:World):Prop:=
 ∃(A:Option Addr)(c k:Nat),g+k=s.length/\si= .int .i64 k/\so= .slice A k c/\aN wx w1.heap.size A k c (s.take k)/\Ext w1 wx/\Hid ((s.take k).any (λb=>decide (127<b))=false)
theorem aMh(s:List Int)(hs:IsB s)(hm:s.length<=1000000)(w:World):Calls prog 62 #[.string (sB s)] w (Cc w (alD s)):=by
 have d:Hid (alD s=if s.length=0 then([],10)else if s.any (λb=>decide (127<b))then([],12)else if 63<s.length then([],11)else if isX s=false then(s,0)
  else if(pdU (fH (s.drop 4))).2≠0 then([],(pdU (fH (s.drop 4))).2)else if jG (pdU (fH (s.drop 4))).1=true then([],12)
  else if(alE (pdU (fH (s.drop 4))).1).2≠0\/(alE (pdU (fH (s.drop 4))).1).1≠fH s then([],12)else((pdU (fH (s.drop 4))).1,0)):=rfl
 have r:=ah hs;generalize alD s=D at*;clear hs;have t:=xG s;by_cases I:s.length=0
 .rw[if_pos I]at d;rw[List.eq_nil_of_length_eq_zero I,show([]:List Int).isEmpty=true from rfl]at t;rw[List.eq_nil_of_length_eq_zero I];clear I;go_enter func62,ntmps62;go_wp2;go_ret2;exact⟨none,0,0,by rw[d.out];rfl,by rw[d.out];exact aF.nil_ w,Ext.refl _⟩
 rw[if_neg I]at d;rw[show s.isEmpty=false from by cases s with|nil=>exact absurd rfl I|cons a b=>rfl]at t;have J:Hid (Ext w w):=ah (Ext.refl _);go_enter func62,ntmps62;go_wp2_with fail;clear t;go_loopg[4,5] s.length (λgh so si wx=>aMd w s gh so si wx);exact⟨none,0,0,by omega,rfl,rfl,Own.nil_ _ _ _ _,Ext.refl _,rfl⟩;obtain⟨A,c,k,hg,rfl,rfl,p,K,L⟩:=hrel;have HO:=ah p;have HX:=ah K;clear p K;by_cases M:k<s.length
 .have hr:=wG r.out k;have b5:∀W,(Instr.index 9 (.string (sB s)) (.int .i64 (k:Int))).run prog W= .ok (.int .u8 (s.getD k 0)) W:=ixc r.out M;have x:=ah (xC (f:=λb=>decide (127<b)) M);have z:=ah (anyM (f:=λb=>decide (127<b)) M);have HT:Hid (s.take (k+1)=s.take k++[s[k]]):=ah (List.take_succ_eq_append_getElem M);rw[<- getD_lt s k 0 M]at x z HT;generalize s.getD k 0=y at*;by_cases N:127<y
  .have HF:Hid (D=([],12)):=ah (by rw[d.out,if_pos (z.out (by simp[N]))]);have g:=J.out.trans' HX.out;go_wp2;go_ret2;exact⟨none,0,0,by rw[HF.out];rfl,by rw[HF.out];exact aF.nil_ _,g⟩
  .have ab:Hid ((s.take (k+1)).any (λb=>decide (127<b))=false):=ah (by rw[x.out,L.out];simp;omega);obtain⟨A5,c5,w5,O,i,j,_⟩:=xu HO.out HX.out y (by omega);have bJ:Hid (aN w5 w.heap.size A5 (k+1) c5 (s.take (k+1))):=ah (by rw[HT.out];exact i);have Q:=ah j;clear i j L x z HT;go_wp2_with(at_builtin;refine dH rfl _ _ _ rfl _ _ rfl rfl _ _ O ?_);go_roundg (s.length - (k+1));exact⟨A5,c5,k+1,by omega,by go_num,rfl,bJ.out,Q.out,ab⟩;omega
 .have he:s.take k=s:=List.take_of_length_le (by omega);rw[he]at HO L;rw[if_neg (by rw[L.out];simp)]at d;have B:=ah (J.out.trans' HX.out);have R:=ah (aN.ints HO.out);have b7:k<=s.length/\s.length<=k:=by omega
  clear L HO he HX;generalize wr=w3 at*;by_cases S:63<s.length
  .rw[if_pos S]at d;have g:=B.out;go_wp2;go_ret2;exact⟨none,0,0,by rw[d.out];rfl,by rw[d.out];exact aF.nil_ _,g⟩
  rw[if_neg S]at d;have C:=ah (Sm s r.out w3);obtain⟨X,hX⟩:=eY' (isX s)
  have pW:Hid (X=true->4<=s.length):=ah (by
   intro h;rw[<- hX]at h;unfold isX at h;rw[aW]at h
   exact of_decide_eq_true h.1)
  rw[hX]at d C;clear hX;go_wp2_with fail;refine C.out.mono ?_;rintro e w4⟨rfl,F⟩;have Q:=ah (B.out.trans' F);have wu:=ah (R.out.ext F);clear C F B R;cases X
  .rw[if_pos rfl]at d;have g:=Q.out;have hi:=wu.out;go_wp2;go_ret2;exact⟨A,_,c,by rw[d.out];rfl,by rw[d.out];exact hi,g⟩
  rw[if_neg (by simp)]at d;have h4:=pW.out rfl;have T:∀W,(Instr.slice 9 (.string (sB s)) (some (.int .i64 4)) none none).run prog W= .ok (.string (sB (s.drop 4))) W:=λW=>BL W (l:=s) (k:=4) h4
  have U:(s.drop 4).length<=63:=by rw[List.length_drop];omega
  have V:=ah (Lj (s.drop 4) (zu r.out 4) (by omega) w4);have Eo:=ah (λW=>Lj s r.out (by omega) W);have ag:=ah (Ci (zu r.out 4));have Y:=ah (Lu (fH (s.drop 4)));have ba:(fH (s.drop 4)).length<=63:=by rw[Ce];exact U
  have Z:=ah (λW=>aKV (fH (s.drop 4)) ag.out W);have ai:=ah (Ci r.out);clear pW U;generalize s.drop 4=s4 at*;generalize fH s4=u at*;generalize fH s=sl at*;go_wp2_with fail;refine V.out.mono ?_;rintro e w5⟨rfl,j⟩;have iU:=ah (Q.out.trans' j);clear V j Q wu T;go_wp2_with fail;refine(Z.out w5).mono ?_;rintro e w6⟨A6,n6,c6,rfl,tZ,a0⟩;have nV:=ah (iU.out.trans' a0);have ao:=Y.out;generalize pdU u=P at*;obtain⟨q,pe⟩:=P;simp only at d tZ ao;have ap:=tZ.len.1;subst ap;have uQ:=ah tZ;clear iU a0 tZ Z Y;by_cases G:pe=0
  case neg=>
   rw[if_pos G]at d;have g:=nV.out;go_wp2;go_ret2;exact⟨none,0,0,by rw[d.out];rfl,by rw[d.out];exact aF.nil_ _,g⟩
  rw[if_neg (by rw[G];simp)]at d;subst G;have a1:=ah (λW(h:Ext w6 W)=>Lp q A6 q.length c6 W (uQ.out.ext h));have a2:=ah (SE q A6 q.length c6 w6 uQ.out (by omega));have a3:=ah (SH q);generalize jG q=av at*;generalize alE q=E at*;obtain⟨ae,ee⟩:=E;simp only at d a3;have a4:=xq a3.out ai.out;go_wp2_with fail;refine a2.out.mono ?_;rintro e w7⟨rfl,m⟩;have rZ:=ah (nV.out.trans' m);have aq:=ah (uQ.out.ext m);have ar:=ah (a1.out w7 m);clear nV m uQ a2 a1;go_wp2_with fail;refine ar.out.mono ?_;rintro e w'⟨rfl,rfl⟩;cases av
  case true=>
   rw[if_pos rfl]at d;have g:=rZ.out;go_wp2;go_ret2;exact⟨none,0,0,by rw[d.out];rfl,by rw[d.out];exact aF.nil_ _,g⟩
  rw[if_neg (by simp)]at d;by_cases H:ee=0
  case neg=>
   rw[if_pos (.inl H)]at d;have be:(ee != 0)=true:=bN' H;have g:=rZ.out;go_wp2;go_ret2;exact⟨none,0,0,by rw[d.out];rfl,by rw[d.out];exact aF.nil_ _,g⟩
  subst H;by_cases n:ae=sl
  .rw[if_neg (by simp[n])]at d;rw[decide_eq_true n]at a4;go_wp2_with fail;refine(Eo.out _).mono ?_;rintro e w8⟨rfl,o⟩;have g:=rZ.out.trans' o;have hi:=aq.out.ext o;go_wp2;go_ret2;exact⟨A6,_,c6,by rw[d.out];rfl,by rw[d.out];exact hi,g⟩
  .rw[if_pos (.inr n)]at d;rw[decide_eq_false n]at a4;go_wp2_with fail;refine(Eo.out _).mono ?_;rintro e w8⟨rfl,o⟩;have g:=rZ.out.trans' o;go_wp2;go_ret2;exact⟨none,0,0,by rw[d.out];rfl,by rw[d.out];exact aF.nil_ _,g⟩
noncomputable def nZ(l:List Int):List Int × Int:=if(jG l&&isX l)=true then alD l else(l,0)
noncomputable def gU(T:aj)(l:List Int):List Int × Int:=if(nZ l).2≠0 then([],(nZ l).2)else if gQ T (nZ l).1≠0 then([],gQ T (nZ l).1)else((nZ l).1,0)
theorem UJ{l:List Int}(h:jG l=true):∀c∈l,0<=c/\c<=127:=by
 intro c a;unfold jG at h;rw[Bool.not_eq_true',List.any_eq_false]at h;have:=h c a;simp only[Bool.or_eq_true,au]at this;omega
theorem Mc{l:List Int}(h:jG l=true):IsB l:=λc a=>by
 have:=UJ h c a;omega
theorem UH:∀{l:List Int},(∀c∈l,0<=c/\c<=127)->lK l=l
 |[],_=>rfl
 |x::r,h=>by
  have a:=UH λc b=>h c (List.mem_cons_of_mem _ b)
  have d:=h x (List.mem_cons_self ..);show enc1 x++lK r=x::r
  rw[a,enc1,if_pos d.2];rfl
theorem aQw{l:List Int}(h:jG l=true)(i:l.length<=4096):lM l=(l,0):=by
 have a:=UJ h;unfold lM;rw[if_neg (by omega),if_neg,UH a];intro b;rw[List.any_eq_true]at b;obtain⟨c,f,d⟩:=b;have:=a c f;have g:aY c=true:=by simp only[aY,aW,Bool.or_eq_true,au];omega
 rw[g]at d;cases d
theorem aR3(T:aj)(t:TV)(l:List Int)(A:Option Addr)(n c:Nat)(w:World)(ht:aV w t T)(O:aF w ⟨A,n,c⟩ l)(hm:l.length<=4096):
 Calls prog 84 #[t.v,.slice A n c] w (Cc w (gU T l)):=by
 have s:=cZ w t;have G:=ah s;have HT:=ah (ht.aB s);have S:=ah (O.ext s);have P:=ah (Lr l A n c _ S.out);have C:Hid (gU T l=if(nZ l).2≠0 then([],(nZ l).2)else if gQ T (nZ l).1≠0 then([],gQ T (nZ l).1)else((nZ l).1,0)):=rfl;have i:Hid (nZ l=if(jG l&&isX l)=true then alD l else(l,0)):=rfl;generalize gU T l=D at*;generalize nZ l=E at*;have L:Hid (∀b,Ext (tW' w t) b->Calls prog 160 #[t.v,.slice A n c] b λe x=>e= .returned (.int .i64 (gQ T l))/\Ext b x):=ah (λb h=>VR T t l A n c b (HT.out.aB h) (S.out.ext h));cases F:jG l
 .rw[F]at P;have K:=ah (i.out.trans (by rw[F];rfl:_=(l,(0:Int))));have q:=C;rw[K.out]at q;have j:Hid (D=if gQ T l≠0 then([],gQ T l)else(l,0)):=ah q.out;clear ht O s hm F q C i K;generalize gQ T l=v at*;go_enter func84,ntmps84;go_wp2_with fail;refine P.out.mono ?_;rintro e w0⟨rfl,rfl⟩;go_wp2_with fail;refine(L.out _ (Ext.refl _)).mono ?_;rintro e w4⟨rfl,a⟩;have y:=ah (S.out.ext a);have r:=G.out.trans' a;clear a;by_cases f:v=0
  .have g:=ah (j.out.trans (if_neg (by rw[f];simp)));have Q:(v != 0)=false:=bZ' f;clear f;go_wp2;go_ret2;exact⟨A,n,c,by rw[g.out];rfl,by rw[g.out];exact y.out,r⟩
  .have g:=ah (j.out.trans (if_pos f));have Q:(v != 0)=true:=bN' f;clear f;go_wp2;go_ret2;exact⟨none,0,0,by rw[g.out];rfl,by rw[g.out];exact aF.nil_ _,r⟩
 .rw[F]at P;have X:=ah (uenc_spec l A n c (tW' w t) S.out);rw[aQw F hm]at X;have U:Hid (∀b:World,Calls prog 158 #[.string (sB l)] b λe x=>e= .returned (.bool (isX l))/\Ext b x):=ah λb=>Sr l (Mc F) b
  have M:Hid (∀b:World,Calls prog 159 #[.string (sB l)] b (Cc b (alD l))):=ah λb=>aMi l (Mc F) (by omega) b
  rw[F]at i;cases r:isX l
  .rw[r]at U i;have K:=ah (i.out.trans (by rfl:_=(l,(0:Int))));have q:=C;rw[K.out]at q;have j:Hid (D=if gQ T l≠0 then([],gQ T l)else(l,0)):=ah q.out;clear ht O s hm F q C i K r M;generalize gQ T l=v at*;go_enter func84,ntmps84;go_wp2_with fail;refine P.out.mono ?_;rintro e w0⟨rfl,rfl⟩;go_wp2_with fail;refine(X.out).mono ?_;rintro e V⟨rfl,o⟩;go_wp2_with fail;refine(U.out V).mono ?_;rintro e R⟨rfl,p⟩;have H:=ah (o.trans' p);have rT:∀k:Nat,R.cell? ⟨w.heap.size,k,none⟩=t.v.cells[k]? :=aQ H.out;clear o p;go_wp2_with fail;refine(L.out R H.out).mono ?_;rintro e w4⟨rfl,a⟩;have y:=ah (S.out.ext (H.out.trans' a));have r:=G.out.trans' (H.out.trans' a);clear a rT;by_cases f:v=0
   .have g:=ah (j.out.trans (if_neg (by rw[f];simp)));have Q:(v != 0)=false:=bZ' f;clear f;go_wp2;go_ret2;exact⟨A,n,c,by rw[g.out];rfl,by rw[g.out];exact y.out,r⟩
   .have g:=ah (j.out.trans (if_pos f));have Q:(v != 0)=true:=bN' f;clear f;go_wp2;go_ret2;exact⟨none,0,0,by rw[g.out];rfl,by rw[g.out];exact aF.nil_ _,r⟩
  .rw[r]at U i;have K:=ah (i.out.trans (by rfl:_=alD l));rw[K.out]at C;clear ht O s hm F i K r L;generalize alD l=Y at*;obtain⟨m,ev⟩:=Y;simp only[]at C;by_cases I:ev=0
   .subst I;have j:Hid (D=if gQ T m≠0 then([],gQ T m)else(m,0)):=ah C.out;have a3:Hid (∀B k d b,Ext (tW' w t) b->aF b ⟨B,k,d⟩ m->Calls prog 160 #[t.v,.slice B k d] b λe x=>e= .returned (.int .i64 (gQ T m))/\Ext b x):=ah (λB k d b h O=>VR T t m B k d b (HT.out.aB h) O);generalize gQ T m=v at*;clear C;go_enter func84,ntmps84;go_wp2_with fail;refine P.out.mono ?_;rintro e w0⟨rfl,rfl⟩;go_wp2_with fail;refine(X.out).mono ?_;rintro e V⟨rfl,o⟩;go_wp2_with fail;refine(U.out V).mono ?_;rintro e R⟨rfl,p⟩;go_wp2_with fail;refine(M.out R).mono ?_;rintro e Z⟨B,k,d,rfl,J,z⟩;have N:Hid (Ext (tW' w t) Z):=ah ((o.trans' p).trans' z);have W:=ah J;have rT:∀k:Nat,Z.cell? ⟨w.heap.size,k,none⟩=t.v.cells[k]? :=aQ N.out;clear o p z J;go_wp2_with fail;refine(a3.out B k d Z N.out W.out).mono ?_;rintro e w4⟨rfl,a⟩;have y:=ah (W.out.ext a);have r:=(G.out.trans' N.out).trans' a;clear a rT;by_cases f:v=0
    .have g:=ah (j.out.trans (if_neg (by rw[f];simp)));have Q:(v != 0)=false:=bZ' f;clear f;go_wp2;go_ret2;exact⟨B,k,d,by rw[g.out];rfl,by rw[g.out];exact y.out,r⟩
    .have g:=ah (j.out.trans (if_pos f));have Q:(v != 0)=true:=bN' f;clear f;go_wp2;go_ret2;exact⟨none,0,0,by rw[g.out];rfl,by rw[g.out];exact aF.nil_ _,r⟩
   .have g:=ah (C.out.trans (if_pos I));have Q:(ev != 0)=true:=bN' I;clear I C;go_enter func84,ntmps84;go_wp2_with fail;refine P.out.mono ?_;rintro e w0⟨rfl,rfl⟩;go_wp2_with fail;refine(X.out).mono ?_;rintro e V⟨rfl,o⟩;go_wp2_with fail;refine(U.out V).mono ?_;rintro e R⟨rfl,p⟩;go_wp2_with fail;refine(M.out R).mono ?_;rintro e Z⟨B,k,d,rfl,J,z⟩;have r:=((G.out.trans' o).trans' p).trans' z;clear o p z J;go_wp2;go_ret2;exact⟨none,0,0,by rw[g.out];rfl,by rw[g.out];exact aF.nil_ _,r⟩
theorem aQW(w:World)(ks:List Int)(b:ks.length<=1000):aF (w.alloc (.cells (ks.map (Value.int .i64)).toArray 3)) ⟨some ⟨w.heap.size,0,none⟩,ks.length,ks.length⟩ ks:=by
 refine⟨⟨rfl,Nat.le_refl _,by simp only[maxLen];omega⟩,λi y a=>⟨w.heap.size,0,rfl,?_⟩⟩;rw[Nat.zero_add,aQ (Ext.refl _) i];simp[a]
theorem LZ{T:aj}(h:bY T=true):nG T.bW:=aOB (Ur h)
theorem take_any{T:aj}{ks:List Int}(l:List Int)(k:Nat)(a:k<l.length):dN ks (cO T (l.take (k+1)))=(dN ks (cO T (l.take k))||ks.any λy=>y==fJ T l[k]):=by
 rw[GK T l k a,aQ3]
theorem aQL{T:aj}{ks:List Int}{l:List Int}{k j:Nat}(a:k<l.length)(b:j<ks.length)(h:fJ T l[k]=ks[j]):dN ks (cO T l)=true:=by
 unfold dN;rw[List.any_eq_true];exact⟨fJ T l[k],List.mem_map.2 ⟨_,List.getElem_mem a,rfl⟩,List.any_eq_true.2 ⟨ks[j],List.getElem_mem b,by rw[h];simp⟩⟩
def AnL(T:aj)(w0:World)(ks l:List Int)(gh:Nat)(s13:Value)(wx:World):Prop:=
 ∃(k:Nat),k+gh=l.length/\s13= .int .i64 k/\Hid (dN ks (cO T (l.take k))=false)/\Hid (Ext w0 wx)
def aQb(w0:World)(ks:List Int)(q:Int)(gh:Nat)(Aa:Value)(wx:World):Prop:=
 ∃(j:Nat),j+gh=ks.length/\Aa= .int .i64 j/\Hid (((ks.take j).any λy=>y==q)=false)/\Hid (Ext w0 wx)
theorem aQX(T:aj)(t:TV)(l ks:List Int)(A:Option Addr)(n c:Nat)(K:Option Addr)(m d:Nat)(w:World)(ht:aV w t T)(X:aF w ⟨A,n,c⟩ l)(hw:bY T=true)(hm:l.length<=4096)(Y:aF w ⟨K,m,d⟩ ks)(F:ks.length<=4096):
 Calls prog 196 #[t.v,.slice A n c,.slice K m d] w λe w'=>e= .returned (.bool (dN ks (cO T l)))/\Ext w w':=by
 have g:=cZ w t;have p:=ah g;have HT:=ah (ht.aB g);have HI:=ah (X.ext g);have HK:=ah (Y.ext g);have HW:=ah hw;have HM:=ah hm;have G:=ah F;have hn:=X.len.1;subst hn;have H:=Y.len.1;subst H;clear ht X g hw hm Y F;go_enter func196,ntmps196;go_wp2;go_loopg[13] l.length (λI J L=>AnL T (tW' w t) ks l I J L);exact⟨0,by omega,rfl,ah rfl,ah (Ext.refl _)⟩;obtain⟨k,aa,rfl,Z,M⟩:=hrel;have f:=p.out.trans' M.out;have ab:l.length<=4096:=HM.out;have ac:ks.length<=4096:=G.out;by_cases r:k<l.length
 .obtain⟨N,rfl⟩:=gS' gk;obtain⟨b,o,rfl,ad⟩:=(HI.out.ext M.out).at_ r;have P:=ah (take_any (T:=T) (ks:=ks) l k r);have D:Hid (∀j,(B:j<ks.length)->fJ T l[k]=ks[j]->dN ks (cO T l)=true):=ah (λj B h=>aQL r B h);generalize l[k]=x at*;have HC:Hid (∀w',Ext (tW' w t) w'->Calls prog 198 #[t.v,.int .i64 x] w' λe Q=>e= .returned (.int .i64 (fJ T x))/\Ext w' Q):=ah (λw' h=>LH t T x w' (HT.out.aB h) (LZ HW.out));generalize fJ T x=q at*;have ae:=z0' k;have af:(k:Int)<(l.length:Int):=by omega
  clear f;go_wp2_with fail;rename_i ag;go_loopg[19] ks.length (λI Aa L=>aQb (tW' w t) ks q I Aa L);exact⟨0,by omega,rfl,ah rfl,M⟩;obtain⟨j,al,rfl,s,a⟩:=hrel;have f:=p.out.trans' a.out;have R:∀k:Nat,wr.cell? ⟨w.heap.size,k,none⟩=t.v.cells[k]? :=aQ a.out;by_cases B:j<ks.length
  .obtain⟨S,rfl⟩:=gS' gk;obtain⟨b2,o2,rfl,am⟩:=(HK.out.ext a.out).at_ B;have E:=ah (Md (λy=>y==q) ks j B);have z:=ah (D.out j B);generalize ks[j]=y at*;have an:=z0' j;have ao:(j:Int)<(ks.length:Int):=(by omega);by_cases C:q=y
   .have e1:(q==y)=true:=(by rw[beq_iff_eq];exact C);have HV:=ah (z.out C);clear C z D f;go_wp2_with fail;refine(HC.out _ a.out).mono ?_;rintro e w3⟨rfl,i⟩;have hx:=(p.out.trans' a.out).trans' i;clear R i;go_wp2;go_ret;exact⟨by rw[HV.out];rfl,hx⟩
   .have e1:(q==y)=false:=(by rw[aP];exact C);have U:Hid (((ks.take (j+1)).any λy=>y==q)=false):=ah (by rw[E.out,s.out,Bool.false_or,aP];exact λh=>C h.symm);clear C z E s f;go_wp2_with fail;refine(HC.out _ a.out).mono ?_;rintro e w3⟨rfl,i⟩;have V:=ah (a.out.trans' i);clear R i;go_wp2;go_roundg S;exact⟨j+1,by omega,by go_num,U,V⟩;omega
  .have W:Hid (dN ks (cO T (l.take (k+1)))=false):=ah (by
    have h1:=s.out;rw[List.take_of_length_le (by omega)]at h1;rw[P.out,Z.out,Bool.false_or]
    exact h1)
   clear R f;go_wp2;go_roundg N;exact⟨k+1,by omega,by go_num,W,a⟩;omega
 .have HE:Hid (dN ks (cO T l)=false):=ah (by rw[<- Z.out,List.take_of_length_le (by omega)]);go_wp2;go_ret;exact⟨by rw[HE.out];rfl,f⟩
def RlL(T:aj)(w0:World)(l:List Int)(gh:Nat)(s5 s11:Value)(wx:World):Prop:=
 ∃(k:Nat),k+gh=l.length/\s11= .int .i64 k/\s5= .int .i64 (lastB (cO T (l.take k)))/\Hid (Ext w0 wx)
theorem aQS(T:aj)(t:TV)(l:List Int)(A:Option Addr)(n c:Nat)(w:World)(ht:aV w t T)(B:aF w ⟨A,n,c⟩ l)(D:bY T=true)(E:l.length<=4096):
 Calls prog 197 #[t.v,.slice A n c] w λe w'=>e= .returned (.int .i64 (lastB (cO T l)))/\Ext w w':=by
 have f:=cZ w t;have s:=ah f;have F:=ah (ht.aB f);have G:=ah (B.ext f);have H:=ah D;have I:=ah E;have J:=B.len.1;subst J;clear ht B f D E;go_enter func197,ntmps197;go_wp2;go_loopg[5,11] l.length (λK L y M=>RlL T (tW' w t) l K L y M);exact⟨0,by omega,rfl,rfl,ah (Ext.refl _)⟩;obtain⟨k,N,rfl,rfl,i⟩:=hrel;have j:=s.out.trans' i.out;have O:l.length<=4096:=I.out;have z:∀k:Nat,wr.cell? ⟨w.heap.size,k,none⟩=t.v.cells[k]? :=aQ i.out;by_cases m:k<l.length
 .obtain⟨p,rfl⟩:=gS' gk;obtain⟨b,o,rfl,Q⟩:=(G.out.ext i.out).at_ m;have r:Hid (lastB (cO T (l.take (k+1)))=if fJ T l[k]=10 then lastB (cO T (l.take k))else fJ T l[k]):=ah (by rw[GK T l k m,LV]);generalize l[k]=x at*;have C:=ah (LH t T x wr (F.out.aB i.out) (LZ H.out));generalize fJ T x=q at*;have R:=z0' k;have S:(k:Int)<(l.length:Int):=by omega
  clear j;by_cases a:q=10
  .have U:(q != 10)=false:=by rw[a];rfl
   have g:=ah (r.out.trans (if_pos a));clear a r;go_wp2_with fail;refine C.out.mono ?_;rintro e V⟨rfl,d⟩;have h:=ah (i.out.trans' d);clear z d;go_wp2;go_roundg p;exact⟨k+1,by omega,by go_num,by rw[g.out],h⟩;omega
  .have U:(q != 10)=true:=bN' a;have g:=ah (r.out.trans (if_neg a));clear a r;go_wp2_with fail;refine C.out.mono ?_;rintro e V⟨rfl,d⟩;have h:=ah (i.out.trans' d);clear z d;go_wp2;go_roundg p;exact⟨k+1,by omega,by go_num,by rw[g.out],h⟩;omega
 .have W:Hid (l.take k=l):=ah (List.take_of_length_le (by omega));clear z;go_wp2;go_ret;exact⟨by rw[W.out];rfl,j⟩
end Go.Proofs.YtlmkgaoakcjlnaaGreatDoor
