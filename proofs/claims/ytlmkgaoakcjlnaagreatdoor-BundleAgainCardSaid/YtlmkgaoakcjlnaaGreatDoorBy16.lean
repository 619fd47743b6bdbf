/- Part By16. -/
import Derived.Test.YtlmkgaoakcjlnaaGreatDoorBy15
import Derived.Lib.ConvBytes
import Derived.Lib.AppendStr
open Go.Proofs.Tryz
namespace Go.Proofs.YtlmkgaoakcjlnaaGreatDoor
set_option maxHeartbeats 25600000
set_option maxRecDepth 100000
open Go.RowKit
variable (T:aj)(t:TV)(l:List Int)(A:Option Addr)(n c:Nat)(w:World)
def kG(T:aj)(c:Int):List Int:=if uD T c=true then[]else if aI T.dW c=[]then[c]else aI T.dW c
def lZ(T:aj)(l:List Int):Int:=if aX T l≠0 then aX T l else if 4096<((l.flatMap (kG T)).length:Int)then 7 else 0
def tV(T:aj)(l:List Int):List Int:=if lZ T l=0 then l.flatMap (kG T)else[]
def Jy(w:World)(l:List Int)(v:Int)(e:Ending)(w':World):Prop:=∃B m d,e=.returned (.tuple #[.slice B m d,.int .i64 v])/\Ext w w'/\aF w' ⟨B,m,d⟩ l
theorem Jw{T:aj}(h:dw T=true):∀x,(aI T.dW x).length<=18:=by
 simp only[dw,aT]at h;have a:jg T=true:=by simp only[h]
 simp only[jg,maps,kS,aT]at a;exact Ia a.2.2.2.1
theorem YM{T:aj}(h:dw T=true)(x:Int):(kG T x).length<=18:=by
 unfold kG;split
 .simp
 .split
  .simp
  .exact Jw h x
theorem aYS(T:aj)(c:Int)(w:World)(ht:aW w t T)(i:dw T=true):
 Calls prog 243 #[t.v,.int .i64 c] w λe w'=>∃B m d,e=.returned (.slice B m d)/\aF w' ⟨B,m,d⟩ (aI T.dW c)/\Ext w w':=by
 have b:=dG w t;have x:=ah (ht.aC b);have y:=ah (Jw i c);have o:=ah (ou i);have z:=ah (Fa i);clear i;obtain⟨p,A,q,r,f,C⟩:=BH T.dW t.s11.a t.s11.n t.s11.c c _ x.out.dW o.out.dW.1 o.out.dW.2;have D:=ah r;have j:Hid (aI T.dW c=[]->p=none/\q=0):=ah λh=>by
  have:=f (Dc z.out.dW h);exact⟨this.1,this.2.2⟩
 clear r f;go_enter func243,ntmps243;go_wp2_with fail;refine(C _ eR').mono ?_;rintro e E⟨rfl,g⟩;go_wp2_with fail;refine(MJ _ p A q E (D.out.ext g) (by have:=y.out;omega) j.out).mono ?_;rintro e H⟨B,d,rfl,s,k,l⟩;have F:=(b.trans' g).trans' l;have G:=ah (aK.ints s);clear s k;go_wp2;go_ret;exact⟨_,_,_,rfl,G.out,F⟩
theorem aYP(T:aj)(c:Int)(w:World)(ht:aW w t T):
 Calls prog 199 #[t.v,.int .i64 c] w λe w'=>∃B m d,e=.returned (.slice B m d)/\aF w' ⟨B,m,d⟩ (aI T.dW c)/\Ext w w':=by
 have a:=dG w t;have g:=ah (ht.aC a);go_enter func199,ntmps199;go_wp2_with fail;refine(iZ T.dW _ _ _ c _ g.out.dW).mono ?_;rintro e j⟨k,l,n,rfl,f,b⟩;have h:=ah f;have i:=a.trans' b;clear f b;go_wp2;go_ret;exact⟨_,_,_,rfl,h.out,i⟩
def YN(T:aj)(wb:World)(l:List Int)(gh:Nat)(s9 s23:Value)(wx:World):Prop:=
 ∃(k:Nat)(A:Option Addr)(n c:Nat),k+gh=l.length/\s23=.int .i64 k/\s9=.slice A n c/\Hid (aK wx wb.heap.size A n c ((l.take k).flatMap (kG T)))/\Hid (Ext wb wx)
theorem aYb(ht:aW w t T)(hi:aF w ⟨A,n,c⟩ l):
 Calls prog 168 #[t.v,.slice A n c] w (Jy w (tV T l) (lZ T l)):=by
 have z:=dG w t;have N:=ah z;have HT:=ah (ht.aC z);have HI:=ah (hi.ext z);have hn:=hi.len.1;subst hn;clear ht hi z;go_enter func168,ntmps168;go_wp2_with fail;refine(yS t T l A _ c _ HT.out HI.out).mono ?_;rintro e K⟨v,rfl,G,_⟩;have O:=ah G;have P:=bT' t G;clear G;by_cases F:aX T l=0
 .obtain⟨hw,hl⟩:=sU F;have aa:(aX T l != 0)=false:=bZ' F;have Q:Hid (lZ T l=if 4096<((l.flatMap (kG T)).length:Int)then 7 else 0):=ah (by rw[lZ,nN' (by rw[F];simp)]);have HW:=ah hw;have HL:=ah hl;clear F hw hl P;go_wp2;go_loopg[8,23] l.length (λgh s9 ab wx=>YN T K l gh s9 ab wx);exact⟨0,none,0,0,by omega,rfl,rfl,ah (Own.nil_ _ _ _ _),ah eR'⟩;obtain⟨k,A2,j,c2,b2,rfl,rfl,H,R⟩:=hrel;have L:=ah (O.out.trans' R.out);have P:=bT' t L.out;have ac:=ah (HI.out.ext L.out)
  have S:Hid (((l.take k).flatMap (kG T)).length<=18*4096):=ah (by
   have h1:=G5 (YM HW.out) (l.take k);rw[List.length_take]at h1;have:=HL.out
   omega)
  have B:=ah (aK.ints H.out).len.1;by_cases U:k<l.length
  .obtain⟨I,rfl⟩:=gS' gk;obtain⟨b,o,rfl,b4⟩:=ac.out.at_ U;have C:=ah (BL (kG T) l k U);have h:Hid (kG T l[k]=if uD T l[k]=true then[]else if aI T.dW l[k]=[]then[l[k]]else aI T.dW l[k]):=rfl;have ad:=ah (Jw HW.out l[k]);generalize l[k]=x at*;have b5:=z0' k;have b6:(k:Int)<(l.length:Int):=(by omega);have b7:l.length<=4096:=HL.out;go_wp2_with fail;refine(RI t T x wr (HT.out.aC L.out) (ou HW.out)).mono ?_;rintro e w3⟨rfl,m⟩;have V:=ah (R.out.trans' m);have dM:=ah (Own.ext H.out m);have iH:=bT' t (L.out.trans' m);have nK:=ah (L.out.trans' m);clear m P ;cases W:uD T x with
   |true=>
    rw[W]at h;have p:Hid (kG T x=[]):=ah (h.out.trans (pP' rfl));have X:Hid (aK w3 K.heap.size A2 j c2 ((l.take (k+1)).flatMap (kG T))):=ah (by rw[C.out,p.out,List.append_nil];exact dM.out);clear h iH;go_wp2;go_roundg I;exact⟨k+1,A2,j,c2,by omega,by go_num,rfl,X,V⟩;omega
   |false=>
    rw[W,nN' (by simp)]at h;have zQ:=h;clear h;go_wp2_with fail;refine(aYS t T x w3 (HT.out.aC nK.out) HW.out).mono ?_;rintro e w4⟨A3,J,c3,rfl,Y,q⟩;have D:=ah (V.out.trans' q);have nV:=ah (Own.ext dM.out q);have KY:=bT' t (nK.out.trans' q);have b8:=ah (nK.out.trans' q);have s:=ah (Y);clear q iH dM Y;by_cases i:aI T.dW x=[]
    .have p:Hid (kG T x=[x]):=ah (zQ.out.trans (pP' i));have E:J=0:=(by have:=s.out.len.1;rw[i]at this;exact this);have y:Ext w4 (w4.alloc (.cells #[.int .i64 x] 3)):=eR'.aB _;obtain⟨Z,c5,w5,f,d,g,kK⟩:=gJ (Own.ext nV.out y) (iQ w4 x) (by have:=S.out;have:=B.out;omega) (D.out.trans' y).b.size;have X:Hid (aK w5 K.heap.size Z (j+1) c5 ((l.take (k+1)).flatMap (kG T))):=ah (by rw[C.out,p.out];exact d);have bD:Hid (Ext K w5):=ah (dZ (D.out.trans' y) g (λk hk=>(Own.lt (Own.ext nV.out y) k hk).1));clear d g kK y i zQ s;subst E;go_wp2_with(at_builtin;refine dI rfl _ _ _ rfl _ _ rfl rfl _ _ f ?_);clear f;go_roundg I;exact⟨k+1,Z,j+1,c5,by omega,by go_num,rfl,X,bD⟩;omega
    .have p:=ah (zQ.out.trans (nN' i));have E:0<J:=by
      have:=s.out.len.1;cases hq:aI T.dW x with
      |nil=>exact absurd hq i
      |cons a r=>rw[hq]at this;simp only[List.length_cons]at this;omega
     have d3:decide (0<J)=true:=dt' E;have Gg:J<=18:=(by have h7:J=_:=s.out.len.1;have:=ad.out;omega);obtain⟨Z,c5,w5,f,d,g,kK⟩:=gJ nV.out s.out (by have:=S.out;have:=B.out;omega) D.out.b.size;have X:Hid (aK w5 K.heap.size Z (j+J) c5 ((l.take (k+1)).flatMap (kG T))):=ah (by rw[C.out,p.out];exact d);have bD:Hid (Ext K w5):=ah (dZ D.out g (λk hk=>(Own.lt nV.out k hk).1));clear d g kK i zQ Gg E;go_wp2_with(at_builtin;refine dI rfl _ _ _ rfl _ _ rfl rfl _ _ f ?_);clear f;go_roundg I;exact⟨k+1,Z,j+J,c5,by omega,by go_num,rfl,X,bD⟩;omega
  .have HE:Hid ((l.take k).flatMap (kG T)=l.flatMap (kG T)):=ah (by rw[tL' (by omega)]);have a2:=N.out.trans' L.out;clear P;by_cases M:4096<((l.flatMap (kG T)).length:Int)
   .have C:Hid (lZ T l=7):=ah (by rw[Q.out,pP' M]);have hd:decide (4096<(j:Int))=true:=(by rw[au,B.out,HE.out];exact M);have ap:decide (4096<j)=true:=(by rw[au];rw[au]at hd;omega);clear M;go_wp2;go_ret2;exact⟨none,0,0,by rw[C.out];rfl,a2,by rw[tV,C.out,nN' (by decide)];exact aF.nil_ _⟩
   .have C:Hid (lZ T l=0):=ah (by rw[Q.out,nN' M]);have hd:decide (4096<(j:Int))=false:=(by rw[aA,B.out,HE.out];exact M);have ap:decide (4096<j)=false:=(by rw[aA];rw[aA]at hd;omega);have aq:Hid (aF wr ⟨A2,j,c2⟩ (l.flatMap (kG T))):=ah (by rw[<- HE.out];exact aK.ints H.out);clear M;go_wp2;go_ret2;exact⟨A2,j,c2,by rw[C.out];rfl,a2,by rw[tV,C.out,pP' rfl];exact aq.out⟩
 .have aa:(aX T l != 0)=true:=bN' F
  have HZ:Hid (lZ T l=aX T l/\lZ T l≠0):=ah (by
   have h1:lZ T l=aX T l:=by rw[lZ,pP' F]
   exact⟨h1,by rw[h1];exact F⟩)
  have hb:=N.out.trans' O.out;clear F P;go_wp2;go_ret2;exact⟨none,0,0,by rw[HZ.out.1];rfl,hb,by rw[tV,nN' HZ.out.2];exact aF.nil_ _⟩
theorem aYZ(ht:aW w t T)(hi:aF w ⟨A,n,c⟩ l):
 Calls prog 129 #[t.v,.slice A n c] w (Jy w (tV T l) (lZ T l)):=by
 have B:=dG w t;have N:=ah B;have HT:=ah (ht.aC B);have HI:=ah (hi.ext B);have hn:=hi.len.1;subst hn;clear ht hi B;go_enter func129,ntmps129;go_wp2_with fail;refine(uJ t T l A _ c _ HT.out HI.out).mono ?_;rintro e K⟨rfl,G⟩;have O:=ah G;have P:=bT' t G;clear G;by_cases F:aX T l=0
 .obtain⟨hw,hl⟩:=sU F;have aa:(aX T l != 0)=false:=bZ' F;have Q:Hid (lZ T l=if 4096<((l.flatMap (kG T)).length:Int)then 7 else 0):=ah (by rw[lZ,nN' (by rw[F];simp)]);have HW:=ah hw;have HL:=ah hl;clear F hw hl P;go_wp2;go_loopg[7,19] l.length (λgh s9 ab wx=>YN T K l gh s9 ab wx);exact⟨0,none,0,0,by omega,rfl,rfl,ah (Own.nil_ _ _ _ _),ah eR'⟩;obtain⟨k,A2,p,c2,b1,rfl,rfl,H,R⟩:=hrel;have L:=ah (O.out.trans' R.out);have P:=bT' t L.out;have ac:=ah (HI.out.ext L.out)
  have S:Hid (((l.take k).flatMap (kG T)).length<=18*4096):=ah (by
   have h1:=G5 (YM HW.out) (l.take k);rw[List.length_take]at h1;have:=HL.out
   omega)
  have C:=ah (aK.ints H.out).len.1;by_cases U:k<l.length
  .obtain⟨I,rfl⟩:=gS' gk;obtain⟨b,o,rfl,b3⟩:=ac.out.at_ U;have D:=ah (BL (kG T) l k U);have h:Hid (kG T l[k]=if uD T l[k]=true then[]else if aI T.dW l[k]=[]then[l[k]]else aI T.dW l[k]):=rfl;have ad:=ah (Jw HW.out l[k]);generalize l[k]=x at*;have b4:=z0' k;have b5:(k:Int)<(l.length:Int):=(by omega);have b6:l.length<=4096:=HL.out;go_wp2_with fail;refine(aYP t T x wr (HT.out.aC L.out)).mono ?_;rintro e w3⟨A3,J,c3,rfl,V,q⟩;have ae:=ah (R.out.trans' q);have dM:=ah (Own.ext H.out q);have iH:=bT' t (L.out.trans' q);have nK:=ah (L.out.trans' q);have W:=ah (V);clear q P V;go_wp2_with fail;refine(Rw t T x w3 (HT.out.aC nK.out)).mono ?_;rintro e w4⟨rfl,i⟩;have s:=ah (ae.out.trans' i);have X:=ah (Own.ext dM.out i);have KY:=bT' t (nK.out.trans' i);have ba:=ah (nK.out.trans' i);have j:=ah (W.out.ext i);clear i W iH dM;cases Y:uD T x with
   |true=>
    rw[Y]at h;have y:Hid (kG T x=[]):=ah (h.out.trans (pP' rfl));have Z:Hid (aK w4 K.heap.size A2 p c2 ((l.take (k+1)).flatMap (kG T))):=ah (by rw[D.out,y.out,List.append_nil];exact X.out);clear h KY j;go_wp2;go_roundg I;exact⟨k+1,A2,p,c2,by omega,by go_num,rfl,Z,s⟩;omega
   |false=>
    rw[Y,nN' (by simp)]at h;have zQ:=h;clear h;by_cases m:aI T.dW x=[]
    .have y:Hid (kG T x=[x]):=ah (zQ.out.trans (pP' m));have E:J=0:=(by have:=j.out.len.1;rw[m]at this;exact this);have z:Ext w4 (w4.alloc (.cells #[.int .i64 x] 3)):=eR'.aB _;obtain⟨A5,c5,w5,f,d,g,kK⟩:=gJ (Own.ext X.out z) (iQ w4 x) (by have:=S.out;have:=C.out;omega) (s.out.trans' z).b.size;have Z:Hid (aK w5 K.heap.size A5 (p+1) c5 ((l.take (k+1)).flatMap (kG T))):=ah (by rw[D.out,y.out];exact d);have bD:Hid (Ext K w5):=ah (dZ (s.out.trans' z) g (λk hk=>(Own.lt (Own.ext X.out z) k hk).1));clear d g kK z m zQ j;subst E;go_wp2_with(at_builtin;refine dI rfl _ _ _ rfl _ _ rfl rfl _ _ f ?_);clear f;go_roundg I;exact⟨k+1,A5,p+1,c5,by omega,by go_num,rfl,Z,bD⟩;omega
    .have y:=ah (zQ.out.trans (nN' m));have E:0<J:=by
      have:=j.out.len.1;cases hq:aI T.dW x with
      |nil=>exact absurd hq m
      |cons a r=>rw[hq]at this;simp only[List.length_cons]at this;omega
     have d3:decide (0<J)=true:=dt' E;have Gg:J<=18:=(by have h7:J=_:=j.out.len.1;have:=ad.out;omega);obtain⟨A5,c5,w5,f,d,g,kK⟩:=gJ X.out j.out (by have:=S.out;have:=C.out;omega) s.out.b.size;have Z:Hid (aK w5 K.heap.size A5 (p+J) c5 ((l.take (k+1)).flatMap (kG T))):=ah (by rw[D.out,y.out];exact d);have bD:Hid (Ext K w5):=ah (dZ s.out g (λk hk=>(Own.lt X.out k hk).1));clear d g kK m zQ Gg E;go_wp2_with(at_builtin;refine dI rfl _ _ _ rfl _ _ rfl rfl _ _ f ?_);clear f;go_roundg I;exact⟨k+1,A5,p+J,c5,by omega,by go_num,rfl,Z,bD⟩;omega
  .have HE:Hid ((l.take k).flatMap (kG T)=l.flatMap (kG T)):=ah (by rw[tL' (by omega)]);have a3:=N.out.trans' L.out;clear P;by_cases M:4096<((l.flatMap (kG T)).length:Int)
   .have D:Hid (lZ T l=7):=ah (by rw[Q.out,pP' M]);have hd:decide (4096<(p:Int))=true:=(by rw[au,C.out,HE.out];exact M);have ao:decide (4096<p)=true:=(by rw[au];rw[au]at hd;omega);clear M;go_wp2;go_ret2;exact⟨none,0,0,by rw[D.out];rfl,a3,by rw[tV,D.out,nN' (by decide)];exact aF.nil_ _⟩
   .have D:Hid (lZ T l=0):=ah (by rw[Q.out,nN' M]);have hd:decide (4096<(p:Int))=false:=(by rw[aA,C.out,HE.out];exact M);have ao:decide (4096<p)=false:=(by rw[aA];rw[aA]at hd;omega);have ap:Hid (aF wr ⟨A2,p,c2⟩ (l.flatMap (kG T))):=ah (by rw[<- HE.out];exact aK.ints H.out);clear M;go_wp2;go_ret2;exact⟨A2,p,c2,by rw[D.out];rfl,a3,by rw[tV,D.out,pP' rfl];exact ap.out⟩
 .have aa:(aX T l != 0)=true:=bN' F
  have HZ:Hid (lZ T l=aX T l/\lZ T l≠0):=ah (by
   have h1:lZ T l=aX T l:=by rw[lZ,pP' F]
   exact⟨h1,by rw[h1];exact F⟩)
  have hb:=N.out.trans' O.out;clear F P;go_wp2;go_ret2;exact⟨none,0,0,by rw[HZ.out.1];rfl,hb,by rw[tV,nN' HZ.out.2];exact aF.nil_ _⟩
def sB(l:List Int):ByteArray:=strOfNums l
def IsB(l:List Int):Prop:=∀x∈l,0<=x/\x<256
def nums(s:ByteArray):List Int:=s.data.toList.map λb=>(b.toNat:Int)
theorem uU:(sB l).size=l.length:=strOfNums_size l
theorem zq:(sB l).data.toList=l.map λn=>UInt8.ofNat n.toNat:=rfl
theorem LK(s:ByteArray)(l:List Int)(h:s.data.toList=l.map λn=>UInt8.ofNat n.toNat):s=sB l:=ByteArray.ext (Array.toList_inj.1 h)
theorem byte_back{x:Int}(h:0<=x/\x<256):((UInt8.ofNat x.toNat).toNat:Int)=x:=by
 have:x.toNat<256:=by omega
 simp[Nat.mod_eq_of_lt this];omega
theorem Ic{l:List Int}(h:IsB l):nums (sB l)=l:=by
 unfold nums;rw[zq,List.map_map]
 conv=>rhs;rw[<- List.map_id l]
 exact List.map_congr_left λx a=>byte_back (h x a)
theorem a0S{a b:List Int}(c:IsB a)(d:IsB b)(h:sB a=sB b):a=b:=by rw[<- Ic c,h,Ic d]
theorem Rx(a b:List Int):sB a++sB b=sB (a++b):=LK _ _ (by
 rw[ByteArray.data_append,Array.toList_append,zq,zq,List.map_append])
theorem LJ(i j:Nat):(sB l).extract i j=sB ((l.drop i).take (j-i)):=LK _ _ (by
 rw[ByteArray.data_extract,Array.toList_extract,zq,List.map_take,List.map_drop])
theorem a0q{l:List Int}(h:IsB l){k:Nat}(a:k<l.length)(b:k<(sB l).size):((sB l)[k]'b).toNat=(l[k]).toNat:=by
 have e:(sB l)[k]'b=UInt8.ofNat (l[k]).toNat:=by
  show(sB l).data[k]=_
  have:(sB l).data.toList[k]'(by simpa[zq]using a)=UInt8.ofNat (l[k]).toNat:=by simp[zq]
  simpa using this
 have c:=h _ (gM' a);have:=byte_back c;rw[e];omega
theorem EU{a b:List Int}(d:IsB a)(f:IsB b):IsB (a++b):=λx c=>(List.mem_append.1 c).elim (d x) (f x)
theorem Ap{a:List Int}(c:IsB a)(k:Nat):IsB (a.drop k):=λx b=>c x (List.mem_of_mem_drop b)
theorem yD{a:List Int}(c:IsB a)(k:Nat):IsB (a.take k):=λx b=>c x (List.mem_of_mem_take b)
theorem tK:IsB []:=λx a=>by cases a
attribute [go_sem] uU Rx
section
variable {l a b:List Int}(w:World)
theorem MG(h:IsB l){k:Nat}(a:k<l.length):(Instr.index 9 (.string (sB l)) (.int .i64 (k:Int))).run prog w=.ok (.int .u8 l[k]) w:=by
 have b:k<(sB l).size:=by rw[uU];exact a
 have c:=run_index_string (P:=prog) w 9 (sB l) .i64 (k:Int) underlying9;rw[c,dif_pos ⟨bJ _,by omega⟩];have d:=a0q h a b;have f:=(h _ (gM' a)).1;have e:(((sB l)[k]'b).toNat:Int)=l[k]:=by omega
 exact congrArg (λx:Int=>Result.ok (Value.int .u8 x) w) e
theorem DC{k:Nat}(a:k<=l.length):(Instr.slice 9 (.string (sB l)) (some (.int .i64 (k:Int))) none none).run prog w=.ok (.string (sB (l.drop k))) w:=by
 rw[run_slice_string_l w 9 (sB l) underlying9 .i64 (k:Int) (bJ _) (by rw[uU];omega),LJ,uU];have e:(l.drop k).take (l.length-k)=l.drop k:=tL' (by rw[List.length_drop];exact lr' _);exact congrArg (λx=>Result.ok (Value.string (sB x)) w) e
theorem BQ{k:Nat}(a:k<=l.length):(Instr.slice 9 (.string (sB l)) none (some (.int .i64 (k:Int))) none).run prog w=.ok (.string (sB (l.take k))) w:=by
 rw[run_slice_string_h w 9 (sB l) underlying9 .i64 (k:Int) (bJ _) (by rw[uU];omega),LJ];rfl
theorem Sr{k m:Nat}(a:k<=m)(b:m<=l.length):(Instr.slice 9 (.string (sB l)) (some (.int .i64 (k:Int))) (some (.int .i64 (m:Int))) none).run prog w=.ok (.string (sB ((l.drop k).take (m-k)))) w:=by
 rw[run_slice_string w 9 (sB l) .i64 .i64 (k:Int) (m:Int) underlying9 (bJ _) (by omega) (by rw[uU];omega),LJ];rfl
theorem a2i(h:a.length+b.length<=8388608):(binOp .add 9 (.string (sB a)) (.string (sB b))).run prog w=.ok (.string (sB (a++b))) w:=by
 show(Op.stringOp .add (sB a) (sB b)).run prog w=_
 rw[run_string_add w (sB a) (sB b) (by rw[uU];omega) (by rw[uU];omega),Rx]
theorem vO(c:IsB a)(d:IsB b):((sB a).toList==(sB b).toList)=decide (a=b):=by
 rw[ByteArray.toList_eq,ByteArray.toList_eq];by_cases e:a=b
 .subst e;simp
 .rw[df' e,aO];exact λh=>e (a0S c d (ByteArray.ext (Array.toList_inj.1 h)))
theorem xU(l:List Int):(sB l).toList.isEmpty=l.isEmpty:=by
 rw[ByteArray.toList_eq,zq,List.isEmpty_map]
end
theorem ixc{l:List Int}(h:IsB l){k:Nat}(a:k<l.length)(w:World):(Instr.index 9 (.string (sB l)) (.int .i64 (k:Int))).run prog w=.ok (.int .u8 (l.getD k 0)) w:=by
 rw[getD_lt l k 0 a];exact MG w h a
theorem xQ{l:List Int}(h:IsB l)(k:Nat):0<=l.getD k 0/\l.getD k 0<256:=by
 by_cases a:k<l.length
 .rw[getD_lt l k 0 a];exact h _ (gM' a)
 .simp[List.getD,List.getElem?_eq_none (show l.length<=k by omega)]
def pz(w:World)(s:SV)(l:List Int):Prop:=
 yL s l.length/\∀i x,l[i]? =some x->∃b o,s.a=some ⟨b,o,none⟩/\w.cell? ⟨b,o+i,none⟩=some (.int .u8 x)
theorem pz.keep{w w':World}{s:SV}{l:List Int}(h:pz w s l)(f:∀p:Addr,p.block<w.heap.size->w'.cell? p=w.cell? p):pz w' s l:=
 ⟨h.1,λi x a=>by obtain⟨b,o,c,d⟩:=h.2 i x a;exact⟨b,o,c,bI f d⟩⟩
theorem pz.ext{w w':World}{s:SV}{l:List Int}(h:pz w s l)(a:Ext w w'):pz w' s l:=h.keep (bK a)
theorem pz.nil_:pz w ni []:=⟨⟨rfl,by simp,by simp[maxLen]⟩,λi x h=>by simp at h⟩
theorem pz.len{A:Option Addr}{n c:Nat}{w:World}{l:List Int}(h:pz w ⟨A,n,c⟩ l):n=l.length/\l.length<=c/\c<=9223372036854775807:=h.1
theorem pz.at_{A:Option Addr}{n c:Nat}{w:World}{l:List Int}(h:pz w ⟨A,n,c⟩ l){i:Nat}(a:i<l.length):∃b o,A=some ⟨b,o,none⟩/\w.cell? ⟨b,o+i,none⟩=some (.int .u8 l[i]):=
 h.2 i _ (List.getElem?_eq_getElem a)
abbrev OwnB(w:World)(base:Nat)(A:Option Addr)(n c:Nat)(l:List Int):Prop:=Own w base 5 1 A n c (l.map (Value.int .u8))
theorem infoB:(prog.info? 5).map (λi=>(i.zero,i.size,i.bytes))=some (some (.int .u8 0),1,1):=by kernel_rfl
theorem OwnB.MF{w:World}{a n c:Nat}{A:Option Addr}{l:List Int}(h:OwnB w a A n c l):pz w ⟨A,n,c⟩ l:=by
 have d:=h.len;simp only[List.length_map,Nat.mul_one]at d;obtain⟨f,g⟩:=h.le;refine⟨⟨d.symm,by rw[d];exact f,g⟩,λi x j=>?_⟩;obtain⟨b,rfl,k⟩:=h.rU i (.int .u8 x) (by simp[j]);exact⟨b,0,rfl,by simpa using k⟩
theorem a0e{w:World}{a n c:Nat}{A:Option Addr}{l:List Int}(f:OwnB w a A n c l){i:Option Addr}{m k:Nat}{g:List Int}(p:pz w ⟨i,m,k⟩ g)(z:n+m<=1099511627776)(b:a<=w.heap.size):
 ∃A' c' w',(∀ty,(Builtin.append_ #[95,95] ty #[.slice A n c,.slice i m k]).run prog w=.ok (.slice A' (n+m) c') w')/\OwnB w' a A' (n+m) c' (l++g)/\w.grownBy w' (aH A)/\(aH A'=aH A\/aH A'=some w.heap.size):=by
 have q:=p.len.1;obtain⟨A',c',w',r,s,t,y⟩:=Ac underlying95 infoB rfl (by omega) f i m k (g.map (Value.int .u8)) (by simp[q])
  (λj u d=>by
   rw[List.getElem?_map]at d;cases h:g[j]? with
   |none=>rw[h]at d;cases d
   |some x=>
    rw[h]at d;simp only[Option.map_some,Option.some.injEq]at d;subst d
    exact p.2 j x h)
  (by intro u o;rw[List.mem_map]at o;obtain⟨x,_,rfl⟩:=o;rfl) (by simp only[maxLen];omega) (by omega) b
 exact⟨A',c',w',r,by rw[OwnB,List.map_append];exact s,t,y⟩
theorem Ry(a:Array Value)(l:List Int)(c:a=(l.map (Value.int .u8)).toArray)(d:l.length<=4096):pz (w.alloc (.cells a 5)) ⟨some ⟨w.heap.size,0,none⟩,l.length,l.length⟩ l:=by
 subst c;refine⟨⟨rfl,lr' _,by simp only[maxLen];omega⟩,λi y b=>⟨w.heap.size,0,rfl,?_⟩⟩;rw[World.cell?_alloc_new];simp[b]
theorem yJ{i w:World}{A:Option Addr}{n c:Nat}{l:List Int}(d:aK w i.heap.size A n c l)(j:Ext i w)(x:Int)(r:n<=1099511600000):
 ∃A' c' w',(∀ty,(Builtin.append_ #[22,22] ty #[.slice A n c,.slice (some ⟨w.heap.size,0,none⟩) 1 1]).run prog (w.alloc (.cells #[.int .i64 x] 3))=.ok (.slice A' (n+1) c') w')/\aK w' i.heap.size A' (n+1) c' (l++[x])/\Ext i w'/\w.heap.size<=w'.heap.size:=by
 have a:Ext w (w.alloc (.cells #[.int .i64 x] 3)):=eR'.aB _;obtain⟨m,o,p,g,f,h,_⟩:=gJ (Own.ext d a) (iQ w x) (by omega) (Nat.le_trans j.b.size a.b.size);exact⟨m,o,p,g,f,dZ (j.trans' a) h (λk q=>(Own.lt d k q).1),Nat.le_trans a.b.size h.size⟩
theorem zF{i w:World}{A:Option Addr}{n c:Nat}{l:List Int}(d:OwnB w i.heap.size A n c l)(p:Ext i w)(j:Array Value)(o:List Int)(m:Nat)(x:o.length=m)(y:j=(o.map (Value.int .u8)).toArray)(z:m<=4096)(B:n<=1099511600000):
 ∃A' c' w',(∀ty,(Builtin.append_ #[95,95] ty #[.slice A n c,.slice (some ⟨w.heap.size,0,none⟩) m m]).run prog (w.alloc (.cells j 5))=.ok (.slice A' (n+m) c') w')/\OwnB w' i.heap.size A' (n+m) c' (l++o)/\Ext i w'/\w.heap.size<=w'.heap.size:=by
 subst x;have a:Ext w (w.alloc (.cells j 5)):=eR'.aB _;obtain⟨q,r,s,g,f,h,_⟩:=a0e (Own.ext d a) (Ry w j o y z) (by omega) (Nat.le_trans p.b.size a.b.size);exact⟨q,r,s,g,f,dZ (p.trans' a) h (λk t=>(Own.lt d k t).1),Nat.le_trans a.b.size h.size⟩
theorem yM{f:Int->Bool}{l:List Int}{k:Nat}(h:k<l.length):(l.take (k+1)).any f=((l.take k).any f||f l[k]):=by
 rw[tS' h,List.any_append];simp
theorem anyM{f:Int->Bool}{l:List Int}{k:Nat}(h:k<l.length)(a:f l[k]=true):l.any f=true:=List.any_eq_true.2 ⟨_,gM' h,a⟩
theorem Dz{w:World}{A:Option Addr}{n c:Nat}{l:List Int}(h:pz w ⟨A,n,c⟩ l):(convert 95 9 (.slice A n c)).run prog w=.ok (.string (sB l)) w:=by
 have d:=h.len.1;cases l with
 |nil=>
  subst d;rcases A with _|⟨b,o,p⟩
  .exact run_convert_bytes_nil w 95 5 underlying95 underlying5 _ _ 9 underlying9
  .rw[run_convert_bytes_string w 95 9 5 _ _ _ underlying95 underlying5 underlying9];exact run_bytesToString (P:=prog) w _ 0 c [] (run_loadCells_list w _ [] (λj v f=>by simp at f))
 |cons x r=>
  obtain⟨b,o,rfl,_⟩:=h.at_ (i:=0) (by simp);refine run_convert_bytes_arg (P:=prog) w 95 5 underlying95 underlying5 b o n c (x::r) d.symm (λi q=>?_) 9 underlying9;have a:i<(x::r).length:=by omega
  obtain⟨s,t,e,g⟩:=h.at_ a;injection e with e;injection e with k m;subst k m;rw[g,List.getD,List.getElem?_eq_getElem a];rfl
theorem Ik{w:World}{l:List Int}(n:IsB l)(f:l.length<=1099511627776):
 ∃c w',(convert 9 95 (.string (sB l))).run prog w=.ok (.slice (some ⟨w.heap.size,0,none⟩) l.length c) w'/\pz w' ⟨some ⟨w.heap.size,0,none⟩,l.length,c⟩ l/\Ext w w'/\w.heap.size<w'.heap.size/\∀j,j<l.length->w'.frozen? ⟨w.heap.size,j,none⟩=false:=by
 have h:=Lib.run_convert_string_bytes (P:=prog) w 9 95 5 (sB l) (u:=.string) underlying9 underlying95 underlying5;have a:=grownCap_ge w l.length 0 5;have b:=grownCap_le_maxLen w l.length 0 5 (by simp only[maxLen];omega);rw[uU]at h;refine⟨_,_,h,⟨⟨rfl,a,b⟩,λi x d=>⟨w.heap.size,0,rfl,?_⟩⟩,⟨?_,?_,?_,?_,λk g=>Lib.bytesWorld_at_old w _ _ k g⟩,?_,λj o=>?_⟩
 .have m:=(List.getElem?_eq_some_iff.1 d).1;rw[Nat.zero_add,Lib.bytesWorld_cell w 5 (sB l) i (by rw[uU];exact m),zq];have:=byte_back (n x (List.mem_of_getElem? d));simp only[List.getD,List.getElem?_map,d,Option.map_some,Option.getD_some];rw[this]
 .rfl
 .rfl
 .rfl
 .rw[Lib.bytesWorld_size];omega
 .rw[Lib.bytesWorld_size];omega
 .have p:l.length<=(Lib.bytesCells w 5 (sB l)).size:=by
   rw[Lib.bytesCells,Array.size_append,Array.size_map];have:(sB l).data.size=l.length:=uU l;omega
  simp[World.frozen?,Lib.bytesWorld_at_new];omega
theorem aO6(a b c d:Int)(w:World):cE' 280 #[.agg #[.int .i64 a,.int .i64 b,.int .i64 c,.int .i64 d]] w (.int .i64 b):=by
 go_enter func280,ntmps280;go_wp2;go_ret;exact⟨rfl,(Ext.refl w).aB _⟩
theorem OG(T:aj)(c:Int)(w:World)(ht:aW w t T)(a:gU T):
 cE' 238 #[t.v,.int .i64 c] w (.int .i64 (gI T c)):=by
 have b:=ht.dn.ext ((Ext.refl w).aB (.cells t.v.cells 26));go_enter func238,ntmps238;go_wp2_with(go_at_call 221;refine(Ib 280 qF T.dn _ _ _ _ _ b a.dn.1 a.dn.2 Tryz.call280 (λ_=>aO6 _ _ _ _ _)).mono ?_;rintro e f⟨rfl,d⟩);go_ret;exact⟨rfl,((Ext.refl w).aB _).trans' d⟩
theorem aOB{T:aj}(h:dU T=true):oZ T.dn:=by
 simp only[dU,cols,qL,aT]at h;exact⟨h.1.1.2.2.2.1.1,h.1.1.2.2.2.1.2⟩
theorem wO{T:aj}{c:Int}(d:0<=c)(f:c<=127):gI T c=qF c:=by
 have a:aY c=true:=by simp only[aY,aT,oT',au];omega
 have b:fF c=true:=by simp only[fF,oT',aT,au];exact .inl (.inl (.inl ⟨d,f⟩))
 rw[gI,nU,nN' (by rw[a];simp),pP' b]
theorem aO7{T:aj}(a:oZ T.dn){c:Int}(g:c<0\/127<c):gI T c=dV T.dn c:=by
 rw[gI,nU];by_cases b:aY c=false
 .rw[pP' b,a.zero (.inr b)]
 .rw[nN' b];by_cases d:fF c=true
  .rw[pP' d,a.zero (.inl d),qF];have f:=d;simp only[fF,rZ,oT',aT,au]at f;simp only[aY,aF',oF',aA]at b
   repeat' split
   all_goals first|rfl|(exfalso;omega)|skip
  .rw[nN' d]
theorem OE(T:aj)(c:Int)(w:World)(ht:aW w t T)(C:oZ T.dn):
 cE' 198 #[t.v,.int .i64 c] w (.int .i64 (gI T c)):=by
 have E:=ht.dn.ext ((Ext.refl w).aB (.cells t.v.cells 26));have f:=ah E;have D:=ah C;have b:=dG w t;clear ht E C;by_cases r:0<=c/\c<=32
 ·
  obtain⟨z,A⟩:=r;have g:decide (97<=c)=false:=dF';have h:decide (c<=122)=true:=dT';have i:decide (65<=c)=false:=dF';have j:decide (c<=90)=true:=dT';have k:decide (48<=c)=false:=dF';have l:decide (c<=57)=true:=dT';have m:decide (0<=c)=true:=dT';have n:decide (c<=32)=true:=dT';have o:decide (32<c)=false:=dF';have p:decide (c<127)=true:=dT';have q:(c==127)=false:=bF';have s:(c==45)=false:=bF';have x:(c==46)=false:=bF'
  have d:Hid (gI T c=11):=ah (by
   rw[wO (by omega) (by omega),qF]
   repeat' split
   all_goals first|rfl|(exfalso;omega))
  go_enter func198,ntmps198
  go_wp2_with(first
   |(go_at_call 136;refine(jK _ _ _ T.dn _ _ f.out).mono ?_;rintro e y⟨rfl,a⟩))
  go_ret;exact⟨aV d.out.symm,b⟩
 by_cases r:33<=c/\c<=44
 ·
  obtain⟨z,A⟩:=r;have g:decide (97<=c)=false:=dF';have h:decide (c<=122)=true:=dT';have i:decide (65<=c)=false:=dF';have j:decide (c<=90)=true:=dT';have k:decide (48<=c)=false:=dF';have l:decide (c<=57)=true:=dT';have m:decide (0<=c)=true:=dT';have n:decide (c<=32)=false:=dF';have o:decide (32<c)=true:=dT';have p:decide (c<127)=true:=dT';have q:(c==127)=false:=bF';have s:(c==45)=false:=bF';have x:(c==46)=false:=bF'
  have d:Hid (gI T c=8):=ah (by
   rw[wO (by omega) (by omega),qF]
   repeat' split
   all_goals first|rfl|(exfalso;omega))
  go_enter func198,ntmps198
  go_wp2_with(first
   |(go_at_call 136;refine(jK _ _ _ T.dn _ _ f.out).mono ?_;rintro e y⟨rfl,a⟩))
  go_ret;exact⟨aV d.out.symm,b⟩
 by_cases r:45<=c/\c<=45
 ·
  obtain⟨z,A⟩:=r;have g:decide (97<=c)=false:=dF';have h:decide (c<=122)=true:=dT';have i:decide (65<=c)=false:=dF';have j:decide (c<=90)=true:=dT';have k:decide (48<=c)=false:=dF';have l:decide (c<=57)=true:=dT';have m:decide (0<=c)=true:=dT';have n:decide (c<=32)=false:=dF';have o:decide (32<c)=true:=dT';have p:decide (c<127)=true:=dT';have q:(c==127)=false:=bF';have s:(c==45)=true:=by rw[bq'];omega
  have x:(c==46)=false:=bF'
  have d:Hid (gI T c=5):=ah (by
   rw[wO (by omega) (by omega),qF]
   repeat' split
   all_goals first|rfl|(exfalso;omega))
  go_enter func198,ntmps198
  go_wp2_with(first
   |(go_at_call 136;refine(jK _ _ _ T.dn _ _ f.out).mono ?_;rintro e y⟨rfl,a⟩))
  go_ret;exact⟨aV d.out.symm,b⟩
 by_cases r:46<=c/\c<=46
 ·
  obtain⟨z,A⟩:=r;have g:decide (97<=c)=false:=dF';have h:decide (c<=122)=true:=dT';have i:decide (65<=c)=false:=dF';have j:decide (c<=90)=true:=dT';have k:decide (48<=c)=false:=dF';have l:decide (c<=57)=true:=dT';have m:decide (0<=c)=true:=dT';have n:decide (c<=32)=false:=dF';have o:decide (32<c)=true:=dT';have p:decide (c<127)=true:=dT';have q:(c==127)=false:=bF';have s:(c==45)=false:=bF';have x:(c==46)=true:=by rw[bq'];omega
  have d:Hid (gI T c=6):=ah (by
   rw[wO (by omega) (by omega),qF]
   repeat' split
   all_goals first|rfl|(exfalso;omega))
  go_enter func198,ntmps198
  go_wp2_with(first
   |(go_at_call 136;refine(jK _ _ _ T.dn _ _ f.out).mono ?_;rintro e y⟨rfl,a⟩))
  go_ret;exact⟨aV d.out.symm,b⟩
 by_cases r:47<=c/\c<=47
 ·
  obtain⟨z,A⟩:=r;have g:decide (97<=c)=false:=dF';have h:decide (c<=122)=true:=dT';have i:decide (65<=c)=false:=dF';have j:decide (c<=90)=true:=dT';have k:decide (48<=c)=false:=dF';have l:decide (c<=57)=true:=dT';have m:decide (0<=c)=true:=dT';have n:decide (c<=32)=false:=dF';have o:decide (32<c)=true:=dT';have p:decide (c<127)=true:=dT';have q:(c==127)=false:=bF';have s:(c==45)=false:=bF';have x:(c==46)=false:=bF'
  have d:Hid (gI T c=8):=ah (by
   rw[wO (by omega) (by omega),qF]
   repeat' split
   all_goals first|rfl|(exfalso;omega))
  go_enter func198,ntmps198
  go_wp2_with(first
   |(go_at_call 136;refine(jK _ _ _ T.dn _ _ f.out).mono ?_;rintro e y⟨rfl,a⟩))
  go_ret;exact⟨aV d.out.symm,b⟩
 by_cases r:48<=c/\c<=57
 ·
  obtain⟨z,A⟩:=r;have g:decide (97<=c)=false:=dF';have h:decide (c<=122)=true:=dT';have i:decide (65<=c)=false:=dF';have j:decide (c<=90)=true:=dT';have k:decide (48<=c)=true:=dT';have l:decide (c<=57)=true:=dT';have m:decide (0<=c)=true:=dT';have n:decide (c<=32)=false:=dF';have o:decide (32<c)=true:=dT';have p:decide (c<127)=true:=dT';have q:(c==127)=false:=bF';have s:(c==45)=false:=bF';have x:(c==46)=false:=bF'
  have d:Hid (gI T c=4):=ah (by
   rw[wO (by omega) (by omega),qF]
   repeat' split
   all_goals first|rfl|(exfalso;omega))
  go_enter func198,ntmps198
  go_wp2_with(first
   |(go_at_call 136;refine(jK _ _ _ T.dn _ _ f.out).mono ?_;rintro e y⟨rfl,a⟩))
  go_ret;exact⟨aV d.out.symm,b⟩
 by_cases r:58<=c/\c<=64
 ·
  obtain⟨z,A⟩:=r;have g:decide (97<=c)=false:=dF';have h:decide (c<=122)=true:=dT';have i:decide (65<=c)=false:=dF';have j:decide (c<=90)=true:=dT';have k:decide (48<=c)=true:=dT';have l:decide (c<=57)=false:=dF';have m:decide (0<=c)=true:=dT';have n:decide (c<=32)=false:=dF';have o:decide (32<c)=true:=dT';have p:decide (c<127)=true:=dT';have q:(c==127)=false:=bF';have s:(c==45)=false:=bF';have x:(c==46)=false:=bF'
  have d:Hid (gI T c=8):=ah (by
   rw[wO (by omega) (by omega),qF]
   repeat' split
   all_goals first|rfl|(exfalso;omega))
  go_enter func198,ntmps198
  go_wp2_with(first
   |(go_at_call 136;refine(jK _ _ _ T.dn _ _ f.out).mono ?_;rintro e y⟨rfl,a⟩))
  go_ret;exact⟨aV d.out.symm,b⟩
 by_cases r:65<=c/\c<=90
 ·
  obtain⟨z,A⟩:=r;have g:decide (97<=c)=false:=dF';have h:decide (c<=122)=true:=dT';have i:decide (65<=c)=true:=dT';have j:decide (c<=90)=true:=dT';have k:decide (48<=c)=true:=dT';have l:decide (c<=57)=false:=dF';have m:decide (0<=c)=true:=dT';have n:decide (c<=32)=false:=dF';have o:decide (32<c)=true:=dT';have p:decide (c<127)=true:=dT';have q:(c==127)=false:=bF';have s:(c==45)=false:=bF';have x:(c==46)=false:=bF'
  have d:Hid (gI T c=0):=ah (by
   rw[wO (by omega) (by omega),qF]
   repeat' split
   all_goals first|rfl|(exfalso;omega))
  go_enter func198,ntmps198
  go_wp2_with(first
   |(go_at_call 136;refine(jK _ _ _ T.dn _ _ f.out).mono ?_;rintro e y⟨rfl,a⟩))
  go_ret;exact⟨aV d.out.symm,b⟩
 by_cases r:91<=c/\c<=96
 ·
  obtain⟨z,A⟩:=r;have g:decide (97<=c)=false:=dF';have h:decide (c<=122)=true:=dT';have i:decide (65<=c)=true:=dT';have j:decide (c<=90)=false:=dF';have k:decide (48<=c)=true:=dT';have l:decide (c<=57)=false:=dF';have m:decide (0<=c)=true:=dT';have n:decide (c<=32)=false:=dF';have o:decide (32<c)=true:=dT';have p:decide (c<127)=true:=dT';have q:(c==127)=false:=bF';have s:(c==45)=false:=bF';have x:(c==46)=false:=bF'
  have d:Hid (gI T c=8):=ah (by
   rw[wO (by omega) (by omega),qF]
   repeat' split
   all_goals first|rfl|(exfalso;omega))
  go_enter func198,ntmps198
  go_wp2_with(first
   |(go_at_call 136;refine(jK _ _ _ T.dn _ _ f.out).mono ?_;rintro e y⟨rfl,a⟩))
  go_ret;exact⟨aV d.out.symm,b⟩
 by_cases r:97<=c/\c<=122
 ·
  obtain⟨z,A⟩:=r;have g:decide (97<=c)=true:=dT';have h:decide (c<=122)=true:=dT';have i:decide (65<=c)=true:=dT';have j:decide (c<=90)=false:=dF';have k:decide (48<=c)=true:=dT';have l:decide (c<=57)=false:=dF';have m:decide (0<=c)=true:=dT';have n:decide (c<=32)=false:=dF';have o:decide (32<c)=true:=dT';have p:decide (c<127)=true:=dT';have q:(c==127)=false:=bF';have s:(c==45)=false:=bF';have x:(c==46)=false:=bF'
  have d:Hid (gI T c=0):=ah (by
   rw[wO (by omega) (by omega),qF]
   repeat' split
   all_goals first|rfl|(exfalso;omega))
  go_enter func198,ntmps198
  go_wp2_with(first
   |(go_at_call 136;refine(jK _ _ _ T.dn _ _ f.out).mono ?_;rintro e y⟨rfl,a⟩))
  go_ret;exact⟨aV d.out.symm,b⟩
 by_cases r:123<=c/\c<=126
 ·
  obtain⟨z,A⟩:=r;have g:decide (97<=c)=true:=dT';have h:decide (c<=122)=false:=dF';have i:decide (65<=c)=true:=dT';have j:decide (c<=90)=false:=dF';have k:decide (48<=c)=true:=dT';have l:decide (c<=57)=false:=dF';have m:decide (0<=c)=true:=dT';have n:decide (c<=32)=false:=dF';have o:decide (32<c)=true:=dT';have p:decide (c<127)=true:=dT';have q:(c==127)=false:=bF';have s:(c==45)=false:=bF';have x:(c==46)=false:=bF'
  have d:Hid (gI T c=8):=ah (by
   rw[wO (by omega) (by omega),qF]
   repeat' split
   all_goals first|rfl|(exfalso;omega))
  go_enter func198,ntmps198
  go_wp2_with(first
   |(go_at_call 136;refine(jK _ _ _ T.dn _ _ f.out).mono ?_;rintro e y⟨rfl,a⟩))
  go_ret;exact⟨aV d.out.symm,b⟩
 by_cases r:127<=c/\c<=127
 ·
  obtain⟨z,A⟩:=r;have g:decide (97<=c)=true:=dT';have h:decide (c<=122)=false:=dF';have i:decide (65<=c)=true:=dT';have j:decide (c<=90)=false:=dF';have k:decide (48<=c)=true:=dT';have l:decide (c<=57)=false:=dF';have m:decide (0<=c)=true:=dT';have n:decide (c<=32)=false:=dF';have o:decide (32<c)=true:=dT';have p:decide (c<127)=false:=dF';have q:(c==127)=true:=by rw[bq'];omega
  have s:(c==45)=false:=bF';have x:(c==46)=false:=bF'
  have d:Hid (gI T c=11):=ah (by
   rw[wO (by omega) (by omega),qF]
   repeat' split
   all_goals first|rfl|(exfalso;omega))
  go_enter func198,ntmps198
  go_wp2_with(first
   |(go_at_call 136;refine(jK _ _ _ T.dn _ _ f.out).mono ?_;rintro e y⟨rfl,a⟩))
  go_ret;exact⟨aV d.out.symm,b⟩
 have B:c<0\/127<c:=by omega
 have d:Hid (gI T c=dV T.dn c):=ah (aO7 D.out B);rcases B with B|B
 ·
  have g:decide (97<=c)=false:=dF';have h:decide (c<=122)=true:=dT';have i:decide (65<=c)=false:=dF';have j:decide (c<=90)=true:=dT';have k:decide (48<=c)=false:=dF';have l:decide (c<=57)=true:=dT';have m:decide (0<=c)=false:=dF';have n:decide (c<=32)=true:=dT';have o:decide (32<c)=false:=dF';have p:decide (c<127)=true:=dT';have q:(c==127)=false:=bF';have s:(c==45)=false:=bF';have x:(c==46)=false:=bF';clear B;go_enter func198,ntmps198
  go_wp2_with(first
   |(go_at_call 136;refine(jK _ _ _ T.dn _ _ f.out).mono ?_;rintro e y⟨rfl,a⟩))
  go_ret;exact⟨aV d.out.symm,b.trans' a⟩
 ·
  have g:decide (97<=c)=true:=dT';have h:decide (c<=122)=false:=dF';have i:decide (65<=c)=true:=dT';have j:decide (c<=90)=false:=dF';have k:decide (48<=c)=true:=dT';have l:decide (c<=57)=false:=dF';have m:decide (0<=c)=true:=dT';have n:decide (c<=32)=false:=dF';have o:decide (32<c)=true:=dT';have p:decide (c<127)=false:=dF';have q:(c==127)=false:=bF';have s:(c==45)=false:=bF';have x:(c==46)=false:=bF';clear B;go_enter func198,ntmps198
  go_wp2_with(first
   |(go_at_call 136;refine(jK _ _ _ T.dn _ _ f.out).mono ?_;rintro e y⟨rfl,a⟩))
  go_ret;exact⟨aV d.out.symm,b.trans' a⟩
def dY(ks B:List Int):Bool:=B.any λx=>ks.any λy=>y==x
def lastB(B:List Int):Int:=B.foldl (λk x=>if x=10 then k else x) (-1)
def dD(T:aj)(l:List Int):List Int:=l.map (gI T)
def nZ(B:List Int):List Int:=if lastB B= -1 then[]else[lastB B]
def OT(b1 b2 b3 b4 b5 b6 b7 b8:Bool):Int:=if b1 then(if b2 then 2 else if !b3 then 3 else if b4&&b5 then 4 else 0)else if b6 then(if b7 then 5 else if !b8 then 6 else 0)else 1
def wP(B:List Int):Int:=match B with
 |[]=>0
 |f::r=>OT (dY [1,2] [f]) (dY [0,11] (f::r)) (dY [1,2,3,4] (nZ (f::r))) (dY [4] (f::r)) (dY [3] (f::r)) (dY [0] [f]) (dY [1,2,3,11] (f::r)) (dY [0,4] (nZ (f::r)))
def jU(B:List Int):Nat:=B.foldl (λs b=>s ||| 2 ^ b.toNat) 0
def InB(B:List Int):Prop:=∀x∈B,0<=x/\x<=11
theorem InB.snoc{B:List Int}{x:Int}(h:InB (B++[x])):InB B/\0<=x/\x<=11:=⟨λy a=>h y (by simp[a]),h x (by simp)⟩
theorem OJ(B:List Int)(x:Int):jU (B++[x])=jU B ||| 2 ^ x.toNat:=by
 unfold jU;rw[List.foldl_append];rfl
theorem aQ3(ks B:List Int)(x:Int):dY ks (B++[x])=(dY ks B||ks.any λy=>y==x):=by
 unfold dY;rw[List.any_append];simp
theorem OL{p:List Int->Prop}(c:p [])(d:∀B x,p B->p (B++[x])):∀B,p B:=by
 intro B;have a:∀R:List Int,p R.reverse:=by
  intro R
  induction R with
  |nil=>exact c
  |cons x R ih=>
   rw[List.reverse_cons];exact d _ _ ih
 have b:=a B.reverse;rwa[List.reverse_reverse]at b
theorem OM:∀(B:List Int),InB B->jU B<4096:=by
 refine OL (λ_=>by decide) (λB x a h=>?_);obtain⟨b,c,d⟩:=h.snoc;rw[OJ];exact Nat.or_lt_two_pow (n:=12) (a b) (Nat.pow_lt_pow_right (by decide) (by omega))
theorem J7(i:Nat):∀(B:List Int),InB B->(jU B).testBit i=B.any λx=>x==(i:Int):=by
 refine OL (λ_=>by simp[jU]) (λB x a h=>?_);obtain⟨b,c,d⟩:=h.snoc;rw[OJ,Nat.testBit_or,a b,List.any_append,Nat.testBit_two_pow];congr 1;simp only[List.any_cons,List.any_nil,Bool.or_false];rw[Bool.eq_iff_iff,au,bq'];omega
theorem aPm(ks B:List Int)(m:InB ks)(g:InB B):(jU B &&& jU ks != 0)=dY ks B:=by
 rw[Bool.eq_iff_iff,bne_iff_ne];constructor
 .intro h;rcases Bool.eq_false_or_eq_true (dY ks B)with b|b
  .exact b
  .exfalso;apply h;apply Nat.eq_of_testBit_eq;intro i;rw[Nat.testBit_and,J7 i B g,J7 i ks m,Nat.zero_testBit,aF'];by_cases a:(B.any λx=>x==(i:Int))=true
   .right;rw[List.any_eq_true]at a;obtain⟨x,f,c⟩:=a;rw[bq']at c;subst c;unfold dY at b;rw[List.any_eq_false]at b;have:=b _ f;rw[List.any_eq_false];intro z n d;rw[bq']at d;subst d;exact this (List.any_eq_true.2 ⟨_,n,by simp⟩)
   .left;exact Bool.eq_false_iff.2 a
 .intro h o;unfold dY at h;rw[List.any_eq_true]at h;obtain⟨x,a,j⟩:=h;rw[List.any_eq_true]at j;obtain⟨y,p,k⟩:=j;rw[bq']at k;subst k;have q:=g _ a;have l:(jU B &&& jU ks).testBit y.toNat=true:=by
   rw[Nat.testBit_and,J7 _ B g,J7 _ ks m,aT,List.any_eq_true,List.any_eq_true];exact⟨⟨y,a,by rw[bq'];omega⟩,⟨y,p,by rw[bq'];omega⟩⟩
  rw[o,Nat.zero_testBit]at l;cases l
theorem J8(a:Nat)(b:a<4096):(BitVec.ofInt 64 (a:Int)).toNat=a:=by
 rw[BitVec.ofInt_natCast,BitVec.toNat_ofNat];exact Nat.mod_eq_of_lt (by omega)
theorem aQ1(a b:Nat)(d:a<4096)(c:b<4096):bits .and .i64 (a:Int) (b:Int)=((a &&& b:Nat):Int):=by
 have f:a &&& b<2 ^ 12:=Nat.and_lt_two_pow _ c;show IntKind.i64.wrap ((BitVec.ofInt 64 (a:Int) &&& BitVec.ofInt 64 (b:Int)).toNat:Int)=_
 rw[BitVec.toNat_and,J8 a d,J8 b c,IntKind.wrap_i64];omega
theorem aQ6(a b:Nat)(c:a<4096)(d:b<4096):bits .or .i64 (a:Int) (b:Int)=((a ||| b:Nat):Int):=by
 have f:a ||| b<2 ^ 12:=Nat.or_lt_two_pow c d;show IntKind.i64.wrap ((BitVec.ofInt 64 (a:Int) ||| BitVec.ofInt 64 (b:Int)).toNat:Int)=_
 rw[BitVec.toNat_or,J8 a c,J8 b d,IntKind.wrap_i64];omega
theorem zL(ks B:List Int)(a:InB ks)(b:InB B)(m:Int)(c:m=(jU ks:Nat)):(bits .and .i64 ((jU B:Nat):Int) m != 0)=dY ks B:=by
 subst c;rw[aQ1 _ _ (OM B b) (OM ks a),<- aPm ks B a b,Bool.eq_iff_iff,bne_iff_ne,bne_iff_ne];omega
theorem aPu:∀n:Fin 64,n.val<=11->wrap64 (2 ^ n.val)=((2 ^ n.val:Nat):Int):=by decide+kernel
theorem aQ7{k:Int}(a:0<=k)(b:k<=11):wrap64 (2 ^ k.toNat)=((2 ^ k.toNat:Nat):Int):=aPu ⟨k.toNat,by omega⟩ (by simp only;omega)
theorem XM{a b:Int}:∀{l:List Sp},valuesL a b l=true->a<=0->0<=b->∀c,a<=dV l c/\dV l c<=b
 |[],_,h0,h1,c=>⟨h0,h1⟩
 |s::r,h,h0,h1,c=>by
  simp only[valuesL,aT,Bool.not_eq_true',oF',aA]at h;rw[dV];by_cases d:s.lo<=c/\c<=s.hi
  .rw[pP' d];omega
  .rw[nN' d];exact XM h.2 h0 h1 c
theorem Ja{T:aj}(h:dw T=true)(c:Int):0<=gI T c/\gI T c<=11:=by
 simp only[dw,aT]at h;have a:valuesB T=true:=by simp only[h]
 simp only[valuesB,cols,oM,aT]at a;have b:=XM a.2.2.2.1 (by omega) (by omega) c;unfold gI nU;split
 .omega
 .split
  .unfold qF
   repeat' split
   all_goals omega
  .exact b
theorem OQ{T:aj}(h:dw T=true)(l:List Int):InB (dD T l):=by
 intro x a;unfold dD at a;rw[List.mem_map]at a;obtain⟨c,_,rfl⟩:=a;exact Ja h c
theorem J9(k:Nat)(a:k<l.length):dD T (l.take (k+1))=dD T (l.take k)++[gI T l[k]]:=by
 unfold dD;rw[tS' a,List.map_append];rfl
theorem OO(B:List Int)(x:Int):lastB (B++[x])=if x=10 then lastB B else x:=by
 unfold lastB;rw[List.foldl_append];rfl
theorem aPw:∀B,InB B-> -1<=lastB B/\lastB B<=11/\lastB B≠10:=by
 refine OL (λ_=>by decide) (λB x a h=>?_);obtain⟨b,c,d⟩:=h.snoc;rw[OO];split
 .exact a b
 .omega
theorem XP{B:List Int}(h:InB B):InB (nZ B):=by
 have:=aPw B h;unfold nZ;split
 .intro x a;cases a
 .intro x a;rw[List.mem_singleton]at a;subst a;omega
theorem Jb(k:Int)(b:0<=k)(c:k<=11)(w:World):cW' 237 #[.int .i64 k] w (.int .i64 ((2 ^ k.toNat:Nat):Int)):=by
 have a:=ah (aQ7 b c);have d:k<=64:=by omega
 go_enter func237,ntmps237;go_wp2;go_ret;exact⟨aV a.out,rfl⟩
theorem aQ2(a b:Int)(w:World):cW' 236 #[.int .i64 a,.int .i64 b] w (.bool (bits .and .i64 a b != 0)):=by
 go_enter func236,ntmps236;go_wp2;go_ret;exact⟨rfl,rfl⟩
def aQ0(T:aj)(w0:World)(l:List Int)(gh:Nat)(s5 s10:Value)(wx:World):Prop:=
 ∃(k:Nat),k+gh=l.length/\s10=.int .i64 k/\s5=.int .i64 ((jU (dD T (l.take k)):Nat):Int)/\Hid (Ext w0 wx)
theorem XO(ht:aW w t T)(I:aF w ⟨A,n,c⟩ l)(p:dw T=true)(M:l.length<=4096):
 cE' 235 #[t.v,.slice A n c] w (.int .i64 ((jU (dD T l):Nat):Int)):=by
 have a:=dG w t;have r:=ah a;have N:=ah (ht.aC a);have O:=ah (I.ext a);have P:=ah (ou p);have Q:=ah λl=>OQ p l
 have s:=ah λc=>Ja p c
 have R:=I.len.1;subst R;have S:=ah M;clear ht I a M p;go_enter func235,ntmps235;go_wp2;go_loopg[5,10] l.length (λU V z W=>aQ0 T (tW' w t) l U V z W);exact⟨0,by omega,rfl,rfl,ah eR'⟩;obtain⟨k,X,rfl,rfl,f⟩:=hrel;have g:=r.out.trans' f.out;have J:=bT' t f.out;have Y:l.length<=4096:=S.out;by_cases h:k<l.length
 .obtain⟨B,rfl⟩:=gS' gk;obtain⟨b,o,rfl,a0⟩:=(O.out.ext f.out).at_ h;have HK:=ah (J9 T l k h);generalize l[k]=x at*;have a2:=z0' k;have a3:(k:Int)<(l.length:Int):=by omega
  have i:=s.out x;have C:=ah (OM _ (Q.out (l.take k)));have j:2 ^ (gI T x).toNat<4096:=Nat.pow_lt_pow_right (n:=12) (by decide) (by omega)
  have K:Hid (∀y:Int,y=gI T x->bits .or .i64 ((jU (dD T (l.take k)):Nat):Int) ((2 ^ y.toNat:Nat):Int)=((jU (dD T (l.take (k+1))):Nat):Int)):=ah (by
   rintro y rfl
   rw[aQ6 _ _ C.out j,HK.out,OJ])
  clear j g;go_wp2_with fail;refine(OG t T x wr (N.out.aC f.out) P.out).mono ?_;rintro e w3⟨rfl,m⟩;have D:=ah (f.out.trans' m);clear m J;obtain⟨q,E⟩:=eX' (gI T x);have ho:=K.out q E;rw[<- E]at i |-;clear E K;obtain⟨F,G⟩:=i;generalize jU (dD T (l.take k))=S1 at*;obtain⟨L,d⟩:∃L:Nat,L=jU (dD T (l.take (k+1))):=⟨_,rfl⟩;have H:=ah d;rw[<- d]at ho;clear d;go_wp2_with fail;refine(Jb q F G w3).mono ?_;rintro e w4⟨rfl,rfl⟩;generalize((2 ^ q.toNat:Nat):Int)=P2 at*;go_wp2;go_roundg B;exact⟨k+1,by omega,by go_num,by rw[<- H.out],D⟩;omega
 .have HE:Hid (l.take k=l):=ah (tL' (by omega));clear J;go_wp2;go_ret;exact⟨by rw[HE.out];rfl,g⟩
def aRF(T:aj)(w0:World)(l:List Int)(gh:Nat)(s5:Value)(wx:World):Prop:=
 gh<=l.length/\s5=.int .i64 ((gh:Int)-1)/\Hid (Ext w0 wx)/\Hid (lastB (dD T l)=lastB (dD T (l.take gh)))
theorem XQ(x:Int):jU [x]=2 ^ x.toNat:=by
 unfold jU;simp
theorem aQA(ht:aW w t T)(M:aF w ⟨A,n,c⟩ l)(N:dw T=true)(R:l.length<=4096):
 cE' 239 #[t.v,.slice A n c] w (.int .i64 ((jU (nZ (dD T l)):Nat):Int)):=by
 have d:=dG w t;have g:=ah d;have S:=ah (ht.aC d);have U:=ah (M.ext d);have V:=ah (ou N);have z:=ah λc=>Ja N c
 have W:=M.len.1;subst W;have X:=ah R;clear ht M d R N;have Y:l.length<=4096:=X.out;go_enter func239,ntmps239;go_wp2;go_loopg[5] l.length (λZ s5 wx=>aRF T (tW' w t) l Z s5 wx);exact⟨lr' _,rfl,ah eR',ah (by rw[List.take_length])⟩;obtain⟨a2,rfl,i,B⟩:=hrel;have j:=g.out.trans' i.out;cases gk with
 |zero=>
  have C:Hid (jU (nZ (dD T l))=0):=ah (by rw[nZ,B.out];rfl);go_wp2;go_ret;exact⟨by rw[C.out];rfl,j⟩
 |succ k=>
  have m:k<l.length:=by omega
  have e0:((k+1:Nat):Int)-1=(k:Int):=by omega
  rw[e0];obtain⟨b,o,rfl,p⟩:=(U.out.ext i.out).at_ m;have D:Hid (lastB (dD T (l.take (k+1)))=if gI T l[k]=10 then lastB (dD T (l.take k))else gI T l[k]):=ah (by rw[J9 T l k m,OO]);generalize l[k]=x at*;have E:=z0' k;have a4:(k:Int)<(l.length:Int):=by omega
  have a5:decide ((0:Int)<=(k:Int))=true:=dt' E;have r:=z.out x;have rT:=λF:ak wr=>bT' t (i.out.trans' F.h)
  have rX:∀F:ak wr,F.w.cell? ⟨b,o+k,none⟩=some (.int .i64 x):=dA p;have G:Hid (∀w',Ext wr w'->cE' 238 #[t.v,.int .i64 x] w' (.int .i64 (gI T x))):=ah (λw' h=>OG t T x w' (S.out.aC (i.out.trans' h)) V.out);obtain⟨q,O⟩:=eY' (gI T x);rw[O]at G D r;clear O;obtain⟨I,J⟩:=r;go_wp2_with fail;refine rX' ?_
  repeat(go_big_quiet_step((go_at_call 238;with_reducible exact aS (G.out _ (ak.h _)))))
  refine wpQuiet_nil ?_;rintro _⟨P,rfl⟩;clear rT rX p G;obtain⟨y,f⟩:=eX' P.w;have s:Hid (Ext _ y):=ah (by rw[f];exact i.out.trans' P.h);rw[<- f];clear f j;have K:=g.out.trans' s.out;by_cases a:q=10
  .have e1:(q != 10)=false:=by rw[a];rfl
   have L:=ah (B.out.trans (D.out.trans (pP' a)));clear a;go_wp2;go_roundg k;exact⟨by omega,by go_num,s,L⟩;omega
  .have e1:(q != 10)=true:=bN' a
   have C:Hid (jU (nZ (dD T l))=2 ^ q.toNat):=ah (by
    have h1:=B.out.trans (D.out.trans (nN' a))
    rw[nZ,h1,nN' (by omega),XQ])
   clear a;go_wp2_with fail;refine(Jb q I J y).mono ?_;rintro e w5⟨rfl,rfl⟩;generalize Q:((2 ^ q.toNat:Nat):Int)=P2 at*;have HP:=ah Q;clear Q;go_wp2;go_ret;exact⟨by rw[C.out,HP.out];rfl,K⟩
end Go.Proofs.YtlmkgaoakcjlnaaGreatDoor
