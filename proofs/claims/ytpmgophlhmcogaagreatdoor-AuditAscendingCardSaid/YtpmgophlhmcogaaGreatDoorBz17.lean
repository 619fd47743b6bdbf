/- Part Bz17. -/
import Derived.Test.YtpmgophlhmcogaaGreatDoorBz16
open Go.Proofs.Tryz
namespace Go.Proofs.YtpmgophlhmcogaaGreatDoor
set_option maxHeartbeats 25600000
set_option maxRecDepth 100000
open Go.RowKit
def gI(c:Int)(l:List Int):Nat->Int
 |0=> -1
 |k+1=>if l.getD k 0=c then k else gI c l k
theorem FZ(c:Int)(l:List Int):∀k,-1<=gI c l k/\gI c l k<k
 |0=>by unfold gI;omega
 |k+1=>by
  have:=FZ c l k;unfold gI;split<;>omega
def P5(l:List Int)(c:Int)(w:World)(g:Nat)(s5:Value)(wx:World):Prop:=
 s5=.int .i64 ((g:Int)-1)/\g<=l.length/\wx=w/\Hid (gI c l l.length=gI c l g)
theorem OY(l:List Int)(h:IsB l)(r:l.length<=1099511627776)(c:Int)(w:World):cW' 316 #[.string (sB l),.int .u8 c] w (.int .i64 (gI c l l.length)):=by
 have i:=ah h;clear h;go_enter func316,ntmps316;go_wp2;go_loopg[5] l.length (λj m n=>P5 l c w j m n);exact⟨rfl,lr' _,rfl,rfl⟩;obtain⟨rfl,p,rfl,f⟩:=hrel;rcases Nat.eq_zero_or_pos gk with g|g
 .subst g;have a:Hid (gI c l l.length= -1):=ah (by rw[f.out];rfl);go_wp2;go_ret;exact⟨bG a.out.symm,rfl⟩
 .obtain⟨k,rfl⟩:=gS' gk;have q:=ixc i.out (k:=k) (by omega) wr;rw[show((k+1:Nat):Int)-1=(k:Int)by omega];have b:Hid (gI c l (k+1)=if l.getD k 0=c then(k:Int)else gI c l k):=rfl;generalize l.getD k 0=y at*;by_cases d:y=c
  .have a:Hid (gI c l l.length=k):=ah (by rw[f.out,b.out,pP' d]);have o:(y==c)=true:=(by rw[bq'];exact d);clear d;go_wp2;go_ret;exact⟨bG a.out.symm,rfl⟩
  .have a:Hid (gI c l l.length=gI c l k):=ah (by rw[f.out,b.out,nN' d]);have o:(y==c)=false:=(by rw[aP];exact d);go_wp2;go_roundg k;exact⟨rfl,by omega,rfl,a⟩;omega
theorem P6(l:List Int)(b:IsB l)(d:l.length<=1099511627776)(c:Int)(w:World):cW' 284 #[.string (sB l),.int .u8 c] w (.int .i64 (gI c l l.length)):=by
 have a:=ah (OY l b d c w);generalize gI c l l.length=V at*;go_enter func284,ntmps284;go_wp2_with(refine a.out.mono ?_;rintro e w'⟨rfl,rfl⟩);go_ret;exact⟨rfl,rfl⟩
def fF(b:Int):Option Int:=if 97<=b/\b<=122 then some (b-97)else if 65<=b/\b<=90 then some (b-65)else if 48<=b/\b<=57 then some (b-22)else none
theorem P7{b d:Int}(h:fF b=some d):0<=d/\d<36:=by
 unfold fF at h
 repeat' split at h
 all_goals(first|(injection h with h;omega)|cases h)
def BG:Option Int->Value
 |some d=>.tuple #[.int .i64 d,.bool true]
 |none=>.tuple #[.int .i64 0,.bool false]
theorem OZ(b:Int)(h:0<=b/\b<256)(w:World):cW' 317 #[.int .u8 b] w (BG (fF b)):=by
 have a:Hid (fF b=if 97<=b/\b<=122 then some (b-97)else if 65<=b/\b<=90 then some (b-65)else if 48<=b/\b<=57 then some (b-22)else none):=rfl;generalize fF b=V at*;by_cases c:97<=b/\b<=122
 .rw[pP' c]at a;rw[a.out];go_enter func317,ntmps317;go_wp2
  all_goals(go_ret2;exact⟨rfl,rfl⟩)
 rw[nN' c]at a;by_cases d:65<=b/\b<=90
 .rw[pP' d]at a;rw[a.out];go_enter func317,ntmps317;go_wp2
  all_goals(go_ret2;exact⟨rfl,rfl⟩)
 rw[nN' d]at a;by_cases f:48<=b/\b<=57
 .rw[pP' f,show b-22=b-48+26 by omega]at a;rw[a.out];go_enter func317,ntmps317;go_wp2
  all_goals(go_ret2;exact⟨rfl,rfl⟩)
 .rw[nN' f]at a;rw[a.out];go_enter func317,ntmps317;go_wp2
  all_goals(first|omega|(go_ret2;exact⟨rfl,rfl⟩))
def Pj(s:List Int)(b:Int)(e:Ending):Prop:=
 (iq b (s.map fF) 0 0 1=none/\e=.returned (.tuple #[.int .i64 0,.string (sB []),.bool false]))\/
 ∃(v:Int)(m:Nat),iq b (s.map fF) 0 0 1=some (v,(s.drop m).map fF)/\0<m/\m<=s.length/\0<=v/\v<=2147483648/\e=.returned (.tuple #[.int .i64 v,.string (sB (s.drop m)),.bool true])
def Pg(s:List Int)(b:Int)(w:World)(g:Nat)(s7 s8 s9:Value)(wx:World):Prop:=
 ∃(j:Nat)(v x:Int),g+j=s.length/\s9=.int .i64 j/\s7=.int .i64 v/\s8=.int .i64 x/\0<=v/\v<=2147483648/\1<=x/\x<=2147483648/\wx=w/\Hid (iq b (s.map fF) 0 0 1=iq b ((s.drop j).map fF) j v x)
theorem G5{d x:Int}(b:0<=d)(c:d<=36)(a:0<=x)(f:x<=2147483648):0<=d*x/\d*x<=77309411328:=
 ⟨Int.mul_nonneg b a,Int.le_trans (Int.mul_le_mul_of_nonneg_right c a) (by omega)⟩
theorem Ph(s:List Int)(O:IsB s)(hm:s.length<=4096)(b:Int)(hb: -100000<=b/\b<=100000)(w:World):Calls prog 285 #[.string (sB s),.int .i64 b] w λe w'=>Pj s b e/\Ext w w':=by
 have J:=ah O;clear O;go_enter func285,ntmps285;go_wp2;go_loopg[7,8,9] s.length (λP Q R S T=>Pg s b w P Q R S T);exact⟨0,0,1,by omega,rfl,rfl,rfl,by omega,by omega,by omega,by omega,rfl,rfl⟩;obtain⟨j,v,x,hg,rfl,rfl,rfl,U,V,X,m,rfl,a⟩:=hrel;by_cases C:j<s.length
 .have hx:=ixc J.out C wr;have Y:=Bd J.out j;have n:Hid ((s.drop j).map fF=fF (s.getD j 0)::(s.drop (j+1)).map fF):=ah (by rw[drop_at s j C,List.map_cons,getD_lt s j 0 C]);have B:=ah (OZ (s.getD j 0) Y wr);have D:(0:Int)<=(j:Int)/\(j:Int)<=4096:=by omega
  have ht:=xA j b;have K:=ah (λw=>EZ j b D hb w);have o:Hid (eU j b=eU j b):=rfl;cases c:fF (s.getD j 0)with
  |none=>
   rw[c]at n B;have E:Hid (iq b (s.map fF) 0 0 1=none):=ah (by rw[a.out,n.out];rfl);generalize s.getD j 0=y at*;clear K ht o;go_wp2_with fail;refine B.out.mono ?_;rintro e w'⟨rfl,rfl⟩;simp only[BG];go_wp2;go_ret3;exact⟨.inl ⟨E.out,rfl⟩,eR'⟩
  |some d=>
   rw[c]at n B;have F:=P7 c;have G:=G5 F.1 (by omega) (by omega) m;have L:Hid (iq b (some d::(s.drop (j+1)).map fF) j v x=if d<eU j b then some (min (v+d*x) oz,(s.drop (j+1)).map fF)else iq b ((s.drop (j+1)).map fF) (j+1) (min (v+d*x) oz) (min (x*(36-eU j b)) oz)):=rfl;rw[n.out,L.out]at a;have h:=yQ wr (l:=s) (k:=j+1) (by omega)
   push_cast at h
   generalize s.getD j 0=y at*;generalize eU j b=t at*;clear L n o;have r:=G5 (d:=36-t) (by omega) (by omega) (by omega) m;rw[Int.mul_comm]at r;obtain⟨p,Z⟩:=eY' (d*x);obtain⟨q,hq⟩:=eY' (x*(36-t));rw[Z]at G a;rw[hq]at r a;have f:0<=min (v+p) 2147483648/\min (v+p) 2147483648<=2147483648:=(by omega);obtain⟨u,M⟩:=eY' (min (v+p) 2147483648);have HU:Hid (min (v+p) oz=u):=ah M;rw[M]at f;rw[HU.out]at a;have i:1<=min q 2147483648/\min q 2147483648<=2147483648:=by
    have:x*1<=x*(36-t):=Int.mul_le_mul_of_nonneg_left (by omega) (by omega);omega
   obtain⟨z,A⟩:=eY' (min q 2147483648);have HQ:Hid (min q oz=z):=ah A;rw[A]at i;rw[HQ.out]at a;go_wp2_with fail;refine B.out.mono ?_;rintro e w'⟨rfl,rfl⟩;simp only[BG];go_wp2_with fail;refine(K.out _).mono ?_;rintro e w'⟨rfl,rfl⟩;by_cases g:d<t
   .rw[pP' g]at a;have H:decide (d<t)=true:=(by rw[aW];exact g);have N:∀W,(Instr.slice 9 (.string (sB s)) (some (.int .i64 ((j:Int)+1))) none none).run prog W=.ok (.string (sB (s.drop (j+1)))) W:=λW=>by
     have:=yQ W (l:=s) (k:=j+1) (by omega)
     push_cast at this
     exact this
    clear h;go_wp2_with fail;go_quiet (fail);go_wp2;go_ret3;exact⟨.inr ⟨u,j+1,a.out,by omega,by omega,f.1,f.2,rfl⟩,eR'.lS _⟩
   .rw[nN' g]at a;have H:decide (d<t)=false:=(by rw[bf];exact g);have I:Hid (iq b (s.map fF) 0 0 1=iq b ((s.drop (j+1)).map fF) ((j+1:Nat):Int) u z):=a;clear h;go_wp2;go_roundg (s.length-(j+1));exact⟨j+1,u,z,by omega,by go_num,rfl,rfl,f.1,f.2,i.1,i.2,rfl,I⟩;omega
 .have F:s.drop j=[]:=bV s j (by omega);have E:Hid (iq b (s.map fF) 0 0 1=none):=ah (by rw[a.out,F];rfl);go_wp2;go_ret3;exact⟨.inl ⟨E.out,rfl⟩,eR'⟩
def resD:Dec->List Int×Int
 | .ok l=>(l,0)
 | .vN=>([],12)
 | .over=>([],8)
def hyB(s:List Int):Nat:=(gI 45 s s.length).toNat
def oC(s:List Int):List Int:=if hyB s=0 then s else s.drop (hyB s+1)
def pdU(s:List Int):List Int×Int:=
 if 2048<s.length then([],7)else if(s.take (hyB s)).any (λb=>decide (128<=b))then([],12)
 else resD (decP (oC s).length ((oC s).map fF) (s.take (hyB s)) 128 0 72 true)
def zh(w:World)(d:List Int×Int)(e:Ending)(w':World):Prop:=∃A n c,e=.returned (.tuple #[.slice A n c,.int .i64 d.2])/\au w' ⟨A,n,c⟩ d.1/\Ext w w'
def Pn(w1:World)(bs:List Int)(g:Nat)(s4 s28:Value)(wx:World):Prop:=
 ∃(A:Option Addr)(c k:Nat),g+k=bs.length/\s28=.int .i64 k/\s4=.slice A k c/\aB wx w1.heap.size A k c (bs.take k)/\Ext w1 wx/\Hid ((bs.take k).any (λb=>decide (128<=b))=false)
def zf(w:World)(D:List Int×Int)(g:Nat)(s0 s4 s8 s9 s10 s11:Value)(wx:World):Prop:=
 ∃(A:Option Addr)(N c:Nat)(r o:List Int)(n i b:Int)(f:Bool),s0=.string (sB r)/\s4=.slice A N c/\s8=.bool f/\s9=.int .i64 n/\s10=.int .i64 i/\s11=.int .i64 b/\Hid (N=o.length)/\Hid (IsB r)/\r.length<=g/\N+r.length<=2048/\
  Hid (aB wx w.heap.size A N c o)/\Hid (Ext w wx)/\0<=n/\n<=1114111/\0<=i/\i<=N/\0<=b/\b<=2400/\Hid (D=resD (decP g (r.map fF) o n i b f))
theorem Po{w:World}{b f n c size:Nat}{e:TypeId}{A:Option Addr}{i:List Value}(h:Own w b e size A n c i)(o:f<=b):Own w f e size A n c i:=by
 refine⟨h.1,?_⟩;rcases h.2 with j|⟨g,a,d,k,l,m⟩
 .exact .inl j
 .exact .inr ⟨g,a,d,k,Nat.le_trans o l,m⟩
theorem G6{g:Nat}{a:List (Option Int)}{o:List Int}{n i b:Int}{f:Bool}(h:a≠[]):decP (g+1) a o n i b f=(match iq b a 0 0 1 with
 |none=>.vN
 |some (v,r)=>
  if 2147483647<v\/1114111<n+(v+i) / (o.length+1)then .over
  else if utfLen (n+(v+i) / (o.length+1))=0 then .vN
  else decP g r (kK o ((v+i) % (o.length+1)).toNat (n+(v+i) / (o.length+1))) (n+(v+i) / (o.length+1)) ((v+i) % (o.length+1)+1) (kZ v (o.length+1) f) false):=by
 cases a with
 |nil=>exact absurd rfl h
 |cons d a=>rfl
theorem Pm(s:List Int)(hs:IsB s)(w:World):Calls prog 233 #[.string (sB s)] w (zh w (pdU s)):=by
 have a:Hid (pdU s=if 2048<s.length then([],7)else if(s.take (hyB s)).any (λb=>decide (128<=b))then([],12)else resD (decP (oC s).length ((oC s).map fF) (s.take (hyB s)) 128 0 72 true)):=rfl;have HL:=ah hs;generalize pdU s=D at*;clear hs;by_cases h1:2048<s.length
 .rw[pP' h1]at a;go_enter func233,ntmps233;go_wp2;go_ret2;exact⟨none,0,0,by rw[a.out];rfl,by rw[a.out];exact au.nil_ w,eR'⟩
 rw[nN' h1]at a;have d:Hid (oC s=if hyB s=0 then s else s.drop (hyB s+1)):=rfl;have T:=ah (P6 s HL.out (by omega) 45 w);have bq:=FZ 45 s s.length;obtain⟨H,hH⟩:=eY' (hyB s);have U:H=(gI 45 s s.length).toNat:=by rw[<- hH];rfl
 rw[hH]at a d;generalize gI 45 s s.length=La at*;go_enter func233,ntmps233;go_wp2_with fail;refine T.out.mono ?_;rintro e w'⟨rfl,rfl⟩;clear T hH;by_cases V:H=0
 case' pos=>
  have X:decide (0<La)=false:=dF';rw[V,List.take_zero]at a;rw[pP' V]at d;rw[d.out]at a;have t:Hid (zf w D s.length (.string (sB s)) (.slice none 0 0) (.bool true) (.int .i64 128) (.int .i64 0) (.int .i64 72) w):=ah ⟨none,0,0,s,[],128,0,72,true,rfl,rfl,rfl,rfl,rfl,rfl,rfl,HL,lr' _,by omega,ah (Own.nil_ _ _ _ _),ah eR',by omega,by omega,by omega,by omega,by omega,by omega,a⟩;clear a d V U;go_wp2;go_loopg[0,4,8,9,10,11] s.length (λY s0 Z s8 s9 F G wx=>zf w D Y s0 Z s8 s9 F G wx)
  case atStart=>exact t.out
 case' neg=>
  obtain rfl:La=(H:Int):=by omega
  clear U;rw[nN' V]at d;have X:decide (0<(H:Int))=true:=dT';have aV:decide (0<H)=true:=dT';have b0:=Eu w (l:=s) (k:=H) (by omega);have ni:=ah (yN HL.out H);have b3:(s.take H).length=H:=by rw[List.length_take];omega
  obtain⟨cc,w1,b4,a1,I,_⟩:=yO (w:=w) ni.out (by omega);have bp:∀W,(Instr.slice 9 (.string (sB s)) (some (.int .i64 ((H:Int)+1))) none none).run prog W=.ok (.string (sB (s.drop (H+1)))) W:=λW=>by
   have:=yQ W (l:=s) (k:=H+1) (by omega)
   push_cast at this
   exact this
  have a2:Hid ((s.drop (H+1)).length=s.length-(H+1)):=ah (List.length_drop);have b5:=ah (wV HL.out (H+1));rw[d.out]at a;generalize s.drop (H+1)=r at*;generalize s.take H=bs at*;subst b3;have a3:=ah a1;have x:=ah I;go_wp2_with fail;clear b0 b4 a1 I X aV d V;go_loopg[4,28] bs.length (λY Z b6 wx=>Pn w1 bs Y Z b6 wx)
  case atStart=>exact⟨none,0,0,by omega,rfl,rfl,Own.nil_ _ _ _ _,eR',rfl⟩
  case' round=>
   obtain⟨A,c,k,hg,rfl,rfl,B,a4,HN⟩:=hrel;have C:=ah B;have z:=ah a4;clear B a4;by_cases hk:k<bs.length
   case pos=>
    obtain⟨b',o',hA,b8⟩:=(a3.out.ext z.out).at_ hk;injection hA with hA;injection hA with e1 e2;subst e1 e2;rw[Nat.zero_add]at b8;have hr:=ni.out _ (gM' hk);have a7:=ah (xq (f:=λb=>decide (128<=b)) hk);have a8:=ah (anyM (f:=λb=>decide (128<=b)) hk);have HT:Hid (bs.take (k+1)=bs.take k++[bs[k]]):=ah (tS' hk);generalize bs[k]=y at*;have g:=x.out.trans' z.out;by_cases a9:128<=y
    .have E:Hid (D=([],12)):=ah (by rw[a.out,pP' (a8.out (by simp[a9]))]);go_wp2;go_ret2;exact⟨none,0,0,by rw[E.out];rfl,by rw[E.out];exact au.nil_ _,g⟩
    .have ba:Hid ((bs.take (k+1)).any (λb=>decide (128<=b))=false):=ah (by rw[a7.out,HN.out];simp;omega);obtain⟨A5,c5,w5,aa,j,ab,vJ⟩:=yU C.out z.out y (by omega);have aZ:Hid (aB w5 w1.heap.size A5 (k+1) c5 (bs.take (k+1))):=ah (by rw[HT.out];exact j);have dS:=ah ab;clear j ab HN a7 a8 g vJ;go_wp2_with(at_builtin;refine bP rfl _ _ _ rfl _ _ rfl rfl _ _ aa ?_);go_roundg (bs.length-(k+1));exact⟨A5,c5,k+1,by omega,by go_num,rfl,aZ.out,dS.out,ba⟩;omega
   case' neg=>
    have he:bs.take k=bs:=tL' (by omega);rw[he]at C HN;have bc:k=bs.length:=(by omega);subst bc;rw[nN' (by rw[HN.out];simp)]at a;have br:=a2.out;have t:Hid (zf w D r.length (.string (sB r)) (.slice A bs.length c) (.bool true) (.int .i64 128) (.int .i64 0) (.int .i64 72) wr):=ah ⟨A,bs.length,c,r,bs,128,0,72,true,rfl,rfl,rfl,rfl,rfl,rfl,rfl,b5,lr' _,by omega,ah (Po C.out x.out.b.size),ah (x.out.trans' z.out),by omega,by omega,by omega,by omega,by omega,by omega,a⟩;clear a HN C z a3 x he a2 ni;generalize wr=w3 at*;go_wp2;go_loopg[0,4,8,9,10,11] r.length (λY s0 Z s8 s9 F G wx=>zf w D Y s0 Z s8 s9 F G wx)
    case atStart=>exact t.out
 all_goals
  clear t;obtain⟨A,N,c,q,o,n,i,b,f,rfl,rfl,rfl,rfl,rfl,rfl,ad,ae,bt,bu,C,z,bv,bw,bx,bz,bA,I,a⟩:=hrel;have af:=pU q;cases J:q.isEmpty
  .rw[J]at af;have K:q≠[]:=(by intro h;rw[h]at J;cases J);have ag:=List.length_pos_iff.2 K;obtain⟨g',rfl⟩:=gS' gk;rw[G6 (by simpa using K)]at a;have be: -100000<=b/\b<=100000:=(by omega);have ai:=ah (Ph q ae.out (by omega) b be wr);have L:=ad.out;subst L;clear J K ad;go_wp2_with fail;refine ai.out.mono ?_;rintro e w4⟨bg,O⟩;have S:=ah (z.out.trans' O);have pq:=ah (Own.ext C.out O);clear ai C z O;rcases bg with⟨hn,rfl⟩|⟨v,m,hn,bB,bD,bE,bF,rfl⟩
   .rw[hn]at a;have E:Hid (D=([],12)):=a;have g:=S.out;clear hn a;go_wp2;go_ret2;exact⟨none,0,0,by rw[E.out];rfl,by rw[E.out];exact au.nil_ _,g⟩
   .rw[hn]at a;simp only at a;clear hn;by_cases bh:2147483647<v
    .rw[pP' (.inl bh)]at a;have g:=S.out;go_wp2;go_ret2;exact⟨none,0,0,by rw[a.out];rfl,by rw[a.out];exact au.nil_ _,g⟩
    have ag:0<=(v+i) / ((o.length:Int)+1):=Int.ediv_nonneg (by omega) (by omega);have bi:(v+i) / ((o.length:Int)+1)<=v+i:=Int.ediv_le_self _ (by omega);have bj:=Int.emod_nonneg (v+i) (b:=(o.length:Int)+1) (by omega);have bk:=Int.emod_lt_of_pos (v+i) (b:=(o.length:Int)+1) (by omega);obtain⟨Q,hQ⟩:=eY' ((v+i) / ((o.length:Int)+1));obtain⟨M,hM⟩:∃M:Nat,(v+i) % ((o.length:Int)+1)=M:=⟨((v+i) % ((o.length:Int)+1)).toNat,by omega⟩;rw[hQ,hM]at a;rw[hQ]at ag bi;rw[hM]at bj bk;by_cases L:1114111<n+Q
    .rw[pP' (.inr L)]at a;have g:=S.out;have g:∀k,Ext w (w4.drewN k):=λk=>S.out.lS k
     go_wp2_with fail;go_quiet (fail);go_wp2;go_ret2;exact⟨none,0,0,by rw[a.out];rfl,by rw[a.out];exact au.nil_ _,g _⟩
    rw[nN' (by omega)]at a;go_wp2_with fail;go_quiet (fail);go_wp2_with fail;rw[hM];rw[Int.toNat_natCast]at a;have dS:Hid (Ext w (w4.drewN nq)):=ah (S.out.lS nq);have aZ:Hid (aB (w4.drewN nq) w.heap.size A o.length c o):=ah (Own.ext pq.out (eR'.lS nq));clear hM hQ S pq;generalize w4.drewN nq=w5 at*;refine(qh _ _).mono ?_;rintro e w'⟨rfl,rfl⟩;by_cases hu:utfLen (n+Q)=0
    .rw[pP' hu]at a;have e1:(utfLen (n+Q)==0)=true:=(by rw[bq'];exact hu);have g:=dS.out;go_wp2;go_ret2;exact⟨none,0,0,by rw[a.out];rfl,by rw[a.out];exact au.nil_ _,g⟩
    rw[nN' hu]at a;have e1:(utfLen (n+Q)==0)=false:=(by rw[aP];exact hu);have an:=ah (OX w w5 A c o (n+Q) M aZ.out dS.out (by omega) (by omega));have ao:=ah (vP o M (n+Q) (by omega));have ap:(1:Int)<=(o.length:Int)+1/\(o.length:Int)+1<=4096:=(by omega);have aq:0<=v/\v<2147483648:=(by omega);have ar:=ah (λw=>Fq v ((o.length:Int)+1) f aq ap w);have P:=FN (f:=f) aq.1 ap.1;have rZ:=ah (wV ae.out m);have bl:(q.drop m).length=q.length-m:=List.length_drop;have U8:(q.drop m).length<=q.length-m:=(by omega);obtain⟨b2,av⟩:=eY' (kZ v ((o.length:Int)+1) f);rw[av]at ar P a;generalize kK o M (n+Q)=o2 at*;generalize q.drop m=q2 at*;clear hu av bl;go_wp2_with fail;refine an.out.mono ?_;rintro e w6⟨A6,n6,c6,rfl,R,p,aw⟩;have bm:=ah R;have bo:=ah p;have iK:=ah aw;have bH:n6<=o.length+1/\o.length+1<=n6:=(by rw[R,ao.out];omega);clear R p aw an ao aZ dS;go_wp2_with fail;refine(ar.out _).mono ?_;rintro e w'⟨rfl,rfl⟩;go_wp2;go_roundg g';exact⟨A6,n6,c6,q2,o2,n+Q,(M:Int)+1,b2,false,rfl,rfl,rfl,rfl,rfl,rfl,bm,rZ,by omega,by omega,bo,iK,by omega,by omega,by omega,by omega,P.1,P.2,a⟩;omega
  .rw[J]at af;have E:Hid (D=(o,0)):=ah (by rw[a.out,List.isEmpty_iff.1 J];cases gk<;>rfl);have g:=z.out;have hi:=aB.ints C.out;clear a J;go_wp2;go_ret2;exact⟨A,N,c,by rw[E.out];rfl,by rw[E.out];exact hi,g⟩
end Go.Proofs.YtpmgophlhmcogaaGreatDoor
