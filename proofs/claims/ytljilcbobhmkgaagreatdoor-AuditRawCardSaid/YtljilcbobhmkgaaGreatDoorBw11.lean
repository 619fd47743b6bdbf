/- Part Bw11. -/
import Derived.Test.YtljilcbobhmkgaaGreatDoorBw10
open Go.Proofs.Tryz
namespace Go.Proofs.YtljilcbobhmkgaaGreatDoor
set_option maxHeartbeats 25600000
set_option maxRecDepth 100000
open Go.RowKit
variable (t:TV)(T:ak)(l:List Int)(A:Option Addr)(n c:Nat)(w:World)
def je(c:Int)(l:List Int):Nat->Int
 |0=> -1
 |k+1=>if l.getD k 0=c then k else je c l k
theorem Gz(c:Int)(l:List Int):∀k,-1<=je c l k/\je c l k<k
 |0=>by unfold je;omega
 |k+1=>by
  have:=Gz c l k;unfold je;split<;>omega
def aJJ(l:List Int)(c:Int)(w:World)(g:Nat)(s5:Value)(wx:World):Prop:=
 s5=.int .i64 ((g:Int)-1)/\g<=l.length/\wx=w/\Hid (je c l l.length=je c l g)
theorem aJ9(h:IsB l)(r:l.length<=1099511627776)(c:Int)(w:World):cW' 317 #[.string (sB l),.int .u8 c] w (.int .i64 (je c l l.length)):=by
 have i:=ah h;clear h;go_enter func317,ntmps317;go_wp2;go_loopg[5] l.length (λj m n=>aJJ l c w j m n);exact⟨rfl,lr' _,rfl,rfl⟩;obtain⟨rfl,p,rfl,f⟩:=hrel;rcases Nat.eq_zero_or_pos gk with g|g
 .subst g;have a:Hid (je c l l.length= -1):=ah (by rw[f.out];rfl);go_wp2;go_ret;exact⟨aU a.out.symm,rfl⟩
 .obtain⟨k,rfl⟩:=gS' gk;have q:=ixc i.out (k:=k) (by omega) wr;rw[show((k+1:Nat):Int)-1=(k:Int)by omega];have b:Hid (je c l (k+1)=if l.getD k 0=c then(k:Int)else je c l k):=rfl;generalize l.getD k 0=y at*;by_cases d:y=c
  .have a:Hid (je c l l.length=k):=ah (by rw[f.out,b.out,pP' d]);have o:(y==c)=true:=(by rw[bq'];exact d);clear d;go_wp2;go_ret;exact⟨aU a.out.symm,rfl⟩
  .have a:Hid (je c l l.length=je c l k):=ah (by rw[f.out,b.out,nN' d]);have o:(y==c)=false:=(by rw[aH];exact d);go_wp2;go_roundg k;exact⟨rfl,by omega,rfl,a⟩;omega
theorem aJP(b:IsB l)(d:l.length<=1099511627776)(c:Int)(w:World):cW' 287 #[.string (sB l),.int .u8 c] w (.int .i64 (je c l l.length)):=by
 have a:=ah (aJ9 l b d c w);generalize je c l l.length=V at*;go_enter func287,ntmps287;go_wp2_with(refine a.out.mono ?_;rintro e w'⟨rfl,rfl⟩);go_ret;exact⟨rfl,rfl⟩
def fF(b:Int):Option Int:=if 97<=b/\b<=122 then some (b-97)else if 65<=b/\b<=90 then some (b-65)else if 48<=b/\b<=57 then some (b-22)else none
theorem Sj{b d:Int}(h:fF b=some d):0<=d/\d<36:=by
 unfold fF at h
 repeat' split at h
 all_goals(first|(injection h with h;omega)|cases h)
def Ky:Option Int->Value
 |some d=>.tuple #[.int .i64 d,.bool true]
 |none=>.tuple #[.int .i64 0,.bool false]
theorem aJF(b:Int)(h:0<=b/\b<256)(w:World):cW' 318 #[.int .u8 b] w (Ky (fF b)):=by
 have a:Hid (fF b=if 97<=b/\b<=122 then some (b-97)else if 65<=b/\b<=90 then some (b-65)else if 48<=b/\b<=57 then some (b-22)else none):=rfl;generalize fF b=V at*;by_cases c:97<=b/\b<=122
 .rw[pP' c]at a;rw[a.out];go_enter func318,ntmps318;go_wp2
  all_goals(go_ret2;exact⟨rfl,rfl⟩)
 rw[nN' c]at a;by_cases d:65<=b/\b<=90
 .rw[pP' d]at a;rw[a.out];go_enter func318,ntmps318;go_wp2
  all_goals(go_ret2;exact⟨rfl,rfl⟩)
 rw[nN' d]at a;by_cases f:48<=b/\b<=57
 .rw[pP' f,show b-22=b-48+26 by omega]at a;rw[a.out];go_enter func318,ntmps318;go_wp2
  all_goals(go_ret2;exact⟨rfl,rfl⟩)
 .rw[nN' f]at a;rw[a.out];go_enter func318,ntmps318;go_wp2
  all_goals(first|omega|(go_ret2;exact⟨rfl,rfl⟩))
def aJr(s:List Int)(b:Int)(e:Ending):Prop:=
 (jl b (s.map fF) 0 0 1=none/\e=.returned (.tuple #[.int .i64 0,.string (sB []),.bool false]))\/
 ∃(v:Int)(m:Nat),jl b (s.map fF) 0 0 1=some (v,(s.drop m).map fF)/\0<m/\m<=s.length/\0<=v/\v<=2147483648/\e=.returned (.tuple #[.int .i64 v,.string (sB (s.drop m)),.bool true])
def aJk(s:List Int)(b:Int)(w:World)(g:Nat)(s7 s8 s9:Value)(wx:World):Prop:=
 ∃(j:Nat)(v x:Int),g+j=s.length/\s9=.int .i64 j/\s7=.int .i64 v/\s8=.int .i64 x/\0<=v/\v<=2147483648/\1<=x/\x<=2147483648/\wx=w/\Hid (jl b (s.map fF) 0 0 1=jl b ((s.drop j).map fF) j v x)
theorem GH{d x:Int}(b:0<=d)(c:d<=36)(a:0<=x)(f:x<=2147483648):0<=d*x/\d*x<=77309411328:=
 ⟨Int.mul_nonneg b a,Int.le_trans (Int.mul_le_mul_of_nonneg_right c a) (by omega)⟩
theorem aJq(s:List Int)(O:IsB s)(hm:s.length<=4096)(b:Int)(hb: -100000<=b/\b<=100000)(w:World):Calls prog 288 #[.string (sB s),.int .i64 b] w λe w'=>aJr s b e/\Ext w w':=by
 have J:=ah O;clear O;go_enter func288,ntmps288;go_wp2;go_loopg[7,8,9] s.length (λP Q R S T=>aJk s b w P Q R S T);exact⟨0,0,1,by omega,rfl,rfl,rfl,by omega,by omega,by omega,by omega,rfl,rfl⟩;obtain⟨j,v,x,hg,rfl,rfl,rfl,U,V,X,m,rfl,a⟩:=hrel;by_cases C:j<s.length
 .have hx:=ixc J.out C wr;have Y:=wH J.out j;have n:Hid ((s.drop j).map fF=fF (s.getD j 0)::(s.drop (j+1)).map fF):=ah (by rw[drop_at s j C,List.map_cons,getD_lt s j 0 C]);have B:=ah (aJF (s.getD j 0) Y wr);have D:(0:Int)<=(j:Int)/\(j:Int)<=4096:=by omega
  have ht:=AA j b;have K:=ah (λw=>Qp j b D hb w);have o:Hid (gB j b=gB j b):=rfl;cases c:fF (s.getD j 0)with
  |none=>
   rw[c]at n B;have E:Hid (jl b (s.map fF) 0 0 1=none):=ah (by rw[a.out,n.out];rfl);generalize s.getD j 0=y at*;clear K ht o;go_wp2_with fail;refine B.out.mono ?_;rintro e w'⟨rfl,rfl⟩;simp only[Ky];go_wp2;go_ret3;exact⟨.inl ⟨E.out,rfl⟩,eR'⟩
  |some d=>
   rw[c]at n B;have F:=Sj c;have G:=GH F.1 (by omega) (by omega) m;have L:Hid (jl b (some d::(s.drop (j+1)).map fF) j v x=if d<gB j b then some (min (v+d*x) qG,(s.drop (j+1)).map fF)else jl b ((s.drop (j+1)).map fF) (j+1) (min (v+d*x) qG) (min (x*(36-gB j b)) qG)):=rfl;rw[n.out,L.out]at a;have h:=BP wr (l:=s) (k:=j+1) (by omega)
   push_cast at h
   generalize s.getD j 0=y at*;generalize gB j b=t at*;clear L n o;have r:=GH (d:=36-t) (by omega) (by omega) (by omega) m;rw[Int.mul_comm]at r;obtain⟨p,Z⟩:=eY' (d*x);obtain⟨q,hq⟩:=eY' (x*(36-t));rw[Z]at G a;rw[hq]at r a;have f:0<=min (v+p) 2147483648/\min (v+p) 2147483648<=2147483648:=(by omega);obtain⟨u,M⟩:=eY' (min (v+p) 2147483648);have HU:Hid (min (v+p) qG=u):=ah M;rw[M]at f;rw[HU.out]at a;have i:1<=min q 2147483648/\min q 2147483648<=2147483648:=by
    have:x*1<=x*(36-t):=Int.mul_le_mul_of_nonneg_left (by omega) (by omega);omega
   obtain⟨z,A⟩:=eY' (min q 2147483648);have HQ:Hid (min q qG=z):=ah A;rw[A]at i;rw[HQ.out]at a;go_wp2_with fail;refine B.out.mono ?_;rintro e w'⟨rfl,rfl⟩;simp only[Ky];go_wp2_with fail;refine(K.out _).mono ?_;rintro e w'⟨rfl,rfl⟩;by_cases g:d<t
   .rw[pP' g]at a;have H:decide (d<t)=true:=(by rw[au];exact g);have N:∀W,(Instr.slice 9 (.string (sB s)) (some (.int .i64 ((j:Int)+1))) none none).run prog W=.ok (.string (sB (s.drop (j+1)))) W:=λW=>by
     have:=BP W (l:=s) (k:=j+1) (by omega)
     push_cast at this
     exact this
    clear h;go_wp2_with fail;go_quiet (fail);go_wp2;go_ret3;exact⟨.inr ⟨u,j+1,a.out,by omega,by omega,f.1,f.2,rfl⟩,eR'.lJ _⟩
   .rw[nN' g]at a;have H:decide (d<t)=false:=(by rw[aA];exact g);have I:Hid (jl b (s.map fF) 0 0 1=jl b ((s.drop (j+1)).map fF) ((j+1:Nat):Int) u z):=a;clear h;go_wp2;go_roundg (s.length-(j+1));exact⟨j+1,u,z,by omega,by go_num,rfl,rfl,f.1,f.2,i.1,i.2,rfl,I⟩;omega
 .have F:s.drop j=[]:=bM s j (by omega);have E:Hid (jl b (s.map fF) 0 0 1=none):=ah (by rw[a.out,F];rfl);go_wp2;go_ret3;exact⟨.inl ⟨E.out,rfl⟩,eR'⟩
def resD:Dec->List Int×Int
 | .ok l=>(l,0)
 | .Cc=>([],12)
 | .over=>([],8)
def hyB(s:List Int):Nat:=(je 45 s s.length).toNat
def pz(s:List Int):List Int:=if hyB s=0 then s else s.drop (hyB s+1)
def pdU(s:List Int):List Int×Int:=
 if 2048<s.length then([],7)else if(s.take (hyB s)).any (λb=>decide (128<=b))then([],12)
 else resD (decP (pz s).length ((pz s).map fF) (s.take (hyB s)) 128 0 72 true)
def Cj(w:World)(d:List Int×Int)(e:Ending)(w':World):Prop:=∃A n c,e=.returned (.tuple #[.slice A n c,.int .i64 d.2])/\aC w' ⟨A,n,c⟩ d.1/\Ext w w'
def aKB(w1:World)(bs:List Int)(g:Nat)(s4 s28:Value)(wx:World):Prop:=
 ∃(A:Option Addr)(c k:Nat),g+k=bs.length/\s28=.int .i64 k/\s4=.slice A k c/\aK wx w1.heap.size A k c (bs.take k)/\Ext w1 wx/\Hid ((bs.take k).any (λb=>decide (128<=b))=false)
def GI(w:World)(D:List Int×Int)(g:Nat)(s0 s4 s8 s9 s10 s11:Value)(wx:World):Prop:=
 ∃(A:Option Addr)(N c:Nat)(r o:List Int)(n i b:Int)(f:Bool),s0=.string (sB r)/\s4=.slice A N c/\s8=.bool f/\s9=.int .i64 n/\s10=.int .i64 i/\s11=.int .i64 b/\Hid (N=o.length)/\Hid (IsB r)/\r.length<=g/\N+r.length<=2048/\
  Hid (aK wx w.heap.size A N c o)/\Hid (Ext w wx)/\0<=n/\n<=1114111/\0<=i/\i<=N/\0<=b/\b<=2400/\Hid (D=resD (decP g (r.map fF) o n i b f))
theorem SA{w:World}{b f n c size:Nat}{e:TypeId}{A:Option Addr}{i:List Value}(h:Own w b e size A n c i)(o:f<=b):Own w f e size A n c i:=by
 refine⟨h.1,?_⟩;rcases h.2 with j|⟨g,a,d,k,l,m⟩
 .exact .inl j
 .exact .inr ⟨g,a,d,k,Nat.le_trans o l,m⟩
theorem KI{g:Nat}{ds:List (Option Int)}{o:List Int}{n i b:Int}{f:Bool}(h:ds≠[]):decP (g+1) ds o n i b f=(match jl b ds 0 0 1 with
 |none=>.Cc
 |some (v,r)=>
  if 2147483647<v\/1114111<n+(v+i) / (o.length+1)then .over
  else if utfLen (n+(v+i) / (o.length+1))=0 then .Cc
  else decP g r (pq o ((v+i) % (o.length+1)).toNat (n+(v+i) / (o.length+1))) (n+(v+i) / (o.length+1)) ((v+i) % (o.length+1)+1) (nJ v (o.length+1) f) false):=by
 cases ds with
 |nil=>exact absurd rfl h
 |cons d ds=>rfl
theorem aJw(s:List Int)(hs:IsB s)(w:World):Calls prog 241 #[.string (sB s)] w (Cj w (pdU s)):=by
 have a:Hid (pdU s=if 2048<s.length then([],7)else if(s.take (hyB s)).any (λb=>decide (128<=b))then([],12)else resD (decP (pz s).length ((pz s).map fF) (s.take (hyB s)) 128 0 72 true)):=rfl;have HL:=ah hs;generalize pdU s=D at*;clear hs;by_cases h1:2048<s.length
 .rw[pP' h1]at a;go_enter func241,ntmps241;go_wp2;go_ret2;exact⟨none,0,0,by rw[a.out];rfl,by rw[a.out];exact aC.nil_ w,eR'⟩
 rw[nN' h1]at a;have d:Hid (pz s=if hyB s=0 then s else s.drop (hyB s+1)):=rfl;have T:=ah (aJP s HL.out (by omega) 45 w);have br:=Gz 45 s s.length;obtain⟨H,hH⟩:=eY' (hyB s);have U:H=(je 45 s s.length).toNat:=by rw[<- hH];rfl
 rw[hH]at a d;generalize je 45 s s.length=La at*;go_enter func241,ntmps241;go_wp2_with fail;refine T.out.mono ?_;rintro e w'⟨rfl,rfl⟩;clear T hH;by_cases V:H=0
 case' pos=>
  have X:decide (0<La)=false:=dF';rw[V,List.take_zero]at a;rw[pP' V]at d;rw[d.out]at a;have t:Hid (GI w D s.length (.string (sB s)) (.slice none 0 0) (.bool true) (.int .i64 128) (.int .i64 0) (.int .i64 72) w):=ah ⟨none,0,0,s,[],128,0,72,true,rfl,rfl,rfl,rfl,rfl,rfl,rfl,HL,lr' _,by omega,ah (Own.nil_ _ _ _ _),ah eR',by omega,by omega,by omega,by omega,by omega,by omega,a⟩;clear a d V U;go_wp2;go_loopg[0,4,8,9,10,11] s.length (λY s0 Z s8 s9 F G wx=>GI w D Y s0 Z s8 s9 F G wx)
  case atStart=>exact t.out
 case' neg=>
  obtain rfl:La=(H:Int):=by omega
  clear U;rw[nN' V]at d;have X:decide (0<(H:Int))=true:=dT';have b0:decide (0<H)=true:=dT';have b1:=Aq w (l:=s) (k:=H) (by omega);have gK:=ah (wX HL.out H);have b4:(s.take H).length=H:=by rw[List.length_take];omega
  obtain⟨cc,w1,b5,a1,I,_⟩:=FT (w:=w) gK.out (by omega);have bq:∀W,(Instr.slice 9 (.string (sB s)) (some (.int .i64 ((H:Int)+1))) none none).run prog W=.ok (.string (sB (s.drop (H+1)))) W:=λW=>by
   have:=BP W (l:=s) (k:=H+1) (by omega)
   push_cast at this
   exact this
  have a2:Hid ((s.drop (H+1)).length=s.length-(H+1)):=ah (List.length_drop);have b6:=ah (zB HL.out (H+1));rw[d.out]at a;generalize s.drop (H+1)=r at*;generalize s.take H=bs at*;subst b4;have a3:=ah a1;have x:=ah I;go_wp2_with fail;clear b1 b5 a1 I X b0 d V;go_loopg[4,28] bs.length (λY Z b7 wx=>aKB w1 bs Y Z b7 wx)
  case atStart=>exact⟨none,0,0,by omega,rfl,rfl,Own.nil_ _ _ _ _,eR',rfl⟩
  case' round=>
   obtain⟨A,c,k,hg,rfl,rfl,B,a4,HN⟩:=hrel;have C:=ah B;have z:=ah a4;clear B a4;by_cases hk:k<bs.length
   case pos=>
    obtain⟨b',o',hA,b9⟩:=(a3.out.ext z.out).at_ hk;injection hA with hA;injection hA with e1 e2;subst e1 e2;rw[Nat.zero_add]at b9;have hr:=gK.out _ (gM' hk);have a7:=ah (xC (f:=λb=>decide (128<=b)) hk);have a8:=ah (anyM (f:=λb=>decide (128<=b)) hk);have HT:Hid (bs.take (k+1)=bs.take k++[bs[k]]):=ah (tS' hk);generalize bs[k]=y at*;have g:=x.out.trans' z.out;by_cases a9:128<=y
    .have E:Hid (D=([],12)):=ah (by rw[a.out,pP' (a8.out (by simp[a9]))]);go_wp2;go_ret2;exact⟨none,0,0,by rw[E.out];rfl,by rw[E.out];exact aC.nil_ _,g⟩
    .have bb:Hid ((bs.take (k+1)).any (λb=>decide (128<=b))=false):=ah (by rw[a7.out,HN.out];simp;omega);obtain⟨A5,c5,w5,aa,j,ab,oG⟩:=xA C.out z.out y (by omega);have bI:Hid (aK w5 w1.heap.size A5 (k+1) c5 (bs.take (k+1))):=ah (by rw[HT.out];exact j);have dS:=ah ab;clear j ab HN a7 a8 g oG;go_wp2_with(at_builtin;refine dA rfl _ _ _ rfl _ _ rfl rfl _ _ aa ?_);go_roundg (bs.length-(k+1));exact⟨A5,c5,k+1,by omega,by go_num,rfl,bI.out,dS.out,bb⟩;omega
   case' neg=>
    have he:bs.take k=bs:=tL' (by omega);rw[he]at C HN;have bd:k=bs.length:=(by omega);subst bd;rw[nN' (by rw[HN.out];simp)]at a;have bt:=a2.out;have t:Hid (GI w D r.length (.string (sB r)) (.slice A bs.length c) (.bool true) (.int .i64 128) (.int .i64 0) (.int .i64 72) wr):=ah ⟨A,bs.length,c,r,bs,128,0,72,true,rfl,rfl,rfl,rfl,rfl,rfl,rfl,b6,lr' _,by omega,ah (SA C.out x.out.b.size),ah (x.out.trans' z.out),by omega,by omega,by omega,by omega,by omega,by omega,a⟩;clear a HN C z a3 x he a2 gK;generalize wr=w3 at*;go_wp2;go_loopg[0,4,8,9,10,11] r.length (λY s0 Z s8 s9 F G wx=>GI w D Y s0 Z s8 s9 F G wx)
    case atStart=>exact t.out
 all_goals
  clear t;obtain⟨A,N,c,q,o,n,i,b,f,rfl,rfl,rfl,rfl,rfl,rfl,ad,ae,bu,bv,C,z,bw,bx,bz,bA,bB,I,a⟩:=hrel;have af:=sO q;cases J:q.isEmpty
  .rw[J]at af;have K:q≠[]:=(by intro h;rw[h]at J;cases J);have ag:=List.length_pos_iff.2 K;obtain⟨g',rfl⟩:=gS' gk;rw[KI (by simpa using K)]at a;have bf: -100000<=b/\b<=100000:=(by omega);have ai:=ah (aJq q ae.out (by omega) b bf wr);have L:=ad.out;subst L;clear J K ad;go_wp2_with fail;refine ai.out.mono ?_;rintro e w4⟨bh,O⟩;have S:=ah (z.out.trans' O);have tK:=ah (Own.ext C.out O);clear ai C z O;rcases bh with⟨hn,rfl⟩|⟨v,m,hn,bC,bE,bG,bH,rfl⟩
   .rw[hn]at a;have E:Hid (D=([],12)):=a;have g:=S.out;clear hn a;go_wp2;go_ret2;exact⟨none,0,0,by rw[E.out];rfl,by rw[E.out];exact aC.nil_ _,g⟩
   .rw[hn]at a;simp only at a;clear hn;by_cases bi:2147483647<v
    .rw[pP' (.inl bi)]at a;have g:=S.out;go_wp2;go_ret2;exact⟨none,0,0,by rw[a.out];rfl,by rw[a.out];exact aC.nil_ _,g⟩
    have ag:0<=(v+i) / ((o.length:Int)+1):=Int.ediv_nonneg (by omega) (by omega);have bj:(v+i) / ((o.length:Int)+1)<=v+i:=Int.ediv_le_self _ (by omega);have bk:=Int.emod_nonneg (v+i) (b:=(o.length:Int)+1) (by omega);have bl:=Int.emod_lt_of_pos (v+i) (b:=(o.length:Int)+1) (by omega);obtain⟨Q,hQ⟩:=eY' ((v+i) / ((o.length:Int)+1));obtain⟨M,hM⟩:∃M:Nat,(v+i) % ((o.length:Int)+1)=M:=⟨((v+i) % ((o.length:Int)+1)).toNat,by omega⟩;rw[hQ,hM]at a;rw[hQ]at ag bj;rw[hM]at bk bl;by_cases L:1114111<n+Q
    .rw[pP' (.inr L)]at a;have g:=S.out;have g:∀k,Ext w (w4.drewN k):=λk=>S.out.lJ k
     go_wp2_with fail;go_quiet (fail);go_wp2;go_ret2;exact⟨none,0,0,by rw[a.out];rfl,by rw[a.out];exact aC.nil_ _,g _⟩
    rw[nN' (by omega)]at a;go_wp2_with fail;go_quiet (fail);go_wp2_with fail;rw[hM];rw[Int.toNat_natCast]at a;have dS:Hid (Ext w (w4.drewN nq)):=ah (S.out.lJ nq);have bI:Hid (aK (w4.drewN nq) w.heap.size A o.length c o):=ah (Own.ext tK.out (eR'.lJ nq));clear hM hQ S tK;generalize w4.drewN nq=w5 at*;refine(xI _ _).mono ?_;rintro e w'⟨rfl,rfl⟩;by_cases hu:utfLen (n+Q)=0
    .rw[pP' hu]at a;have e1:(utfLen (n+Q)==0)=true:=(by rw[bq'];exact hu);have g:=dS.out;go_wp2;go_ret2;exact⟨none,0,0,by rw[a.out];rfl,by rw[a.out];exact aC.nil_ _,g⟩
    rw[nN' hu]at a;have e1:(utfLen (n+Q)==0)=false:=(by rw[aH];exact hu);have an:=ah (aJ6 w w5 A c o (n+Q) M bI.out dS.out (by omega) (by omega));have ao:=ah (AP o M (n+Q) (by omega));have ap:(1:Int)<=(o.length:Int)+1/\(o.length:Int)+1<=4096:=(by omega);have aq:0<=v/\v<2147483648:=(by omega);have ar:=ah (λw=>QV v ((o.length:Int)+1) f aq ap w);have P:=Gm (f:=f) aq.1 ap.1;have jk:=ah (zB ae.out m);have bm:(q.drop m).length=q.length-m:=List.length_drop;have bL:(q.drop m).length<=q.length-m:=(by omega);obtain⟨b2,av⟩:=eY' (nJ v ((o.length:Int)+1) f);rw[av]at ar P a;generalize pq o M (n+Q)=o2 at*;generalize q.drop m=q2 at*;clear hu av bm;go_wp2_with fail;refine an.out.mono ?_;rintro e w6⟨A6,n6,c6,rfl,R,p,aw⟩;have bo:=ah R;have bp:=ah p;have eY:=ah aw;have bN:n6<=o.length+1/\o.length+1<=n6:=(by rw[R,ao.out];omega);clear R p aw an ao bI dS;go_wp2_with fail;refine(ar.out _).mono ?_;rintro e w'⟨rfl,rfl⟩;go_wp2;go_roundg g';exact⟨A6,n6,c6,q2,o2,n+Q,(M:Int)+1,b2,false,rfl,rfl,rfl,rfl,rfl,rfl,bo,jk,by omega,by omega,bp,eY,by omega,by omega,by omega,by omega,P.1,P.2,a⟩;omega
  .rw[J]at af;have E:Hid (D=(o,0)):=ah (by rw[a.out,List.isEmpty_iff.1 J];cases gk<;>rfl);have g:=z.out;have hi:=aK.ints C.out;clear a J;go_wp2;go_ret2;exact⟨A,N,c,by rw[E.out];rfl,by rw[E.out];exact hi,g⟩
def lbG:List (List Int)->List Int->List Int->List (List Int)
 |L,cur,[]=>L++[cur]
 |L,cur,c::r=>if c=46 then lbG (L++[cur]) [] r else lbG L (cur++[c]) r
def mV(l:List Int):List (List Int):=lbG [] [] l
theorem aC.kb{w w':World}{s:SV}{l:List Int}(h:aC w s l)(g:∀b o,aF s.a=some b->w'.cell? ⟨b,o,none⟩=w.cell? ⟨b,o,none⟩):aC w' s l:=
 ⟨h.1,λi x d=>by
  obtain⟨b,o,c,f⟩:=h.2 i x d
  exact⟨b,o,c,by rw[g b _ (by rw[c];rfl)];exact f⟩⟩
theorem Tf{w w':World}{row:Option Nat}(h:w.grownBy w' row){b:Nat}(a:b<w.heap.size)(c:some b≠row)(o:Nat):w'.cell? ⟨b,o,none⟩=w.cell? ⟨b,o,none⟩:=by
 unfold World.cell?;rw[h.block b a c]
abbrev AQ(w:World)(base:Nat)(A:Option Addr)(n c:Nat)(S:List SV):Prop:=Own w base 22 1 A n c (S.map SV.v)
structure LbS(w0 w:World)(g C B:Nat)(S:List SV)(L:List (List Int))(z:SV)(cur:List Int):Prop where
 own:AQ w w0.heap.size (some ⟨g,0,none⟩) (S.length+1) C (S++[z])
 eq:S.length=L.length
 ok:∀(i:Nat)s x,S[i]? =some s->L[i]? =some x->aC w s x/\∀b,aF s.a=some b->b<B/\b≠g
 last:aK w B z.a z.n z.c cur
 lne:aF z.a≠some g
 b0:w0.heap.size<=B
 b1:B<=w.heap.size
 ext:Ext w0 w
theorem LbS.turn{p w w':World}{g C B:Nat}{S:List SV}{L:List (List Int)}{z z':SV}{A f:List Int}(h:LbS p w g C B S L z A)(E:∀b,b<w.heap.size->some b≠aF z.a->w'.heap[b]? =w.heap[b]?)(D:w.heap.size<=w'.heap.size)
 (P:aK w' B z'.a z'.n z'.c f) (F:aF z'.a≠some g) (Q:Ext p w'):LbS p (w'.setCell ⟨g,S.length,none⟩ z'.v) g C B S L z' f:=by
 have k:=Own.lt h.own g rfl;have j:AQ w' p.heap.size (some ⟨g,0,none⟩) (S.length+1) C (S++[z]):=by
  refine⟨h.own.1,?_⟩;rcases h.own.2 with⟨G,_⟩|⟨R,H,I,d,m,J,K⟩
  .cases G
  .injection d with d M q;injection d with d;injection d with d;subst d q;refine .inr ⟨g,C,I,rfl,m,?_,K⟩;rw[E g k.2 (λe=>h.lne e.symm)];exact J
 have l:=World.ownsRow.stored j S.length z'.v;refine⟨?_,h.eq,λi s x N r=>?_,?_,F,h.b0,by simp;exact Nat.le_trans h.b1 D,Q.jP k.1 _⟩
 .have:=l.1;unfold AQ Own;simpa using this
 .obtain⟨d,m⟩:=h.ok i s x N r;refine⟨d.kb (λb o O=>?_),m⟩;obtain⟨t,y⟩:=m b O;rw[World.cell?_setCell_far _ _ _ _ (λe=>y e.symm)];unfold World.cell?;rw[E b (lt' t h.b1) (λe=>by have:=(Own.lt h.last b e.symm).1;omega)]
 .exact World.ownsRow.kept P l.2 (by
   rw[CZ]
   exact .inr F)
theorem LbS.more{M w:World}{g C B:Nat}{S:List SV}{L:List (List Int)}{z:SV}{y:List Int}(h:LbS M w g C B S L z y)(P:S.length<=1099511000000):
 ∃g' C' w',(∀ty,(Builtin.append_ #[112,112] ty #[.slice (some ⟨g,0,none⟩) (S.length+1) C,.slice (some ⟨w.heap.size,0,none⟩) 1 1]).run prog (w.alloc (.cells #[.slice none 0 0] 22))=.ok (.slice (some ⟨g',0,none⟩) (S.length+1+1) C') w')/\LbS M w' g' C' w'.heap.size (S++[z]) (L++[y]) lu []:=by
 have c:Ext w (w.alloc (.cells #[.slice none 0 0] 22)):=eR'.ay _;obtain⟨O,C',w',q,d,l,A⟩:=zf (T:=112) underlying112 infoSl rfl (by omega) (Own.ext h.own c) (some ⟨w.heap.size,0,none⟩) 1 1 [.slice none 0 0] rfl
  (λj u r=>by
   refine⟨w.heap.size,0,rfl,?_⟩;rw[Nat.zero_add,World.cell?_alloc_new]
   match j,r with
   |0,r=>simpa using r
   |j+1,r=>simp at r)
  (by intro u J;simp at J;subst J;rfl) (by simp only[maxLen];omega) (by omega) (Nat.le_trans h.ext.b.size c.b.size)
 obtain⟨g',rfl⟩:=Own.some_ d (by omega);have D:=Own.lt h.own g rfl;have N:=Own.lt d g' rfl;refine⟨g',C',w',q,?_,by simp[h.eq],λi s x p f=>?_,Own.nil_ _ _ _ _,by simp[aF],Nat.le_trans (Nat.le_trans h.ext.b.size c.b.size) l.size,lr' _,dV (h.ext.trans' c) l (λk E=>by injection E with E;subst E;exact D.1)⟩
 .have e:S.length+1+1=(S++[z]).length+1:=by simp
  rw[<- e];unfold AQ;simpa using d
 .have keep:∀{s:SV}{x:List Int},aC w s x->(∀b,aF s.a=some b->b<w.heap.size/\b≠g)->aC w' s x/\∀b,aF s.a=some b->b<w'.heap.size/\b≠g':=by
   intro s x F t;refine⟨(F.ext c).kb (λb o m=>?_),λb m=>?_⟩
   .obtain⟨G,H⟩:=t b m;exact Tf l (lt' G c.b.size) (by intro e;injection e with e;exact H e) o
   .obtain⟨G,H⟩:=t b m;refine⟨lt' G (Nat.le_trans c.b.size l.size),λe=>?_⟩;rcases A with n|n
    .injection n with n;exact H (e.trans n)
    .injection n with n;have:=c.b.size;simp at n;omega
  by_cases K:i<S.length
  .rw[List.getElem?_append_left K]at p;rw[List.getElem?_append_left (by rw[<- h.eq];exact K)]at f;obtain⟨F,t⟩:=h.ok i s x p f;exact keep F (λb m=>⟨lt' (t b m).1 h.b1,(t b m).2⟩)
  .have I:i=S.length:=by
    have:=(List.getElem?_eq_some_iff.1 p).1;simp at this;omega
   subst I;rw[List.getElem?_append_right (lr' _)]at p;rw[List.getElem?_append_right (by rw[h.eq];exact lr' _),h.eq]at f;simp at p f;subst p f;exact keep (aK.ints h.last) (λb m=>⟨(Own.lt h.last b m).2,λe=>h.lne (by rw[m,e])⟩)
def CJ(w0 w:World)(A:Option Addr)(N C:Nat)(ls:List (List Int)):Prop:=
 ∃g S,A=some ⟨g,0,none⟩/\AQ w w0.heap.size A N C S/\S.length=N/\ls.length=N/\∀(i:Nat)s x,S[i]? =some s->ls[i]? =some x->aC w s x/\∀b,aF s.a=some b->b<w.heap.size/\b≠g
theorem LbS.done{m w:World}{g C B:Nat}{S:List SV}{L:List (List Int)}{z:SV}{f:List Int}(h:LbS m w g C B S L z f):CJ m w (some ⟨g,0,none⟩) (S.length+1) C (L++[f]):=by
 refine⟨g,S++[z],rfl,h.own,by simp,by simp[h.eq],λi s x c a=>?_⟩;by_cases k:i<S.length
 .rw[List.getElem?_append_left k]at c;rw[List.getElem?_append_left (by rw[<- h.eq];exact k)]at a;obtain⟨n,l⟩:=h.ok i s x c a;exact⟨n,λb d=>⟨lt' (l b d).1 h.b1,(l b d).2⟩⟩
 .have j:i=S.length:=by
   have:=(List.getElem?_eq_some_iff.1 c).1;simp at this;omega
  subst j;rw[List.getElem?_append_right (lr' _)]at c;rw[List.getElem?_append_right (by rw[h.eq];exact lr' _),h.eq]at a;simp at c a;subst c a;exact⟨aK.ints h.last,λb d=>⟨(Own.lt h.last b d).2,λe=>h.lne (by rw[d,e])⟩⟩
def Tq(w:World)(ls:List (List Int))(e:Ending)(w':World):Prop:=∃A N C,e=.returned (.slice A N C)/\CJ w w' A N C ls/\Ext w w'
def Tj(w:World)(l:List Int)(gh:Nat)(s3 s10:Value)(wx:World):Prop:=
 ∃(g C B k:Nat)(S:List SV)(L:List (List Int))(z:SV)(cur:List Int),gh+k=l.length/\s3=.slice (some ⟨g,0,none⟩) (S.length+1) C/\s10=.int .i64 k/\S.length<=k/\z.n<=k/\Hid (LbS w wx g C B S L z cur)/\Hid (mV l=lbG L cur (l.drop k))
theorem aMw(hi:aC w ⟨A,n,c⟩ l)(a6:l.length<=1000000):Calls prog 119 #[.slice A n c] w (Tq w (mV l)):=by
 have Q:=hi.len.1;subst Q;have HI:=ah hi;clear hi;have F:Ext w (w.alloc (.cells #[.slice none 0 0] 22)):=eR'.ay _
 have G:Hid (LbS w (w.alloc (.cells #[.slice none 0 0] 22)) w.heap.size 1 (w.heap.size+1) [] [] lu []):=ah ⟨by
  refine⟨rfl,.inr ⟨w.heap.size,1,#[.slice none 0 0],rfl,lr' _,heap_alloc_new w _,lr' _,by simp only[maxLen];omega,rfl,rfl⟩⟩,rfl,λi s x h=>by simp at h,Own.nil_ _ _ _ _,by simp[aF],by omega,by simp,F⟩
 go_enter func119,ntmps119;go_wp2_with fail;clear F;go_loopg[3,10] l.length (λgh s3 R wx=>Tj w l gh s3 R wx);exact⟨_,1,_,0,[],[],lu,[],by omega,rfl,rfl,by simp,lr' _,G,rfl⟩;obtain⟨g,C,B,k,S,L,z,q,hg,rfl,rfl,ab,T,H,E⟩:=hrel;clear G;by_cases N:k<l.length
 .obtain⟨b,o,hA,ad⟩:=(HI.out.ext H.out.ext).at_ N;subst hA;have O:Hid (lbG L q (l.drop k)=if l[k]=46 then lbG (L++[q]) [] (l.drop (k+1))else lbG L (q++[l[k]]) (l.drop (k+1))):=ah (by rw[drop_at l k N];rfl);generalize l[k]=x at*;by_cases r:x=46
  .have D:=aI E (O.out.trans (pP' r));have e1:(x==46)=true:=(by rw[bq'];exact r);obtain⟨g',C',w',m,H2⟩:=H.out.more (by omega);have U:=ah H2;have I:(S++[z]).length=S.length+1:=(by simp);clear H E O r H2;go_wp2_with(at_builtin;refine dA rfl _ _ _ rfl _ _ rfl rfl _ _ m ?_);go_roundg (l.length-(k+1));exact⟨g',C',_,k+1,S++[z],L++[q],lu,[],by omega,by rw[I],by go_num,by rw[I];omega,zl' _,U,D⟩;omega
  .have D:=aI E (O.out.trans (nN' r));have e1:(x==46)=false:=(by rw[aH];exact r);have t:=Own.lt H.out.own g rfl;have J:wr.cell? ⟨g,S.length,none⟩=some (.slice z.a z.n z.c):=by
    have:=World.ownsRow.cellAt H.out.own S.length (by omega);rw[this];simp
   have V:=λW(h:Ext wr W)=>h.b.frozen (p:=⟨g,S.length,none⟩) t.2
   have K:wr.frozen? ⟨g,S.length,none⟩=false:=World.ownsRow.frozenAt H.out.own S.length;obtain⟨za,X,zc⟩:=z;have am:(0:Int)<=(S.length:Int):=aZ _;simp only at J T;have d:Ext wr (wr.alloc (.cells #[.int .i64 x] 3)):=eR'.ay _;obtain⟨Y,c5,P,m,j,f,Z⟩:=fQ (Own.ext H.out.last d) (iJ wr x) (by simp only;omega) (Nat.le_trans H.out.b1 d.b.size);simp only at m j f Z;have M:Ext w P:=dV (H.out.ext.trans' d) f (λk N=>Nat.le_trans H.out.b0 (Own.lt H.out.last k N).1);have y:aF Y≠some g:=by
    rcases Z with h|h
    .rw[h];exact H.out.lne
    .rw[h];intro e;injection e with e;have:=d.b.size;omega
   have U:=ah (H.out.turn (w':=P) (z':=⟨Y,X+1,c5⟩) (λb hb Q=>by
    have h1:=d.b.block b hb;have h2:=f.block b (lt' hb d.b.size) Q
    rw[h2,h1]) (Nat.le_trans d.b.size f.size) j y M)
   have an:P.cell? ⟨g,S.length,none⟩=some (.slice za X zc):=by
    rw[Tf f (lt' t.2 d.b.size) (λe=>H.out.lne e.symm),d.b.cell (p:=⟨g,S.length,none⟩) t.2,J]
   have ao:P.frozen? ⟨g,S.length,none⟩=false:=by
    have h2:=f.block g (lt' t.2 d.b.size) (λe=>H.out.lne e.symm);have h1:=d.b.block g t.2;unfold World.frozen? at K |-;rw[h2,h1];exact K
   clear H E O d j f Z M y V r;go_wp2_with(at_builtin;refine dA rfl _ _ _ rfl _ _ rfl rfl _ _ m ?_);go_roundg (l.length-(k+1));exact⟨g,C,B,k+1,S,L,⟨Y,X+1,c5⟩,q++[x],by omega,rfl,by go_num,by omega,by simp only;omega,U,D⟩;omega
 .have HF:Hid (mV l=L++[q]):=ah (by rw[E.out,bM l k (by omega)];rfl);have hd:=H.out.done;have hx:=H.out.ext;clear H E;go_wp2;go_ret;exact⟨_,_,_,rfl,by rw[HF.out];exact hd,hx⟩
theorem aMq(Y:aC w ⟨A,n,c⟩ l)(a4:l.length<=1000000):Calls prog 147 #[.slice A n c] w (Tq w (mV l)):=by
 have hn:=Y.len.1;subst hn;have HI:=ah Y;clear Y;have F:Ext w (w.alloc (.cells #[.slice none 0 0] 22)):=eR'.ay _
 have G:Hid (LbS w (w.alloc (.cells #[.slice none 0 0] 22)) w.heap.size 1 (w.heap.size+1) [] [] lu []):=ah ⟨by
  refine⟨rfl,.inr ⟨w.heap.size,1,#[.slice none 0 0],rfl,lr' _,heap_alloc_new w _,lr' _,by simp only[maxLen];omega,rfl,rfl⟩⟩,rfl,λi s x h=>by simp at h,Own.nil_ _ _ _ _,by simp[aF],by omega,by simp,F⟩
 go_enter func147,ntmps147;go_wp2_with fail;clear F;go_loopg[3,10] l.length (λgh s3 Q wx=>Tj w l gh s3 Q wx);exact⟨_,1,_,0,[],[],lu,[],by omega,rfl,rfl,by simp,lr' _,G,rfl⟩;obtain⟨g,C,B,k,S,L,z,q,hg,rfl,rfl,aa,R,H,E⟩:=hrel;clear G;by_cases Z:k<l.length
 .obtain⟨b,o,hA,ac⟩:=(HI.out.ext H.out.ext).at_ Z;subst hA;have O:Hid (lbG L q (l.drop k)=if l[k]=46 then lbG (L++[q]) [] (l.drop (k+1))else lbG L (q++[l[k]]) (l.drop (k+1))):=ah (by rw[drop_at l k Z];rfl);generalize l[k]=x at*;by_cases r:x=46
  .have D:=aI E (O.out.trans (pP' r));have e1:(x==46)=true:=(by rw[bq'];exact r);obtain⟨g',C',w',m,H2⟩:=H.out.more (by omega);have T:=ah H2;have I:(S++[z]).length=S.length+1:=(by simp);clear H E O r H2;go_wp2_with(at_builtin;refine dA rfl _ _ _ rfl _ _ rfl rfl _ _ m ?_);go_roundg (l.length-(k+1));exact⟨g',C',_,k+1,S++[z],L++[q],lu,[],by omega,by rw[I],by go_num,by rw[I];omega,zl' _,T,D⟩;omega
  .have D:=aI E (O.out.trans (nN' r));have e1:(x==46)=false:=(by rw[aH];exact r);have J:=Own.lt H.out.own g rfl;have K:wr.cell? ⟨g,S.length,none⟩=some (.slice z.a z.n z.c):=by
    have:=World.ownsRow.cellAt H.out.own S.length (by omega);rw[this];simp
   have M:=λW(h:Ext wr W)=>h.b.frozen (p:=⟨g,S.length,none⟩) J.2
   have U:wr.frozen? ⟨g,S.length,none⟩=false:=World.ownsRow.frozenAt H.out.own S.length;obtain⟨za,V,zc⟩:=z;have al:(0:Int)<=(S.length:Int):=aZ _;simp only at K R;have HZ:=ah (aK.ints H.out.last);obtain⟨A6,c6,w6,d,f,EF,_⟩:=fQ (n:=0) (c:=0) (l:=[]) (Own.nil_ wr wr.heap.size 3 1) HZ.out (by simp only;omega) (lr' _);simp only[Nat.zero_add,List.nil_append]at d f;have N:Ext wr w6:=dV eR' EF (by simp[aF]);obtain⟨X,c5,P,m,j,t,_⟩:=xA f N x (by omega);have y:aF X≠some g:=by
    intro e;have:=(Own.lt j g e).1;omega
   have T:=ah (H.out.turn (w':=P) (z':=⟨X,V+1,c5⟩) (λb hb _=>t.b.block b hb) t.b.size (SA j H.out.b1) y (H.out.ext.trans' t));have ao:P.cell? ⟨g,S.length,none⟩=some (.slice za V zc):=(by rw[t.b.cell (p:=⟨g,S.length,none⟩) J.2,K]);have ap:P.frozen? ⟨g,S.length,none⟩=false:=(by rw[M P t];exact U);clear H E O N f EF j t y M r HZ
   go_wp2_with(at_builtin;first
    |(refine dA rfl _ _ _ rfl _ _ rfl rfl _ _ d ?_;clear d)
    |(refine dA rfl _ _ _ rfl _ _ rfl rfl _ _ m ?_;clear m))
   go_roundg (l.length-(k+1));exact⟨g,C,B,k+1,S,L,⟨X,V+1,c5⟩,q++[x],by omega,rfl,by go_num,by omega,by simp only;omega,T,D⟩;omega
 .have HF:Hid (mV l=L++[q]):=ah (by rw[E.out,bM l k (by omega)];rfl);have hd:=H.out.done;have hx:=H.out.ext;clear H E;go_wp2;go_ret;exact⟨_,_,_,rfl,by rw[HF.out];exact hd,hx⟩
def uJ(D:List Mp)(x:Int):List Int:=if(aJ D x).isEmpty=true then[x]else aJ D x
def lI(D:List Mp)(l:List Int):List Int:=l.flatMap (uJ D)
def lV(D:List Mp)(l:List Int):Bool:=l.all λx=>(aJ D x).isEmpty
def uH(D:List Mp):Nat->List Int->List Int×Bool
 |0,_=>([],false)
 |n+1,l=>if lV D l=true then(l,true)else if 18<(lI D l).length then([],false)else uH D n (lI D l)
def nU(D:List Mp)(c:Int):List Int×Bool:=uH D 257 [c]
def lv(D:List Mp):Nat->Int->List Int
 |0,c=>[c]
 |k+1,c=>if(aJ D c).isEmpty=true then[c]else(aJ D c).flatMap (lv D k)
def ht(D:List Mp):Nat->Int->Bool
 |0,c=>(aJ D c).isEmpty
 |k+1,c=>(aJ D c).all (ht D k)
def itE(D:List Mp):Nat->List Int->List Int
 |0,l=>l
 |k+1,l=>itE D k (lI D l)
theorem FN{D:List Mp}{c:Int}(h:(aJ D c).isEmpty=true):∀k,ht D k c=true
 |0=>h
 |k+1=>by
  rw[ht,List.isEmpty_iff.1 h];rfl
theorem BF{D:List Mp}:∀(k:Nat)(c:Int),ht D k c=true->ht D (k+1) c=true
 |0,c,h=>by
  rw[ht]at h;exact FN h 1
 |k+1,c,h=>by
  rw[ht,List.all_eq_true]at h |-;exact λx a=>BF k x (h x a)
theorem FP{D:List Mp}{c:Int}{k:Nat}(h:ht D k c=true):∀j,ht D (k+j) c=true
 |0=>h
 |j+1=>BF (k+j) c (FP h j)
theorem BJ{D:List Mp}{c:Int}(h:(aJ D c).isEmpty=true):∀k,lv D k c=[c]
 |0=>rfl
 |k+1=>by rw[lv,pP' h]
theorem IX{D:List Mp}:∀(k:Nat)(c:Int),ht D k c=true->lv D (k+1) c=lv D k c
 |0,c,h=>by
  rw[ht]at h;rw[BJ h,BJ h]
 |k+1,c,h=>by
  rw[ht,List.all_eq_true]at h;rw[lv,lv];by_cases a:(aJ D c).isEmpty=true
  .rw[pP' a,pP' a]
  .rw[nN' a,nN' a];generalize aJ D c=l at*;clear a
   induction l with
   |nil=>rfl
   |cons x r ih=>
    rw[List.flatMap_cons,List.flatMap_cons,IX k x (h x (by simp)),ih (λy b=>h y (by simp[b]))]
theorem F9{D:List Mp}{c:Int}{k:Nat}(h:ht D k c=true):∀j,lv D (k+j) c=lv D k c
 |0=>rfl
 |j+1=>(IX (k+j) c (FP h j)).trans (F9 h j)
theorem Jp(D:List Mp):∀(k:Nat)(c:Int),0<(lv D k c).length
 |0,_=>by simp[lv]
 |k+1,c=>by
  rw[lv];by_cases a:(aJ D c).isEmpty=true
  .rw[pP' a];simp
  .rw[nN' a];cases b:aJ D c with
   |nil=>rw[b]at a;simp at a
   |cons x r=>
    have:=Jp D k x;rw[List.flatMap_cons,lA'];omega
theorem aEo(D:List Mp)(k:Nat)(x:Int):(uJ D x).flatMap (lv D k)=lv D (k+1) x:=by
 rw[uJ,lv];by_cases a:(aJ D x).isEmpty=true
 .rw[pP' a,pP' a,List.flatMap_cons,List.flatMap_nil,List.append_nil,BJ a]
 .rw[nN' a,nN' a]
theorem JJ(D:List Mp):∀(k:Nat)(l:List Int),itE D k l=l.flatMap (lv D k)
 |0,l=>by
  induction l with
  |nil=>rfl
  |cons x r ih=>rw[List.flatMap_cons,<- ih];rfl
 |k+1,l=>by
  rw[itE,JJ D k,lI]
  induction l with
  |nil=>rfl
  |cons x r ih=>rw[List.flatMap_cons,List.flatMap_append,ih,aEo,List.flatMap_cons]
theorem aEn(D:List Mp)(k:Nat)(x:Int):(uJ D x).all (ht D k)=ht D (k+1) x:=by
 rw[uJ,ht];by_cases a:(aJ D x).isEmpty=true
 .rw[pP' a,List.isEmpty_iff.1 a];simp[FN a k]
 .rw[nN' a]
theorem Jl(D:List Mp):∀(k:Nat)(l:List Int),lV D (itE D k l)=l.all (ht D k)
 |0,l=>rfl
 |k+1,l=>by
  rw[itE,Jl D k,lI]
  induction l with
  |nil=>rfl
  |cons x r ih=>rw[List.flatMap_cons,List.all_append,ih,aEn,List.all_cons]
theorem ZT(D:List Mp)(x:Int):0<(uJ D x).length:=by
 rw[uJ];by_cases a:(aJ D x).isEmpty=true
 .rw[pP' a];simp
 .rw[nN' a];cases b:aJ D x with
  |nil=>rw[b]at a;simp at a
  |cons x r=>simp
theorem PV(D:List Mp):∀l:List Int,l.length<=(lI D l).length
 |[]=>lr' _
 |x::r=>by
  have a:=PV D r;have b:=ZT D x;rw[lI,List.flatMap_cons,lA',List.length_cons];rw[lI]at a;omega
theorem Qz(D:List Mp):∀(k:Nat)(l:List Int),l.length<=(itE D k l).length
 |0,_=>lr' _
 |k+1,l=>Nat.le_trans (PV D l) (Qz D k _)
theorem Pg{D:List Mp}:∀{l:List Int},lV D l=true->lI D l=l
 |[],_=>rfl
 |x::r,h=>by
  rw[lV,List.all_cons,aT]at h;have a:=Pg (D:=D) (l:=r) h.2;rw[lI]at a |-;rw[List.flatMap_cons,a,uJ,pP' h.1];rfl
theorem Qd{D:List Mp}{l:List Int}(h:lV D l=true):∀k,itE D k l=l
 |0=>rfl
 |k+1=>by rw[itE,Pg h,Qd h k]
theorem PY{D:List Mp}:∀(n k:Nat)(l:List Int),k<n->lV D (itE D k l)=true->(itE D k l).length<=18->uH D n l=(itE D k l,true)
 |0,_,_,h,_,_=>by omega
 |n+1,k,l,hk,h1,h2=>by
  rw[uH];by_cases a:lV D l=true
  .rw[pP' a,Qd a]
  .rw[nN' a];cases k with
   |zero=>exact absurd h1 a
   |succ k=>
    rw[itE]at h1 h2 |-;have b:=Qz D k (lI D l);rw[nN' (by omega)];exact PY n k _ (by omega) h1 h2
theorem Qv{D:List Mp}:∀(n:Nat)(l:List Int),(uH D n l).2=true->∃k,k<n/\lV D (itE D k l)=true/\(k=0\/(itE D k l).length<=18)
 |0,_,h=>by simp[uH]at h
 |n+1,l,h=>by
  rw[uH]at h;by_cases b:lV D l=true
  .exact⟨0,by omega,b,.inl rfl⟩
  .rw[nN' b]at h;by_cases c:18<(lI D l).length
   .rw[pP' c]at h;cases h
   .rw[nN' c]at h;obtain⟨k,f,d,a⟩:=Qv n _ h;refine⟨k+1,by omega,d,.inr ?_⟩;rcases a with rfl|a
    .have:itE D (0+1) l=lI D l:=rfl;rw[this];omega
    .exact a
theorem QD{f:Int->Int}(b:∀d,0<=f d):∀(l:List Int)(n:Int),0<=n->szL f n l<=18->szL f n l=n+(l.map f).sum
 |[],n,_,_=>by simp[szL]
 |d::r,n,h0,h=>by
  simp only[szL]at h |-;have c:=b d;by_cases a:18<n+f d
  .rw[pP' a]at h;omega
  .rw[nN' a]at h |-;rw[QD b r _ (by omega) h,List.map_cons,List.sum_cons];omega
theorem OQ{f:Int->Int}(a:∀d,0<=f d):∀l:List Int,0<=(l.map f).sum
 |[]=>by simp
 |d::r=>by
  have:=OQ a r;have:=a d;rw[List.map_cons,List.sum_cons];omega
theorem QC{f:Int->Int}(a:∀d,0<=f d):∀(l:List Int)(n:Int),0<=n->n+(l.map f).sum<=18->szL f n l=n+(l.map f).sum
 |[],n,_,_=>by simp[szL]
 |d::r,n,h0,h=>by
  rw[List.map_cons,List.sum_cons]at h |-;have:=OQ a r;have b:=a d;simp only[szL];rw[nN' (by omega),QC a r _ (by omega) (by omega)];omega
theorem Jo(D:List Mp)(k:Nat){f:Int->Int}:∀l:List Int,(∀d∈l,f d=(lv D k d).length)->(l.map f).sum=((l.flatMap (lv D k)).length:Int)
 |[],_=>rfl
 |d::r,h=>by
  rw[List.map_cons,List.sum_cons,List.flatMap_cons,lA',h d (by simp),Jo D k r (λx a=>h x (by simp[a]))];omega
theorem zy{D:List Mp}:∀(k:Nat)(c:Int),dN D k c<=18->ht D k c=true/\dN D k c=(lv D k c).length
 |0,c,h=>by
  by_cases b:aJ D c=[]
  .rw[dN,pP' b,ht,b];exact⟨rfl,rfl⟩
  .rw[dN,nN' b]at h;omega
 |k+1,c,h=>by
  by_cases b:aJ D c=[]
  .rw[dN,pP' b];have a:(aJ D c).isEmpty=true:=(by rw[b];rfl);exact⟨FN a _,by rw[BJ a];rfl⟩
  .have a:¬((aJ D c).isEmpty=true):=by rw[List.isEmpty_iff];exact b
   rw[dN,nN' b]at h |-;have f:=λd=>(DC D k d).1
   have g:=Jt f _ 0 (by omega) h;have i:=QD f _ 0 (by omega) h;rw[ht,List.all_eq_true,lv,nN' a];refine⟨λx j=>(zy k x (g x j)).1,?_⟩;rw[i,Jo D k _ (λd l=>(zy k d (g d l)).2)];omega
theorem Ro{D:List Mp}:∀(k:Nat)(c:Int),ht D k c=true->(lv D k c).length<=18->dN D k c<=18
 |0,c,h,_=>by
  rw[ht,List.isEmpty_iff]at h;rw[dN,pP' h];omega
 |k+1,c,h,hl=>by
  by_cases j:aJ D c=[]
  .rw[dN,pP' j];omega
  .have g:¬((aJ D c).isEmpty=true):=by rw[List.isEmpty_iff];exact j
   rw[dN,nN' j];rw[ht,List.all_eq_true]at h;rw[lv,nN' g]at hl;have n:=λd=>(DC D k d).1
   have i:∀d∈aJ D c,(lv D k d).length<=((aJ D c).flatMap (lv D k)).length:=by
    intro d b;generalize aJ D c=l at*;clear j g hl h
    induction l with
    |nil=>cases b
    |cons x r ih=>
     rw[List.flatMap_cons,lA'];rcases List.mem_cons.1 b with rfl|b
     .omega
     .have:=ih b;omega
   have m:∀d∈aJ D c,dN D k d=(lv D k d).length:=λd b=>(zy k d (Ro k d (h d b) (by have:=i d b;omega))).2
   have a:=Jo D k (f:=dN D k) _ m;rw[QC n _ 0 (by omega) (by rw[a];omega),a];omega
def uP(D:List Mp)(k:Nat):Nat:=D.countP λm=>ht D k m.lo
theorem Zp{l:List Mp}{c:Int}(h:aJ l c≠[]):∃m∈l,m.lo=c:=by
 rcases Classical.em (∃m∈l,m.lo=c)with a|a
 .exact a
 .exact absurd (Bg λs b e=>a ⟨s,b,e⟩) h
theorem Ii{α:Type}{p q:α->Bool}:∀{l:List α},(∀x∈l,p x=true->q x=true)->l.countP p=l.countP q->∀x∈l,q x=true->p x=true
 |[],_,_,x,b,_=>by cases b
 |y::r,hi,he,x,b,hq=>by
  have g:r.countP p<=r.countP q:=List.countP_mono_left λz d=>hi z (by simp[d])
  rw[List.countP_cons,List.countP_cons]at he;have f:=hi y (by simp);by_cases a:p y=true
  .rw[pP' a,pP' (f a)]at he;rcases List.mem_cons.1 b with rfl|b
   .exact a
   .exact Ii (λz d=>hi z (by simp[d])) (by omega) x b hq
  .rw[nN' a]at he;by_cases c:q y=true
   .rw[pP' c]at he;omega
   .rw[nN' c]at he;rcases List.mem_cons.1 b with rfl|b
    .exact absurd hq c
    .exact Ii (λz d=>hi z (by simp[d])) (by omega) x b hq
theorem aHw{D:List Mp}{k:Nat}(h:uP D k=uP D (k+1)):∀(j:Nat)(c:Int),ht D (k+j) c=true->ht D k c=true:=by
 have b:∀c,ht D (k+1) c=true->ht D k c=true:=by
  intro c a;by_cases f:aJ D c=[]
  .exact FN (by rw[f];rfl) k
  .obtain⟨m,g,rfl⟩:=Zp f;exact Ii (α:=Mp) (l:=D) (p:=λm=>ht D k m.lo) (q:=λm=>ht D (k+1) m.lo) (λx _ d=>BF k x.lo d) h m g a
 intro j
 induction j with
 |zero=>exact λc a=>a
 |succ j ih=>
  intro c a;refine b c ?_;rw[show k+(j+1)=(k+j)+1 from by omega,ht,List.all_eq_true]at a;rw[ht,List.all_eq_true];exact λx d=>ih x (a x d)
theorem Qy{D:List Mp}{K:Nat}{c:Int}(h:ht D K c=true):ht D D.length c=true:=by
 have b:∃k,k<=D.length/\uP D k=uP D (k+1):=by
  rcases Classical.em (∃k,k<=D.length/\uP D k=uP D (k+1))with d|d
  .exact d
  .exfalso;have a:∀k,k<=D.length+1->k<=uP D k:=by
    intro k
    induction k with
    |zero=>intro _;omega
    |succ k ih=>
     intro i;have f:=ih (by omega);have j:uP D k<=uP D (k+1):=List.countP_mono_left λx _ l=>BF k x.lo l
     have n:uP D k≠uP D (k+1):=λe=>d ⟨k,by omega,e⟩
     omega
   have f:=a (D.length+1) (lr' _);have j:uP D (D.length+1)<=D.length:=List.countP_le_length;omega
 obtain⟨k,i,m⟩:=b;have f:ht D k c=true:=by
  rcases Nat.le_total k K with g|g
  .exact aHw m (K-k) c (by rw[show k+(K-k)=K from by omega];exact h)
  .have:=FP h (k-K);rwa[show K+(k-K)=k from by omega]at this
 have:=FP f (D.length-k);rwa[show k+(D.length-k)=D.length from by omega]at this
theorem JB{D:List Mp}{c:Int}(j:D.length<=256)(h:dN D (D.length+1) c<=18):nU D c=(lv D (D.length+1) c,true):=by
 obtain⟨f,i⟩:=zy _ _ h;have d:=Qy f;have g:=IX D.length c d;have a:itE D D.length [c]=lv D (D.length+1) c:=by
  rw[JJ,List.flatMap_cons,List.flatMap_nil,List.append_nil,g]
 have b:lV D (itE D D.length [c])=true:=by
  rw[Jl];simp[d]
 rw[nU,PY 257 D.length [c] (by omega) b (by rw[a];omega),a]
theorem PX{D:List Mp}{c:Int}(l:D.length<=256):(nU D c).2=true↔dN D (D.length+1) c<=18:=by
 constructor
 .intro h;obtain⟨k,_,f,b⟩:=Qv 257 [c] h;rw[Jl]at f;have d:ht D k c=true:=by simpa using f
  have g:=Qy d;have a:(lv D (D.length+1) c).length<=18:=by
   rcases b with rfl|b
   .rw[ht]at d;rw[BJ d];simp
   .rw[JJ,List.flatMap_cons,List.flatMap_nil,List.append_nil]at b;have i:=F9 d (D.length+1);have j:=F9 (BF _ _ g) k;rw[show k+(D.length+1)=D.length+1+k from by omega]at i;rw[<- j,i];exact b
  exact Ro _ _ (BF _ _ g) a
 .intro h;rw[JB l h]
theorem OM{D:List Mp}(a:D.length<=256):∀L:List Mp,uD D (D.length+1) L=L.all λm=>(nU D m.lo).2
 |[]=>rfl
 |m::r=>by
  rw[uD,List.all_cons,OM a r];congr 1;cases h:(nU D m.lo).2
  .have:¬(dN D (D.length+1) m.lo<=18):=λb=>by rw[(PX a).2 b]at h;cases h
   rw[dt' (p:=18<dN D (D.length+1) m.lo) (by omega)];rfl
  .have:=(PX a).1 h;rw[df' (p:=18<dN D (D.length+1) m.lo) (by omega)];rfl
theorem OD(D:List Mp)(k:Nat):∀(l:List Int),l≠[]->ng (l.flatMap (lv D k))=ng (lv D k (ng l))
 |[],h=>absurd rfl h
 |[x],_=>by rw[List.flatMap_cons,List.flatMap_nil,List.append_nil];rfl
 |x::y::r,_=>by
  have d:=OD D k (y::r) (by simp);have f:0<((y::r).flatMap (lv D k)).length:=by
   have:=Jp D k y;rw[List.flatMap_cons,lA'];omega
  have c:∀(a b:List Int),0<b.length->ng (a++b)=ng b:=by
   intro a b g;unfold ng;rw[getD_lt _ _ _ (by simp;omega),getD_lt _ _ _ (by omega),List.getElem_append_right (by simp;omega)];congr 1;simp;omega
  rw[List.flatMap_cons,c _ _ f,d];congr 2
theorem OE(D:List Mp):∀(k:Nat)(c:Int),ng (lv D k c)=tV D k c
 |0,c=>rfl
 |k+1,c=>by
  rw[lv,tV];by_cases a:(aJ D c).isEmpty=true
  .rw[pP' a,List.isEmpty_iff.1 a];rfl
  .rw[nN' a];cases b:aJ D c with
   |nil=>rw[b]at a;simp at a
   |cons x r=>rw[OD D k (x::r) (by simp),OE D k]
theorem ZX{D:List Mp}(a:D.length<=256)(b:lH D)(c:Int):(nU D c).2=true/\0<(nU D c).1.length/\(nU D c).1.length<=18/\ng (nU D c).1=lastT D c:=by
 have h:=b c;rw[JB a h];have d:=(zy _ _ h).2;exact⟨rfl,Jp _ _ _,by simp only;omega,OE _ _ _⟩
theorem aJv(b:Int)(h:0<=b/\b<256)(w:World):cW' 300 #[.int .u8 b] w (.int .i64 ((fF b).getD (-1))):=by
 have a:Hid (fF b=if 97<=b/\b<=122 then some (b-97)else if 65<=b/\b<=90 then some (b-65)else if 48<=b/\b<=57 then some (b-22)else none):=rfl;generalize fF b=V at*;by_cases c:97<=b/\b<=122
 .rw[pP' c]at a;rw[a.out];go_enter func300,ntmps300;go_wp2
  all_goals(go_ret;exact⟨rfl,rfl⟩)
 rw[nN' c]at a;by_cases d:65<=b/\b<=90
 .rw[pP' d]at a;rw[a.out];go_enter func300,ntmps300;go_wp2
  all_goals(go_ret;exact⟨rfl,rfl⟩)
 rw[nN' d]at a;by_cases f:48<=b/\b<=57
 .rw[pP' f,show b-22=b-48+26 by omega]at a;rw[a.out];go_enter func300,ntmps300;go_wp2
  all_goals(go_ret;exact⟨rfl,rfl⟩)
 .rw[nN' f]at a;rw[a.out];go_enter func300,ntmps300;go_wp2
  all_goals(first|omega|(go_ret;exact⟨rfl,rfl⟩))
def aKQ(s:List Int)(k:Nat)(b:Int)(e:Ending):Prop:=
 (jl b ((s.drop k).map fF) 0 0 1=none/\e=.returned (.tuple #[.int .i64 0,.int .i64 0,.bool false]))\/
 ∃(v:Int)(m:Nat),jl b ((s.drop k).map fF) 0 0 1=some (v,(s.drop m).map fF)/\k<m/\m<=s.length/\0<=v/\v<=2147483648/\e=.returned (.tuple #[.int .i64 v,.int .i64 m,.bool true])
def aKp(s:List Int)(k0:Nat)(b:Int)(w:World)(g:Nat)(s1 s9 s10 s11:Value)(wx:World):Prop:=
 ∃(j:Nat)(v x:Int),g+j+k0=s.length/\s1=.int .i64 ((j+k0:Nat):Int)/\s11=.int .i64 j/\s9=.int .i64 v/\s10=.int .i64 x/\0<=v/\v<=2147483648/\1<=x/\x<=2147483648/\wx=w/\Hid (jl b ((s.drop k0).map fF) 0 0 1=jl b ((s.drop (j+k0)).map fF) j v x)
theorem aKC(s:List Int)(N:IsB s)(hm:s.length<=4096)(f:Nat)(a1:f<=s.length)(b:Int)(hb: -100000<=b/\b<=100000)(w:World):Calls prog 262 #[.string (sB s),.int .i64 f,.int .i64 b] w λe w'=>aKQ s f b e/\w=w':=by
 have J:=ah N;clear N;go_enter func262,ntmps262;go_wp2;go_loopg[1,9,10,11] (s.length-f) (λO P Q A B R=>aKp s f b w O P Q A B R);exact⟨0,0,1,by omega,by simp,rfl,rfl,rfl,by omega,by omega,by omega,by omega,rfl,by rw[Nat.zero_add];rfl⟩;obtain⟨j,v,x,hg,rfl,rfl,rfl,rfl,S,T,U,l,rfl,c⟩:=hrel;obtain⟨a,V⟩:=eY' (j+f);rw[V]at c |-;by_cases C:a<s.length
 .have hx:=ixc J.out C wr;have W:=wH J.out a;have m:Hid ((s.drop a).map fF=fF (s.getD a 0)::(s.drop (a+1)).map fF):=ah (by rw[drop_at s a C,List.map_cons,getD_lt s a 0 C]);have z:=ah (aJv (s.getD a 0) W wr);have D:(0:Int)<=(j:Int)/\(j:Int)<=4096:=by omega
  have ht:=AA j b;have K:=ah (λw=>Rx j b D hb w);cases g:fF (s.getD a 0)with
  |none=>
   rw[g]at m z;have E:Hid (jl b ((s.drop f).map fF) 0 0 1=none):=ah (by rw[c.out,m.out];rfl);generalize s.getD a 0=y at*;clear K ht;go_wp2_with fail;refine z.out.mono ?_;rintro e w'⟨rfl,rfl⟩;simp only[Option.getD];go_wp2;go_ret3;exact⟨.inl ⟨E.out,rfl⟩,rfl⟩
  |some d=>
   rw[g]at m z;have F:=Sj g;have G:=GH F.1 (by omega) (by omega) l;have L:Hid (jl b (some d::(s.drop (a+1)).map fF) j v x=if d<gB j b then some (min (v+d*x) qG,(s.drop (a+1)).map fF)else jl b ((s.drop (a+1)).map fF) (j+1) (min (v+d*x) qG) (min (x*(36-gB j b)) qG)):=rfl;rw[m.out,L.out]at c;generalize s.getD a 0=y at*;generalize gB j b=t at*;clear L m;have n:=GH (d:=36-t) (by omega) (by omega) (by omega) l;rw[Int.mul_comm]at n;obtain⟨p,X⟩:=eY' (d*x);obtain⟨q,Y⟩:=eY' (x*(36-t));rw[X]at G c;rw[Y]at n c;have h:0<=min 2147483648 (v+p)/\min 2147483648 (v+p)<=2147483648:=(by omega);obtain⟨u,M⟩:=eY' (min 2147483648 (v+p));have Z:Hid (min (v+p) qG=u):=ah (by rw[<- M,Int.min_comm];rfl);rw[M]at h;rw[Z.out]at c;have k:1<=min 2147483648 q/\min 2147483648 q<=2147483648:=by
    have:x*1<=x*(36-t):=Int.mul_le_mul_of_nonneg_left (by omega) (by omega);omega
   obtain⟨o,r⟩:=eY' (min 2147483648 q);have HQ:Hid (min q qG=o):=ah (by rw[<- r,Int.min_comm];rfl);rw[r]at k;rw[HQ.out]at c;go_wp2_with fail;refine z.out.mono ?_;rintro e w'⟨rfl,rfl⟩;simp only[Option.getD];go_wp2_with fail;refine(K.out _).mono ?_;rintro e w'⟨rfl,rfl⟩;by_cases i:d<t
   .rw[pP' i]at c;have H:decide (d<t)=true:=(by rw[au];exact i);go_wp2;go_ret3;exact⟨.inr ⟨u,a+1,c.out,by omega,by omega,h.1,h.2,rfl⟩,rfl⟩
   .rw[nN' i]at c;have H:decide (d<t)=false:=(by rw[aA];exact i);have I:Hid (jl b ((s.drop f).map fF) 0 0 1=jl b ((s.drop (a+1)).map fF) ((j+1:Nat):Int) u o):=c;go_wp2;go_roundg (s.length-f-(j+1));exact⟨j+1,u,o,by omega,by rw[show j+1+f=a+1 by omega];go_num,by go_num,rfl,rfl,h.1,h.2,k.1,k.2,rfl,by rw[show j+1+f=a+1 by omega];exact I⟩;omega
 .have F:s.drop a=[]:=bM s a (by omega);have E:Hid (jl b ((s.drop f).map fF) 0 0 1=none):=ah (by rw[c.out,F];rfl);go_wp2;go_ret3;exact⟨.inl ⟨E.out,rfl⟩,rfl⟩
theorem aLJ{w:World}{A:Option Addr}{n c M:Nat}{l:List Int}(h:aC w ⟨A,n,c⟩ l)(o:M<=l.length):
 (∀W,(Instr.slice 22 (.slice A n c) none (some (.int .i64 (M:Int))) none).run prog W=.ok (.slice A M c) W)/\aC w ⟨A,M,c⟩ (l.take M):=by
 obtain⟨j,k,d⟩:=h.len;have ht:prog.underlying 22=some (.slice (prog.elem 22)):=by kernel_rfl
 obtain⟨m,b,_,f,_⟩:=info_parts infoInt;have g:∀W,(Go.sizeOf (prog.elem 22)).run prog W=.ok 1 W:=λW=>by
  show(Go.sizeOf 3).run prog W=_
  simp[Go.sizeOf,typeInfo,b,f]
 refine⟨λW=>?_,⟨⟨by simp;omega,by simp only[List.length_take];omega,d⟩,λi x a=>?_⟩⟩
 .rw[run_slice_h W 22 A n c ht .i64 (M:Int) (aZ _) (by omega),g];simp only[Result.andThen_ok,sliced,Nat.zero_mul,Nat.sub_zero,Int.toNat_natCast];cases A<;>simp[Addr.add]
 .rw[List.getElem?_take]at a;split at a
  .exact h.2 i x a
  .cases a
theorem aLK{w:World}{A:Option Addr}{n c M:Nat}{l:List Int}(h:aC w ⟨A,n,c⟩ l)(y:M<=l.length):
 ∃A',(∀W,(Instr.slice 22 (.slice A n c) (some (.int .i64 (M:Int))) none none).run prog W=.ok (.slice A' (n-M) (c-M)) W)/\aC w ⟨A',n-M,c-M⟩ (l.drop M):=by
 obtain⟨q,r,s⟩:=h.len;have ht:prog.underlying 22=some (.slice (prog.elem 22)):=by kernel_rfl
 obtain⟨t,a,_,j,_⟩:=info_parts infoInt;have k:∀W,(Go.sizeOf (prog.elem 22)).run prog W=.ok 1 W:=λW=>by
  show(Go.sizeOf 3).run prog W=_
  simp[Go.sizeOf,typeInfo,a,j]
 refine⟨if c=M then A else A.map (·.add (M*1)),λW=>?_,⟨⟨by simp;omega,by simp only[List.length_drop];omega,by simp only[maxLen];omega⟩,λi x d=>?_⟩⟩
 .rw[run_slice_l W 22 A n c ht .i64 (M:Int) (aZ _) (by omega),k];simp only[Result.andThen_ok,sliced,Int.toNat_natCast]
 .rw[List.getElem?_drop]at d;have m:=(List.getElem?_eq_some_iff.1 d).1;obtain⟨b,o,f,p⟩:=h.2 _ _ d;simp only at f;subst f;rw[nN' (by omega)];refine⟨b,o+M,?_,by rw[Nat.add_assoc];exact p⟩;simp only[Option.map_some,Nat.mul_one,Addr.add];by_cases g:M=0
  .subst g;simp
  .simp[g]
def aKf(s:List Int)(w:World)(g:Nat)(s4 s5:Value)(wx:World):Prop:=
 ∃k:Nat,1<=k/\s.length<=g+k/\(k<=s.length\/k=1)/\s5=.int .i64 k/\s4=.int .i64 ((je 45 s k).toNat:Int)/\wx=w
def aKx(w:World)(s:List Int)(H:Nat)(g:Nat)(s6 s7:Value)(wx:World):Prop:=
 ∃(A:Option Addr)(c k:Nat),g+k=H/\s7=.int .i64 k/\s6=.slice A k c/\aK wx w.heap.size A k c (s.take k)/\Ext w wx/\Hid ((s.take k).any (λb=>decide (128<=b))=false)
def KW(w:World)(s:List Int)(D:List Int×Int)(g:Nat)(s6 s8 s9 s10 s11 s12:Value)(wx:World):Prop:=
 ∃(A:Option Addr)(N c a:Nat)(o:List Int)(n i b:Int)(f:Bool),s6=.slice A N c/\s8=.int .i64 a/\s12=.bool f/\s9=.int .i64 n/\s10=.int .i64 i/\s11=.int .i64 b/\Hid (N=o.length)/\a<=s.length/\s.length<=g+a/\N+(s.length-a)<=2048/\
  Hid (aC wx ⟨A,N,c⟩ o)/\Hid (Ext w wx)/\0<=n/\n<=1114111/\0<=i/\i<=N/\0<=b/\b<=2400/\Hid (D=resD (decP g ((s.drop a).map fF) o n i b f))
theorem aKV(s:List Int)(hs:IsB s)(w:World):Calls prog 204 #[.string (sB s)] w (Cj w (pdU s)):=by
 have d:Hid (pdU s=if 2048<s.length then([],7)else if(s.take (hyB s)).any (λb=>decide (128<=b))then([],12)else resD (decP (pz s).length ((pz s).map fF) (s.take (hyB s)) 128 0 72 true)):=rfl;have HL:=ah hs;generalize pdU s=D at*;clear hs;by_cases h1:2048<s.length
 .rw[pP' h1]at d;go_enter func204,ntmps204;go_wp2;go_ret2;exact⟨none,0,0,by rw[d.out];rfl,by rw[d.out];exact aC.nil_ w,eR'⟩
 rw[nN' h1]at d;have t:Hid (pz s=if hyB s=0 then s else s.drop (hyB s+1)):=rfl;have O:Hid (hyB s=(je 45 s s.length).toNat):=rfl;go_enter func204,ntmps204;go_wp2;go_loopg[4,5] s.length (λP s4 s5 R=>aKf s w P s4 s5 R);exact⟨1,by omega,by omega,.inr rfl,rfl,by simp only[je];split<;>rfl,rfl⟩;obtain⟨k,bA,hg,ap,rfl,rfl,rfl⟩:=hrel;have aq:=Gz 45 s k;by_cases hk:k<s.length
 .have hx:=ixc HL.out hk wr;have q:Hid (je 45 s (k+1)=if s.getD k 0=45 then(k:Int)else je 45 s k):=rfl;generalize s.getD k 0=y at*;by_cases hy:y=45
  .have S:Hid ((je 45 s (k+1)).toNat=k):=ah (by rw[q.out,pP' hy];omega);go_wp2;go_roundg (s.length-(k+1));exact⟨k+1,by omega,by omega,.inl (by omega),by go_num,by rw[S.out],rfl⟩;omega
  .have S:Hid (je 45 s (k+1)=je 45 s k):=ah (by rw[q.out,nN' hy]);have e1:(y==45)=false:=(by rw[aH];exact hy);go_wp2;go_roundg (s.length-(k+1));exact⟨k+1,by omega,by omega,.inl (by omega),by go_num,by rw[S.out],rfl⟩;omega
 .have hH:(je 45 s k).toNat=hyB s:=by
   rw[O.out];rcases ap with h|h
   .rw[show k=s.length by omega]
   .rcases Nat.eq_zero_or_pos s.length with J|J
    .have e:s=[]:=List.eq_nil_of_length_eq_zero J;subst e;subst h;rfl
    .rw[show k=s.length by omega]
  have bB:hyB s+1<=s.length\/hyB s=0:=by
   have:=Gz 45 s s.length;rw[O.out];omega
  rw[hH];clear hH O aq;generalize hyB s=H at*;go_wp2_with fail;generalize wr=w at*;go_loopg[6,7] H (λP s6 s7 R=>aKx w s H P s6 s7 R);exact⟨none,0,0,by omega,rfl,rfl,Own.nil_ _ _ _ _,eR',rfl⟩;obtain⟨A,c,j,bC,rfl,rfl,K,r,HN⟩:=hrel;have T:=ah K;have q:=ah r;clear K r;by_cases hj:j<H
  .have x:j<s.length:=by omega
   have hx:∀W,(Instr.index 9 (.string (sB s)) (.int .i64 (j:Int))).run prog W=.ok (.int .u8 (s.getD j 0)) W:=ixc HL.out x;have hr:=wH HL.out j;have U:=ah (xC (f:=λb=>decide (128<=b)) x);have hT:s.take (j+1)=s.take j++[s.getD j 0]:=(by rw[tS' x,getD_lt s j 0 x]);have HT:=ah hT;have HM:Hid (s.getD j 0∈s.take H):=ah (by rw[getD_lt s j 0 x,List.mem_take_iff_getElem];exact⟨j,by omega,rfl⟩);rw[<- getD_lt s j 0 x]at U;clear hT;generalize s.getD j 0=y at*;by_cases bi:127<y
   .have L:Hid (D=([],12)):=ah (by rw[d.out,pP' (List.any_eq_true.2 ⟨y,HM.out,by simp;omega⟩)]);have r:=q.out;go_wp2;go_ret2;exact⟨none,0,0,by rw[L.out];rfl,by rw[L.out];exact aC.nil_ _,r⟩
   .have aw:Hid ((s.take (j+1)).any (λb=>decide (128<=b))=false):=ah (by rw[U.out,HN.out];simp;omega);obtain⟨A5,c5,w5,a5,z,a6,_⟩:=xA T.out q.out y (by omega);have bI:Hid (aK w5 w.heap.size A5 (j+1) c5 (s.take (j+1))):=ah (by rw[HT.out];exact z);have dS:=ah a6;clear z a6 HN U HM;go_wp2_with(at_builtin;refine dA rfl _ _ _ rfl _ _ rfl rfl _ _ a5 ?_);go_roundg (H-(j+1));exact⟨A5,c5,j+1,by omega,by go_num,rfl,bI.out,dS.out,aw⟩;omega
  .have ax:j=H:=by omega
   subst ax;rw[nN' (by rw[HN.out];simp)]at d;have a7:Hid (j=(s.take j).length):=ah (by rw[List.length_take];omega);have HI:=ah (aK.ints T.out)
   have G:Hid (∀a:Nat,pz s=s.drop a->a<=s.length->j<=a->KW w s D (pz s).length (.slice A j c) (.int .i64 a) (.int .i64 128) (.int .i64 0) (.int .i64 72) (.bool true) wr):=ah (λa e ha bE=>
    ⟨A,j,c,a,s.take j,128,0,72,true,rfl,rfl,rfl,rfl,rfl,rfl,a7,ha,by rw[e,List.length_drop];omega,by omega,HI,q,by omega,by omega,by omega,by omega,by omega,by omega,by rw[<- e];exact d⟩)
   clear HN T HI q a7 d;generalize wr=w3 at*;by_cases J:j=0
   case' pos=>
    rw[pP' J]at t;have az:decide ((0:Int)<(j:Int))=false:=dF';have aD:decide (0<j)=false:=dF';have B:=ah (G.out j (by rw[t.out,J];rfl) (by omega) (lr' _));clear G J t;go_wp2;go_loopg[6,8,9,10,11,12] (pz s).length (λP s6 s8 s9 V X Y R=>KW w s D P s6 s8 s9 V X Y R)
    case atStart=>exact B.out
   case' neg=>
    rw[nN' J]at t;have az:decide ((0:Int)<(j:Int))=true:=dT';have aD:decide (0<j)=true:=dT';have B:=ah (G.out (j+1) t.out (by omega) (by omega));clear G J t
    push_cast at B
    go_wp2;go_loopg[6,8,9,10,11,12] (pz s).length (λP s6 s8 s9 V X Y R=>KW w s D P s6 s8 s9 V X Y R)
    case atStart=>exact B.out
   all_goals
    clear B;obtain⟨A,N,c,a,o,n,i,b,f,rfl,rfl,rfl,rfl,rfl,rfl,a8,aM,bG,bH,T,q,bL,bN,bO,bQ,bR,bS,d⟩:=hrel;by_cases ha:a<s.length
    .obtain⟨g',rfl⟩:=gS' gk;rw[KI (by intro h;have:=congrArg List.length h;simp at this;omega)]at d;have aW: -100000<=b/\b<=100000:=(by omega);have a9:=ah (aKC s HL.out (by omega) a aM b aW wr);have C:=a8.out;subst C;clear a8;go_wp2_with fail;refine a9.out.mono ?_;rintro e w4⟨b0,rfl⟩;clear a9;rcases b0 with⟨hn,rfl⟩|⟨v,m,hn,bT,bU,bX,c0,rfl⟩
     .rw[hn]at d;have L:Hid (D=([],12)):=d;have r:=q.out;clear hn d;go_wp2;go_ret2;exact⟨none,0,0,by rw[L.out];rfl,by rw[L.out];exact aC.nil_ _,r⟩
     .rw[hn]at d;simp only at d;clear hn;by_cases Z:2147483647<v
      .rw[pP' (.inl Z)]at d;have b1:decide (2147483647<v)=true:=(by rw[au];exact Z);have r:=q.out;go_wp2;go_ret2;exact⟨none,0,0,by rw[d.out];rfl,by rw[d.out];exact aC.nil_ _,r⟩
      have b1:decide (2147483647<v)=false:=(by rw[aA];exact Z);have b3:0<=(v+i) / ((o.length:Int)+1):=Int.ediv_nonneg (by omega) (by omega);have b4:(v+i) / ((o.length:Int)+1)<=v+i:=Int.ediv_le_self _ (by omega);have b5:=Int.emod_nonneg (v+i) (b:=(o.length:Int)+1) (by omega);have b6:=Int.emod_lt_of_pos (v+i) (b:=(o.length:Int)+1) (by omega);obtain⟨Q,hQ⟩:=eY' ((v+i) / ((o.length:Int)+1));obtain⟨M,hM⟩:∃M:Nat,(v+i) % ((o.length:Int)+1)=M:=⟨((v+i) % ((o.length:Int)+1)).toNat,by omega⟩;rw[hQ,hM]at d;rw[hQ]at b3 b4;rw[hM]at b5 b6;by_cases C:1114111<n+Q
      .rw[pP' (.inr C)]at d;have b8:decide (1114111<n+Q)=true:=(by rw[au];exact C);have r:=q.out;go_wp2;go_ret2;exact⟨none,0,0,by rw[d.out];rfl,by rw[d.out];exact aC.nil_ _,r⟩
      have b8:decide (1114111<n+Q)=false:=(by rw[aA];exact C);rw[nN' (by omega)]at d;go_wp2_with fail;go_quiet (fail);go_wp2_with fail;rw[hM];rw[Int.toNat_natCast]at d;have dS:Hid (Ext w (wr.drewN nq)):=ah (q.out.lJ nq);have bI:Hid (aC (wr.drewN nq) ⟨A,o.length,c⟩ o):=ah (T.out.ext (eR'.lJ nq));clear hM hQ q T;generalize wr.drewN nq=w5 at*;refine(yQ _ _).mono ?_;rintro e w'⟨rfl,rfl⟩;cases a0:bn (n+Q)
      .rw[pP' ((utfLen_eq_zero _).2 a0)]at d;have r:=dS.out;go_wp2;go_ret2;exact⟨none,0,0,by rw[d.out];rfl,by rw[d.out];exact aC.nil_ _,r⟩
      rw[nN' (RI a0)]at d;have ab:(1:Int)<=(o.length:Int)+1/\(o.length:Int)+1<=4096:=(by omega);have ac:0<=v/\v<2147483648:=(by omega);have ad:=ah (λw=>Ry v ((o.length:Int)+1) f ac ab w);have a1:=Gm (f:=f) ac.1 ab.1;obtain⟨b2,ae⟩:=eY' (nJ v ((o.length:Int)+1) f);rw[ae]at ad a1 d;have a2:M<=o.length:=(by omega);have ba:=ah (AP o M (n+Q) a2);obtain⟨c1,SB⟩:=aLJ bI.out a2;obtain⟨A2,c2,SC⟩:=aLK bI.out a2;obtain⟨A6,c6,w6,g,p,EF,_⟩:=fQ (n:=0) (c:=0) (l:=[]) (Own.nil_ w5 w5.heap.size 3 1) SB (by omega) (lr' _);simp only[Nat.zero_add,List.nil_append]at g p;have af:Ext w5 w6:=dV eR' EF (by simp[aF]);obtain⟨A7,c7,w7,E,rG,I,_⟩:=xA p af (n+Q) (by omega);obtain⟨A8,c8,w8,F,wJ,vG,_⟩:=fQ rG (SC.ext I) (by omega) I.b.size;have ag:Ext w5 w8:=dV I vG (λk hk=>(Own.lt rG k hk).1)
      have bc:Hid (aC w8 ⟨A8,M+1+(o.length-M),c8⟩ (pq o M (n+Q))):=ah (by
       have h:=aK.ints wJ
       simpa[pq]using h)
      have rV:=ah (dS.out.trans' ag);clear ae a0 p rG wJ EF vG af I ag SB SC;go_wp2_with fail;refine(ad.out _).mono ?_;rintro e w'⟨rfl,rfl⟩
      go_wp2_with(at_builtin;first
       |(refine dA rfl _ _ _ rfl _ _ rfl rfl _ _ g ?_;clear g)
       |(refine dA rfl _ _ _ rfl _ _ rfl rfl _ _ E ?_;clear E)
       |(refine dA rfl _ _ _ rfl _ _ rfl rfl _ _ F ?_;clear F))
      go_roundg g';exact⟨A8,M+1+(o.length-M),c8,m,pq o M (n+Q),n+Q,(M:Int)+1,b2,false,rfl,rfl,rfl,rfl,rfl,rfl,ah (by rw[ba.out];omega),by omega,by omega,by omega,bc,rV,by omega,by omega,by omega,by omega,a1.1,a1.2,d⟩;omega
    .have L:Hid (D=(o,0)):=ah (by rw[d.out,bM s a (by omega)];cases gk<;>rfl);have r:=q.out;have hi:=T.out;clear d;go_wp2;go_ret2;exact⟨A,N,c,by rw[L.out];rfl,by rw[L.out];exact hi,r⟩
end Go.Proofs.YtljilcbobhmkgaaGreatDoor
