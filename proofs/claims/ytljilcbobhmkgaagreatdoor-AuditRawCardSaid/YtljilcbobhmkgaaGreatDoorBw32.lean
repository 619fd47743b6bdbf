/- Part Bw32. -/
import Derived.Laws.ResultCell
import Derived.Test.YtljilcbobhmkgaaGreatDoorBw31
import Derived.Lib.AppendZerosOnto
import Derived.Lib.Overlaps
import Derived.Laws.Cover1
import Derived.Deep.WholeRow
import Derived.Laws.Tables
open Go.Proofs.Tryz
namespace Go.Proofs.YtljilcbobhmkgaaGreatDoor
set_option maxHeartbeats 25600000
set_option maxRecDepth 100000
open Go.RowKit
variable (T:ak)(t:TV)(s:List Int)(w:World)
abbrev Rc:=Int×Int×List Int×Int
abbrev rcC(r:Rc):Array Value:= #[.int .i64 r.1,.int .i64 r.2.1,.string (sB r.2.2.1),.int .i64 r.2.2.2]
abbrev rcV(r:Rc):Value:=.agg (rcC r)
abbrev cfV(a b:Int):Value:=.agg #[.int .i64 a,.int .i64 b]
def nK(r:Rc):Bool:=(r.1==0&&r.2.1==0&&r.2.2.1.isEmpty&&r.2.2.2==0)||(!(decide (r.2.1<0)||decide (64<=r.2.1)||r.2.2.1.isEmpty||decide (63<r.2.2.1.length))&&if r.1=1 then decide (1<=r.2.2.2)&&decide (r.2.2.2<=1073741824)else if r.1=2 then r.2.2.2==0 else false)
def cfE(a b:Int):Int:=if a<1\/64<a\/b<1\/64<b then 3 else 0
theorem b23(a b:Int)(w:World):cE' 95 #[cfV a b] w (.int .i64 (cfE a b)):=by
 have h:Ext w (w.alloc (.cells #[.int .i64 a,.int .i64 b] 28)):=eR'.ay _;obtain⟨c,i⟩:=eY' (decide (a<1));obtain⟨d,j⟩:=eY' (decide (64<a));obtain⟨f,k⟩:=eY' (decide (b<1));obtain⟨g,l⟩:=eY' (decide (64<b))
 have m:Hid (cfE a b=if(c||d||f||g)=true then 3 else 0):=ah (by
  rw[<- i,<- j,<- k,<- l,cfE]
  simp only[oT',au,or_assoc])
 cases c<;>cases d<;>cases f<;>cases g
 all_goals
  go_enter func95,ntmps95;go_wp2;go_ret;exact⟨by rw[m.out];rfl,h⟩
theorem b2B(a b:Int)(w:World):Calls prog 54 #[cfV a b] w λe w'=>∃v,e=.returned (.tuple #[v,.int .i64 (cfE a b)])/\Ext w w':=by
 have h:Ext w (w.alloc (.cells #[.int .i64 a,.int .i64 b] 28)):=eR'.ay _;have l:=ah h;obtain⟨f,i⟩:=eY' (cfE a b);have g:=ah i;clear i h;go_enter func54,ntmps54;go_wp2_with fail;refine(b23 a b _).mono ?_;rintro e j⟨rfl,d⟩;have k:=ah (l.out.trans' d);have o:j.cell? ⟨w.heap.size,0,none⟩=some (.int .i64 a):=aP d 0;have p:j.cell? ⟨w.heap.size,1,none⟩=some (.int .i64 b):=aP d 1;rw[g.out];clear d;by_cases c:f=0
 .have m:(f != 0)=false:=bZ' c;have n:=ah c;clear c;go_wp2;go_ret2;exact⟨_,by rw[g.out,n.out];rfl,(k.out.ay _).ay _⟩
 .have m:(f != 0)=true:=bN' c;clear c;go_wp2;go_ret2;exact⟨_,by rw[g.out];rfl,k.out⟩
theorem b2J(r:Rc)(w:World)(P:IsB r.2.2.1):cE' 42 #[rcV r] w (.bool (nK r)):=by
 obtain⟨s,o,a,d⟩:=r;simp only[]at P;have n:Ext w (w.alloc (.cells #[.int .i64 s,.int .i64 o,.string (sB a),.int .i64 d] 43)):=eR'.ay _;have J:((sB a).size:Int)=(a.length:Int):=by rw[rH]
 have q:=sO a;by_cases t:s=0/\o=0/\a=[]/\d=0
 .obtain⟨rfl,rfl,rfl,rfl⟩:=t;go_enter func42,ntmps42;go_wp2;go_ret;exact⟨rfl,n⟩
 .have b:Hid (nK (s,o,a,d)=(!(decide (o<0)||decide (64<=o)||a.isEmpty||decide (63<a.length))&&if s=1 then decide (1<=d)&&decide (d<=1073741824)else if s=2 then d==0 else false)):=ah (by
   unfold nK;simp only[];have:(s==0&&o==0&&a.isEmpty&&d==0)=false:=by
    rw[<- Bool.not_eq_true];intro h;simp only[aT,bq',List.isEmpty_iff]at h;exact t ⟨h.1.1.1,h.1.1.2,h.1.2,h.2⟩
   rw[this,Bool.false_or])
  have K:(∃c f,decide (o<0)=c/\decide (64<=o)=f/\((c=true)\/(c=false/\f=true)\/(c=false/\f=false))):=⟨_,_,rfl,rfl,by cases decide (o<0)<;>cases decide (64<=o)<;>simp⟩;obtain⟨c,f,E,L,x⟩:=K;rw[E,L]at b;cases y:a.isEmpty with
  |true=>
   rw[y]at q b;have F:(s==0)=false\/(o==0)=false\/(d==0)=false:=by
    have M:a=[]:=List.isEmpty_iff.1 y;by_cases H:s=0
    .by_cases E:o=0
     .exact .inr (.inr (by rw[aH];exact λh=>t ⟨H,E,M,h⟩))
     .exact .inr (.inl (by rw[aH];exact E))
    .exact .inl (by rw[aH];exact H)
   have g:Hid (nK (s,o,a,d)=false):=ah (by rw[b.out];cases c<;>cases f<;>rfl);clear t b y;rcases F with z|z|z<;>rcases x with rfl|⟨rfl,rfl⟩|⟨rfl,rfl⟩
   all_goals
    go_enter func42,ntmps42;go_wp2;go_ret;exact⟨by rw[g.out];rfl,n⟩
  |false=>
   rw[y]at q b;have G:∃j,decide (63<a.length)=j/\decide ((63:Int)<(a.length:Int))=j:=⟨_,rfl,by rw[decide_eq_decide];omega⟩;obtain⟨j,N,O⟩:=G;rw[N]at b;have k:(∃A B,(s==1)=true/\decide (1<=d)=A/\decide (d<=1073741824)=B/\Hid ((if s=1 then decide (1<=d)&&decide (d<=1073741824)else if s=2 then d==0 else false)=(A&&B)))\/(s==1)=false/\((∃C,(s==2)=true/\(d==0)=C/\Hid ((if s=1 then decide (1<=d)&&decide (d<=1073741824)else if s=2 then d==0 else false)=C))\/(s==2)=false/\Hid ((if s=1 then decide (1<=d)&&decide (d<=1073741824)else if s=2 then d==0 else false)=false)):=by
    by_cases l:s=1
    .exact .inl ⟨_,_,by rw[bq'];exact l,rfl,rfl,ah (by rw[pP' l])⟩
    .refine .inr ⟨by rw[aH];exact l,?_⟩;by_cases p:s=2
     .exact .inl ⟨_,by rw[bq'];exact p,rfl,ah (by rw[nN' l,pP' p])⟩
     .exact .inr ⟨by rw[aH];exact p,ah (by rw[nN' l,nN' p])⟩
   obtain⟨I,D⟩:∃I,(if s=1 then decide (1<=d)&&decide (d<=1073741824)else if s=2 then d==0 else false)=I:=⟨_,rfl⟩;rw[D]at k b;have m:((c||f||false||j)=true/\(c=true\/c=false/\f=true\/c=false/\f=false/\j=true))\/(c=false/\f=false/\j=false):=(by cases c<;>cases f<;>cases j<;>simp);clear t y D x;rcases m with⟨x,m⟩|⟨rfl,rfl,rfl⟩
   .have g:Hid (nK (s,o,a,d)=false):=ah (by rw[b.out,x];rfl);clear b k x;rcases m with rfl|⟨rfl,rfl⟩|⟨rfl,rfl,rfl⟩
    all_goals
     go_enter func42,ntmps42;go_wp2;go_ret;exact⟨by rw[g.out];rfl,n⟩
   .rcases k with⟨A,B,l,Q,R,i⟩|⟨l,⟨C,p,S,i⟩|⟨p,i⟩⟩
    .have g:Hid (nK (s,o,a,d)=(A&&B)):=ah (by rw[b.out,i.out];rfl);clear b i;cases A<;>cases B
     all_goals
      go_enter func42,ntmps42;go_wp2;go_ret;exact⟨by rw[g.out];rfl,n⟩
    .have g:Hid (nK (s,o,a,d)=C):=ah (by rw[b.out,i.out];rfl);clear b i;cases C
     all_goals
      go_enter func42,ntmps42;go_wp2;go_ret;exact⟨by rw[g.out];rfl,n⟩
    .have g:Hid (nK (s,o,a,d)=false):=ah (by rw[b.out,i.out];rfl);clear b i;go_enter func42,ntmps42;go_wp2;go_ret;exact⟨by rw[g.out];rfl,n⟩
def pG:Nm:=([],[],[])
abbrev nmV(p:Nm):Value:=.agg #[.string (sB p.1),.string (sB p.2.1),.string (sB p.2.2)]
abbrev og:Array Value:= #[.string ⟨#[]⟩,.string ⟨#[]⟩,.string ⟨#[]⟩]
noncomputable def zO(T:ak)(s l:List Int):Nm×Int:=if 4<sG T l then(pG,20)else if(kQ T l).2≠0 then(pG,(kQ T l).2)else if(kQ T l).1.length=0 then(pG,10)else(((fB T s).1,(uniD T s).1,(kQ T l).1),0)
noncomputable def mF(T:ak)(s:List Int):Nm×Int:=if(fB T s).2.2≠0 then(pG,(fB T s).2.2)else if(dO T s).1.length≠1 then(pG,21)else zO T s ((dO T s).1.getD 0 [])
def Ht(w:World)(d:Nm×Int)(e:Ending)(w':World):Prop:=e=.returned (.tuple #[nmV d.1,.int .i64 d.2])/\Ext w w'
theorem qJ{w w':World}{A:Obj}{a:Array Value}{ty:TypeId}(h:Ext ((w.alloc A).alloc (.cells a ty)) w'):w'.heap[w.heap.size+1]? =some (.cells a ty (0,0)):=
 (h.b.block _ (by simp)).trans (heap_alloc2_new w _ _)
theorem vw{w w':World}{g:Nat}(h:Ext w w')(d:w.heap.size<=g)(c:Array Value):Ext w (w'.setRow g c):=
 dV (row:=some g) h ⟨rfl,rfl,rfl,by simp[World.setRow],λk a b=>setRow_other _ _ _ _ λe=>b (by rw[e])⟩ (λk a=>by injection a with a;omega)
theorem results_cell_row_tmp{c:Func}{p u:Tmp}{ty:TypeId}(h:c.results= #[.cell p ty,.tmp u])(a:Array Value)(w:World)(g:Nat)(t:TypeId)(b:Array Value)(d:Nat×Nat){fs}
 (f:a.getD p undef=.pointer (some ⟨g,0,none⟩)) (i:w.heap[g]? =some (.cells b t d))
 (j:prog.underlying ty=some (.struct fs)) (k:(prog.info? ty).map (·.size)=some b.size):
 (results c a).run prog w=.ok (.tuple #[.agg b,a.getD u undef]) w:=by
 rw[results_cell_tmp h,f];simp[asAddr,Result.andThen,run_loadVar_row w g t ty b d (.struct fs) i j rfl k]
theorem qI(a b c:ByteArray):(#[.string a,.string b,.string c]:Array Value).all (·.oneCell')=true:=by simp[Value.oneCell']
theorem aZN(ht:aS w t T)(hs:IsB s):Calls prog 44 #[t.v,.string (sB s)] w (Ht w (mF T s)):=by
 obtain⟨I,y⟩:=eX' ((w.alloc (.cells #[.slice t.s0.a t.s0.n t.s0.c,.slice t.s1.a t.s1.n t.s1.c,.slice t.s2.a t.s2.n t.s2.c,.slice t.s3.a t.s3.n t.s3.c,.slice t.s4.a t.s4.n t.s4.c,.slice t.s5.a t.s5.n t.s5.c,.slice t.s6.a t.s6.n t.s6.c,.slice t.s7.a t.s7.n t.s7.c,.slice t.s8.a t.s8.n t.s8.c,.slice t.s9.a t.s9.n t.s9.c,.slice t.s10.a t.s10.n t.s10.c,.slice t.s11.a t.s11.n t.s11.c] 26)).alloc (.cells og 84));have K:Ext w I:=by rw[y];exact(eR'.ay _).ay _
 have j:=ah K;have HT:=ah (ht.aB K);have M:Hid (∀f,Ext I f->∀k:Nat,f.cell? ⟨w.heap.size,k,none⟩=t.v.cells[k]?):=ah (λf h=>aP ((eR'.ay _).trans' (by rw[y]at h;exact h)));have g:Hid (∀f,Ext I f->f.heap[w.heap.size+1]? =some (.cells og 84 (0,0))):=ah (λf h=>qJ (by rw[y]at h;exact h));have C1:Hid (∀f,Ext I f->Calls prog 70 #[t.v,.string (sB s)] f (zN f (fB T s))):=ah (λf h=>aSS T t s f (HT.out.aB h) hs);have C2:Hid (∀f,Ext I f->Calls prog 71 #[t.v,.string (sB s)] f (zN f (uniD T s))):=ah (λf h=>aSW T t s f (HT.out.aB h) hs);have C3:Hid (∀f,Ext I f->Calls prog 72 #[t.v,.string (sB s)] f (He f (dO T s))):=ah (λf h=>V4 T t s f (HT.out.aB h) hs);have HD:Hid (mF T s=if(fB T s).2.2≠0 then(pG,(fB T s).2.2)else if(dO T s).1.length≠1 then(pG,21)else zO T s ((dO T s).1.getD 0 [])):=rfl;have fZ:Hid (∀l,zO T s l=if 4<sG T l then(pG,20)else if(kQ T l).2≠0 then(pG,(kQ T l).2)else if(kQ T l).1.length=0 then(pG,10)else(((fB T s).1,(uniD T s).1,(kQ T l).1),0)):=ah λ_=>rfl
 have HU:Hid ((fB T s).2.2=0->(uniD T s).2.2=0):=ah λh=>by rw[(uni_ok h).2]
 have HP:Hid ((fB T s).2.2=0->(dO T s).2.2=0/\∀l∈(dO T s).1,aV T l=0):=ah λh=>by
  have N:(dO T s).2.2=0:=by
   unfold fB at h;split at h
   .exact absurd h ‹_›
   .exact Decidable.not_not.1 ‹_›
  exact⟨N,λl hl=>Ew ((AY N).2 l hl).1⟩
 generalize zO T s=CL at*;generalize mF T s=D at*;generalize fB T s=DA at*;generalize uniD T s=I9 at*;generalize dO T s=DP at*;obtain⟨a,ai,ae⟩:=DA;obtain⟨u,ui,ue⟩:=I9;obtain⟨L,pi,pe⟩:=DP;simp only[]at HD fZ HU HP;clear ht hs K;go_enter func44,ntmps44;go_wp2_with fail;rw[<- y];refine(C1.out _ eR').mono ?_;rintro e w1⟨rfl,a4⟩;have q:=ah (a4);have jY:=M.out _ q.out;clear a4 y;by_cases J:ae=0
 case neg=>
  have e0:(ae != 0)=true:=bN' J;have B:=ah (HD.out.trans (pP' J));clear J HD fZ HU HP C2 C3;go_wp2_with(refine wpList_store_row rfl _ _ _ rfl (w.heap.size+1) _ rfl rfl 84 og (g.out _ q.out) (by kernel_rfl) rfl (qI _ _ _) ?_)
  (try simp only[Exit.inBlock,Exit.then])
  refine bodyPost_ret (results_cell_row_tmp (p:=4) (u:=5) (ty:=84) (by kernel_rfl) _ _ (w.heap.size+1) 84 _ (0,0) (by first|rfl|simp[Act.put]) (setRow_heap _ _ _ _ _ _ (g.out _ q.out)) underlying84 (by kernel_rfl)) rfl ?_;exact⟨by rw[B.out];rfl,vw (j.out.trans' q.out) (Nat.le_succ _) _⟩
 have O:=ah (HD.out.trans (nN' (by rw[J];simp)));have aq:=ah (HU.out J);have P:=ah (HP.out J);have e0:(ae != 0)=false:=bZ' J;clear J HD HU HP;have eu:(ue != 0)=false:=by rw[aq.out];rfl
 go_wp2_with fail;refine(C2.out _ q.out).mono ?_;rintro e w2⟨rfl,a5⟩;have Q:=ah (q.out.trans' a5);have fJ:=M.out _ Q.out;clear a5 jY;have ep:(pe != 0)=false:=by rw[P.out.1];rfl
 go_wp2_with fail;refine(C3.out _ Q.out).mono ?_;rintro e w3⟨A,m,d,rfl,hl,a6⟩;have i:=ah (Q.out.trans' a6);have gV:=M.out _ i.out;clear a6 fJ;have HL:=ah hl;have hm:=hl.len.1;simp only[]at hm HL;clear hl;by_cases N:L.length=1
 case neg=>
  have B:=ah (O.out.trans (pP' N));have e1:(((m:Nat):Int) != 1)=true:=by rw[bne_iff_ne];omega
  have av:(m != 1)=true:=by rw[bne_iff_ne];omega
  clear N O fZ;go_wp2_with(refine wpList_store_row rfl _ _ _ rfl (w.heap.size+1) _ rfl rfl 84 og (g.out _ i.out) (by kernel_rfl) rfl (qI _ _ _) ?_)
  (try simp only[Exit.inBlock,Exit.then])
  refine bodyPost_ret (results_cell_row_tmp (p:=4) (u:=5) (ty:=84) (by kernel_rfl) _ _ (w.heap.size+1) 84 _ (0,0) (by first|rfl|simp[Act.put]) (setRow_heap _ _ _ _ _ _ (g.out _ i.out)) underlying84 (by kernel_rfl)) rfl ?_;exact⟨by rw[B.out];rfl,vw (j.out.trans' i.out) (Nat.le_succ _) _⟩
 have a7:=ah (O.out.trans (nN' (by rw[N];simp)));have e1:(((m:Nat):Int) != 1)=false:=by rw[show m=1 by omega];rfl
 have av:(m != 1)=false:=by rw[show m=1 by omega];rfl
 obtain⟨b,o,R,S,U,rfl,a8,hz⟩:=HL.out.at_ (show 0<L.length by omega);have V:=ah (P.out.2 _ (gM' (show 0<L.length by omega)));have W:=ah (fZ.out (L[0]'(by omega)));have a9:Hid (D=CL (L[0]'(by omega))):=ah (by rw[a7.out,getD_lt L 0 [] (by omega)]);have HZ:=ah hz;have AU:=ah a8;have ax:m=1:=by omega
 clear hz P fZ a7 a8;generalize L[0]'(by omega)=x at*;subst ax;clear N hm HL;have aa:Hid (pK T x=sG T x):=ah (by rw[pK,pP' V.out])
 have ab:Hid (∀f,Ext w3 f->cE' 73 #[t.v,.slice R S U] f (.tuple #[.int .i64 (sG T x),.int .i64 0])):=ah (λf h=>by
  have h':=nP' t T x R S U f (HT.out.aB (i.out.trans' h)) (HZ.out.ext h)
  rwa[aa.out,V.out]at h')
 have HK:Hid (∀f,Ext w3 f->cE' 74 #[t.v,.slice R S U] f (.tuple #[.string (sB (kQ T x).1),.int .i64 (kQ T x).2])):=ah (λf h=>aYd T t x R S U f (HT.out.aB (i.out.trans' h)) (HZ.out.ext h));generalize sG T x=lv at*;generalize kQ T x=kd at*;obtain⟨k,ke⟩:=kd;simp only[]at W HK;have F:=ah (a9.out.trans W.out);have rL:∀z:aj w3,∀p:Nat,z.w.cell? ⟨w.heap.size,p,none⟩=t.v.cells[p]? :=λz=>M.out _ (i.out.trans' z.h)
 have cL:∀z:aj w3,z.w.cell? ⟨b,o,none⟩=some (.slice R S U):=bY AU.out;clear a9 W aa V HZ gV;go_wp2_with fail;refine rX' ?_
 repeat(go_big_quiet_step(first|(go_at_call 73;with_reducible exact aQ (ab.out _ (aj.h _)))))
 refine wpQuiet_nil ?_;rintro _⟨v,rfl⟩;have r:=ah (i.out.trans' v.h);have ac:=ah v.h;have cZ:=M.out _ r.out;clear rL cL ab;generalize v.w=v1 at*;clear v;by_cases Y:4<lv
 .have d2:decide (4<lv)=true:=dt' Y;have B:=ah (F.out.trans (pP' Y));clear Y F;go_wp2_with(refine wpList_store_row rfl _ _ _ rfl (w.heap.size+1) _ rfl rfl 84 og (g.out _ r.out) (by kernel_rfl) rfl (qI _ _ _) ?_)
  (try simp only[Exit.inBlock,Exit.then])
  refine bodyPost_ret (results_cell_row_tmp (p:=4) (u:=5) (ty:=84) (by kernel_rfl) _ _ (w.heap.size+1) 84 _ (0,0) (by first|rfl|simp[Act.put]) (setRow_heap _ _ _ _ _ _ (g.out _ r.out)) underlying84 (by kernel_rfl)) rfl ?_;exact⟨by rw[B.out];rfl,vw (j.out.trans' r.out) (Nat.le_succ _) _⟩
 have G:=ah (F.out.trans (nN' Y));have d2:decide (4<lv)=false:=df' Y;have rL:∀z:aj v1,∀p:Nat,z.w.cell? ⟨w.heap.size,p,none⟩=t.v.cells[p]? :=λz=>M.out _ (r.out.trans' z.h)
 have cL:∀z:aj v1,z.w.cell? ⟨b,o,none⟩=some (.slice R S U):=bY (aY (bg ac.out) AU.out);have ad:Hid (∀f,Ext v1 f->cE' 74 #[t.v,.slice R S U] f (.tuple #[.string (sB k),.int .i64 ke])):=ah (λf h=>HK.out f (ac.out.trans' h));clear Y F cZ HK;go_wp2_with fail;refine rX' ?_
 repeat(go_big_quiet_step(first|(go_at_call 74;with_reducible exact aQ (ad.out _ (aj.h _)))))
 refine wpQuiet_nil ?_;rintro _⟨v,rfl⟩;have E:=ah (r.out.trans' v.h);have rK:=M.out _ E.out;clear rL cL ad;generalize v.w=v2 at*;clear v;by_cases Z:ke=0
 case neg=>
  have e3:(ke != 0)=true:=bN' Z;have B:=ah (G.out.trans (pP' Z));clear Z G;go_wp2_with(refine wpList_store_row rfl _ _ _ rfl (w.heap.size+1) _ rfl rfl 84 og (g.out _ E.out) (by kernel_rfl) rfl (qI _ _ _) ?_)
  (try simp only[Exit.inBlock,Exit.then])
  refine bodyPost_ret (results_cell_row_tmp (p:=4) (u:=5) (ty:=84) (by kernel_rfl) _ _ (w.heap.size+1) 84 _ (0,0) (by first|rfl|simp[Act.put]) (setRow_heap _ _ _ _ _ _ (g.out _ E.out)) underlying84 (by kernel_rfl)) rfl ?_;exact⟨by rw[B.out];rfl,vw (j.out.trans' E.out) (Nat.le_succ _) _⟩
 have e3:(ke != 0)=false:=bZ' Z;have H:=ah (G.out.trans (nN' (by rw[Z];simp)));have af:=sO k;clear Z G;by_cases X:k.length=0
 .have B:=ah (H.out.trans (pP' X));rw[List.eq_nil_of_length_eq_zero X,show([]:List Int).isEmpty=true from rfl]at af;rw[List.eq_nil_of_length_eq_zero X];clear X H;go_wp2_with(refine wpList_store_row rfl _ _ _ rfl (w.heap.size+1) _ rfl rfl 84 og (g.out _ E.out) (by kernel_rfl) rfl (qI _ _ _) ?_)
  (try simp only[Exit.inBlock,Exit.then])
  refine bodyPost_ret (results_cell_row_tmp (p:=4) (u:=5) (ty:=84) (by kernel_rfl) _ _ (w.heap.size+1) 84 _ (0,0) (by first|rfl|simp[Act.put]) (setRow_heap _ _ _ _ _ _ (g.out _ E.out)) underlying84 (by kernel_rfl)) rfl ?_;exact⟨by rw[B.out];rfl,vw (j.out.trans' E.out) (Nat.le_succ _) _⟩
 have B:=ah (H.out.trans (nN' X));rw[show k.isEmpty=false from by cases k with|nil=>exact absurd rfl X|cons a b=>rfl]at af;clear X H;go_wp2_with(refine wpList_store_row rfl _ _ _ rfl (w.heap.size+1) _ rfl rfl 84 og (g.out _ E.out) (by kernel_rfl) rfl (qI _ _ _) ?_)
 (try simp only[Exit.inBlock,Exit.then])
 refine bodyPost_ret (results_cell_row_tmp (p:=4) (u:=5) (ty:=84) (by kernel_rfl) _ _ (w.heap.size+1) 84 _ (0,0) (by first|rfl|simp[Act.put]) (setRow_heap _ _ _ _ _ _ (g.out _ E.out)) underlying84 (by kernel_rfl)) rfl ?_;exact⟨by rw[B.out];rfl,vw (j.out.trans' E.out) (Nat.le_succ _) _⟩
theorem aZJ(ht:aS w t T)(hs:IsB s):Calls prog 47 #[t.v,.string (sB s)] w (Ht w (mF T s)):=by
 obtain⟨I,y⟩:=eX' ((w.alloc (.cells #[.slice t.s0.a t.s0.n t.s0.c,.slice t.s1.a t.s1.n t.s1.c,.slice t.s2.a t.s2.n t.s2.c,.slice t.s3.a t.s3.n t.s3.c,.slice t.s4.a t.s4.n t.s4.c,.slice t.s5.a t.s5.n t.s5.c,.slice t.s6.a t.s6.n t.s6.c,.slice t.s7.a t.s7.n t.s7.c,.slice t.s8.a t.s8.n t.s8.c,.slice t.s9.a t.s9.n t.s9.c,.slice t.s10.a t.s10.n t.s10.c,.slice t.s11.a t.s11.n t.s11.c] 26)).alloc (.cells og 84));have K:Ext w I:=by rw[y];exact(eR'.ay _).ay _
 have j:=ah K;have Z:=ah (ht.aB K);have W:Hid (∀f,Ext I f->∀k:Nat,f.cell? ⟨w.heap.size,k,none⟩=t.v.cells[k]?):=ah (λf h=>aP ((eR'.ay _).trans' (by rw[y]at h;exact h)));have g:Hid (∀f,Ext I f->f.heap[w.heap.size+1]? =some (.cells og 84 (0,0))):=ah (λf h=>qJ (by rw[y]at h;exact h));have C1:Hid (∀f,Ext I f->Calls prog 84 #[t.v,.string (sB s)] f (zN f (fB T s))):=ah (λf h=>Vu T t s f (Z.out.aB h) hs);have C2:Hid (∀f,Ext I f->Calls prog 88 #[t.v,.string (sB s)] f (zN f (uniD T s))):=ah (λf h=>aWj T t s f (Z.out.aB h) hs);have C3:Hid (∀f,Ext I f->Calls prog 85 #[t.v,.string (sB s)] f (He f (dO T s))):=ah (λf h=>MN T t s f (Z.out.aB h) hs);have HD:Hid (mF T s=if(fB T s).2.2≠0 then(pG,(fB T s).2.2)else if(dO T s).1.length≠1 then(pG,21)else zO T s ((dO T s).1.getD 0 [])):=rfl;have fZ:Hid (∀l,zO T s l=if 4<sG T l then(pG,20)else if(kQ T l).2≠0 then(pG,(kQ T l).2)else if(kQ T l).1.length=0 then(pG,10)else(((fB T s).1,(uniD T s).1,(kQ T l).1),0)):=ah λ_=>rfl
 have HU:Hid ((fB T s).2.2=0->(uniD T s).2.2=0):=ah λh=>by rw[(uni_ok h).2]
 have HP:Hid ((fB T s).2.2=0->(dO T s).2.2=0/\∀l∈(dO T s).1,aV T l=0):=ah λh=>by
  have M:(dO T s).2.2=0:=by
   unfold fB at h;split at h
   .exact absurd h ‹_›
   .exact Decidable.not_not.1 ‹_›
  exact⟨M,λl hl=>Ew ((AY M).2 l hl).1⟩
 generalize zO T s=CL at*;generalize mF T s=D at*;generalize fB T s=DA at*;generalize uniD T s=I9 at*;generalize dO T s=DP at*;obtain⟨a,ai,ae⟩:=DA;obtain⟨u,ui,ue⟩:=I9;obtain⟨L,pi,pe⟩:=DP;simp only[]at HD fZ HU HP;clear ht hs K;go_enter func47,ntmps47;go_wp2_with fail;rw[<- y];refine(C1.out _ eR').mono ?_;rintro e w1⟨rfl,a3⟩;have q:=ah (a3);have jY:=W.out _ q.out;clear a3 y;by_cases J:ae=0
 case neg=>
  have e0:(ae != 0)=true:=bN' J;have B:=ah (HD.out.trans (pP' J));clear J HD fZ HU HP C2 C3;go_wp2_with(refine wpList_store_row rfl _ _ _ rfl (w.heap.size+1) _ rfl rfl 84 og (g.out _ q.out) (by kernel_rfl) rfl (qI _ _ _) ?_)
  (try simp only[Exit.inBlock,Exit.then])
  refine bodyPost_ret (results_cell_row_tmp (p:=4) (u:=5) (ty:=84) (by kernel_rfl) _ _ (w.heap.size+1) 84 _ (0,0) (by first|rfl|simp[Act.put]) (setRow_heap _ _ _ _ _ _ (g.out _ q.out)) underlying84 (by kernel_rfl)) rfl ?_;exact⟨by rw[B.out];rfl,vw (j.out.trans' q.out) (Nat.le_succ _) _⟩
 have N:=ah (HD.out.trans (nN' (by rw[J];simp)));have b4:=ah (HU.out J);have O:=ah (HP.out J);have e0:(ae != 0)=false:=bZ' J;clear J HD HU HP;have ep:(pe != 0)=false:=by rw[O.out.1];rfl
 go_wp2_with fail;refine(C3.out _ q.out).mono ?_;rintro e w2⟨A,m,d,rfl,hl,a4⟩;have i:=ah (q.out.trans' a4);have fJ:=W.out _ i.out;clear a4 jY;have HL:=ah hl;have hm:=hl.len.1;simp only[]at hm HL;clear hl;by_cases M:L.length=1
 case neg=>
  have B:=ah (N.out.trans (pP' M));have e1:(((m:Nat):Int) != 1)=true:=by rw[bne_iff_ne];omega
  have aq:(m != 1)=true:=by rw[bne_iff_ne];omega
  clear M N fZ;go_wp2_with(refine wpList_store_row rfl _ _ _ rfl (w.heap.size+1) _ rfl rfl 84 og (g.out _ i.out) (by kernel_rfl) rfl (qI _ _ _) ?_)
  (try simp only[Exit.inBlock,Exit.then])
  refine bodyPost_ret (results_cell_row_tmp (p:=4) (u:=5) (ty:=84) (by kernel_rfl) _ _ (w.heap.size+1) 84 _ (0,0) (by first|rfl|simp[Act.put]) (setRow_heap _ _ _ _ _ _ (g.out _ i.out)) underlying84 (by kernel_rfl)) rfl ?_;exact⟨by rw[B.out];rfl,vw (j.out.trans' i.out) (Nat.le_succ _) _⟩
 have a5:=ah (N.out.trans (nN' (by rw[M];simp)));have e1:(((m:Nat):Int) != 1)=false:=by rw[show m=1 by omega];rfl
 have aq:(m != 1)=false:=by rw[show m=1 by omega];rfl
 obtain⟨b,o,P,Q,R,rfl,a6,hz⟩:=HL.out.at_ (show 0<L.length by omega);have S:=ah (O.out.2 _ (gM' (show 0<L.length by omega)));have U:=ah (fZ.out (L[0]'(by omega)));have a7:Hid (D=CL (L[0]'(by omega))):=ah (by rw[a5.out,getD_lt L 0 [] (by omega)]);have HZ:=ah hz;have AU:=ah a6;have av:m=1:=by omega
 clear hz O fZ a5 a6;generalize L[0]'(by omega)=x at*;subst av;clear M hm HL;have a8:Hid (pK T x=sG T x):=ah (by rw[pK,pP' S.out])
 have a9:Hid (∀f,Ext w2 f->cE' 86 #[t.v,.slice P Q R] f (.tuple #[.int .i64 (sG T x),.int .i64 0])):=ah (λf h=>by
  have h':=Xi t T x P Q R f (Z.out.aB (i.out.trans' h)) (HZ.out.ext h)
  rwa[a8.out,S.out]at h')
 have HK:Hid (∀f,Ext w2 f->cE' 87 #[t.v,.slice P Q R] f (.tuple #[.string (sB (kQ T x).1),.int .i64 (kQ T x).2])):=ah (λf h=>aYc T t x P Q R f (Z.out.aB (i.out.trans' h)) (HZ.out.ext h));generalize sG T x=lv at*;generalize kQ T x=kd at*;obtain⟨k,ke⟩:=kd;simp only[]at U HK;have E:=ah (a7.out.trans U.out);have rL:∀z:aj w2,∀p:Nat,z.w.cell? ⟨w.heap.size,p,none⟩=t.v.cells[p]? :=λz=>W.out _ (i.out.trans' z.h)
 have cL:∀z:aj w2,z.w.cell? ⟨b,o,none⟩=some (.slice P Q R):=bY AU.out;clear a7 U a8 S HZ fJ;go_wp2_with fail;refine rX' ?_
 repeat(go_big_quiet_step(first|(go_at_call 86;with_reducible exact aQ (a9.out _ (aj.h _)))))
 refine wpQuiet_nil ?_;rintro _⟨v,rfl⟩;have r:=ah (i.out.trans' v.h);have aa:=ah v.h;have cZ:=W.out _ r.out;clear rL cL a9;generalize v.w=v1 at*;clear v;by_cases X:4<lv
 .have d2:decide (4<lv)=true:=dt' X;have B:=ah (E.out.trans (pP' X));clear X E;go_wp2_with(refine wpList_store_row rfl _ _ _ rfl (w.heap.size+1) _ rfl rfl 84 og (g.out _ r.out) (by kernel_rfl) rfl (qI _ _ _) ?_)
  (try simp only[Exit.inBlock,Exit.then])
  refine bodyPost_ret (results_cell_row_tmp (p:=4) (u:=5) (ty:=84) (by kernel_rfl) _ _ (w.heap.size+1) 84 _ (0,0) (by first|rfl|simp[Act.put]) (setRow_heap _ _ _ _ _ _ (g.out _ r.out)) underlying84 (by kernel_rfl)) rfl ?_;exact⟨by rw[B.out];rfl,vw (j.out.trans' r.out) (Nat.le_succ _) _⟩
 have F:=ah (E.out.trans (nN' X));have d2:decide (4<lv)=false:=df' X;have rL:∀z:aj v1,∀p:Nat,z.w.cell? ⟨w.heap.size,p,none⟩=t.v.cells[p]? :=λz=>W.out _ (r.out.trans' z.h)
 have cL:∀z:aj v1,z.w.cell? ⟨b,o,none⟩=some (.slice P Q R):=bY (aY (bg aa.out) AU.out);have ab:Hid (∀f,Ext v1 f->cE' 87 #[t.v,.slice P Q R] f (.tuple #[.string (sB k),.int .i64 ke])):=ah (λf h=>HK.out f (aa.out.trans' h));clear X E cZ HK;go_wp2_with fail;refine rX' ?_
 repeat(go_big_quiet_step(first|(go_at_call 87;with_reducible exact aQ (ab.out _ (aj.h _)))))
 refine wpQuiet_nil ?_;rintro _⟨v,rfl⟩;have G:=ah (r.out.trans' v.h);have rK:=W.out _ G.out;clear rL cL ab;generalize v.w=v2 at*;clear v;by_cases Y:ke=0
 case neg=>
  have e3:(ke != 0)=true:=bN' Y;have B:=ah (F.out.trans (pP' Y));clear Y F;go_wp2_with(refine wpList_store_row rfl _ _ _ rfl (w.heap.size+1) _ rfl rfl 84 og (g.out _ G.out) (by kernel_rfl) rfl (qI _ _ _) ?_)
  (try simp only[Exit.inBlock,Exit.then])
  refine bodyPost_ret (results_cell_row_tmp (p:=4) (u:=5) (ty:=84) (by kernel_rfl) _ _ (w.heap.size+1) 84 _ (0,0) (by first|rfl|simp[Act.put]) (setRow_heap _ _ _ _ _ _ (g.out _ G.out)) underlying84 (by kernel_rfl)) rfl ?_;exact⟨by rw[B.out];rfl,vw (j.out.trans' G.out) (Nat.le_succ _) _⟩
 have e3:(ke != 0)=false:=bZ' Y;have H:=ah (F.out.trans (nN' (by rw[Y];simp)));have ac:=sO k;clear Y F;by_cases V:k.length=0
 .have B:=ah (H.out.trans (pP' V));rw[List.eq_nil_of_length_eq_zero V,show([]:List Int).isEmpty=true from rfl]at ac;rw[List.eq_nil_of_length_eq_zero V];clear V H;go_wp2_with(refine wpList_store_row rfl _ _ _ rfl (w.heap.size+1) _ rfl rfl 84 og (g.out _ G.out) (by kernel_rfl) rfl (qI _ _ _) ?_)
  (try simp only[Exit.inBlock,Exit.then])
  refine bodyPost_ret (results_cell_row_tmp (p:=4) (u:=5) (ty:=84) (by kernel_rfl) _ _ (w.heap.size+1) 84 _ (0,0) (by first|rfl|simp[Act.put]) (setRow_heap _ _ _ _ _ _ (g.out _ G.out)) underlying84 (by kernel_rfl)) rfl ?_;exact⟨by rw[B.out];rfl,vw (j.out.trans' G.out) (Nat.le_succ _) _⟩
 have B:=ah (H.out.trans (nN' V));rw[show k.isEmpty=false from by cases k with|nil=>exact absurd rfl V|cons a b=>rfl]at ac;clear V H;go_wp2_with fail;refine(C2.out _ G.out).mono ?_;rintro e v3⟨rfl,ad⟩;have bf:=ah (G.out.trans' ad);clear ad rK;go_wp2_with(refine wpList_store_row rfl _ _ _ rfl (w.heap.size+1) _ rfl rfl 84 og (g.out _ bf.out) (by kernel_rfl) rfl (qI _ _ _) ?_)
 (try simp only[Exit.inBlock,Exit.then])
 refine bodyPost_ret (results_cell_row_tmp (p:=4) (u:=5) (ty:=84) (by kernel_rfl) _ _ (w.heap.size+1) 84 _ (0,0) (by first|rfl|simp[Act.put]) (setRow_heap _ _ _ _ _ _ (g.out _ bf.out)) underlying84 (by kernel_rfl)) rfl ?_;exact⟨by rw[B.out];rfl,vw (j.out.trans' bf.out) (Nat.le_succ _) _⟩
def NmS(w:World)(s:SV)(l:List Nm):Prop:=wG s l.length/\∀i x,l[i]? =some x->∃b o,s.a=some ⟨b,o,none⟩/\w.cell? ⟨b,o+i*3,none⟩=some (.string (sB x.1))/\w.cell? ⟨b,o+i*3+1,none⟩=some (.string (sB x.2.1))/\w.cell? ⟨b,o+i*3+2,none⟩=some (.string (sB x.2.2))
theorem NmS.ext{w w':World}{s:SV}{l:List Nm}(h:NmS w s l)(a:Ext w w'):NmS w' s l:=
 ⟨h.1,λi x c=>by
  obtain⟨b,o,d,f,g,j⟩:=h.2 i x c
  exact⟨b,o,d,aY (bg a) f,aY (bg a) g,aY (bg a) j⟩⟩
theorem NmS.at_{w:World}{A:Option Addr}{n c:Nat}{l:List Nm}(h:NmS w ⟨A,n,c⟩ l){i:Nat}(a:i<l.length):∃b o,A=some ⟨b,o,none⟩/\w.cell? ⟨b,o+i*3,none⟩=some (.string (sB l[i].1))/\w.cell? ⟨b,o+i*3+1,none⟩=some (.string (sB l[i].2.1))/\w.cell? ⟨b,o+i*3+2,none⟩=some (.string (sB l[i].2.2)):=
 h.2 i _ (List.getElem?_eq_getElem a)
theorem NmS.nil_:NmS w ⟨none,0,0⟩ []:=⟨⟨rfl,lr' _,by simp only[maxLen];omega⟩,λi x a=>by simp at a⟩
theorem VF:∀(l:List Int),(∀c∈l,bn c=true)->IsB (lN l)
 |[],_=>tZ
 |c::r,h=>OW (DL (h c (List.mem_cons_self ..))) (VF r λx a=>h x (List.mem_cons_of_mem _ a))
theorem VD(l:List Int):IsB (mQ l).1:=by
 unfold mQ;split
 .exact tZ
 .split
  .exact tZ
  .rename_i d a;refine VF l λc b=>?_
   simp only[List.any_eq_true,not_exists,not_and,Bool.not_eq_true',Bool.not_eq_false]at a;exact a c b
theorem b0D(l:List Int):IsB (kQ T l).1:=by
 unfold kQ;split
 .exact tZ
 .exact VD _
theorem uni_isB:IsB (uniD T s).1:=by
 unfold uniD;split
 .exact tZ
 .exact VD _
theorem b0B:IsB (fB T s).1:=by
 by_cases h:(fB T s).2.2=0
 .intro c a;rcases(aUi h).1 c a with b|rfl
  .have:=Vt b;omega
  .omega
 .rw[(aUg h).1];exact tZ
theorem VE{T:ak}{s:List Int}(_:IsB s):IsB (mF T s).1.1/\IsB (mF T s).1.2.1/\IsB (mF T s).1.2.2:=by
 have a:IsB pG.1/\IsB pG.2.1/\IsB pG.2.2:=⟨tZ,tZ,tZ⟩;unfold mF;split
 .exact a
 split
 .exact a
 unfold zO;split
 .exact a
 split
 .exact a
 split
 .exact a
 exact⟨b0B T s,uni_isB T s,b0D T _⟩
def BL:ak:=⟨[],[],[],[],[],[],[],[],[],[],[],[]⟩
abbrev Iz:TV:=⟨lu,lu,lu,lu,lu,lu,lu,lu,lu,lu,lu,lu⟩
theorem NK{w:World}(a:Glob w):aS w Iz BL:=
 ⟨bK.nil_ _,bK.nil_ _,bK.nil_ _,bK.nil_ _,bK.nil_ _,bK.nil_ _,bK.nil_ _,dh.nil_ _,dh.nil_ _,dh.nil_ _,aC.nil_ _,dh.nil_ _,a⟩
theorem VI(x y:List Int):lq (w.alloc (.cells #[.string (sB x),.string (sB y)] 9)) ⟨some ⟨w.heap.size,0,none⟩,2,2⟩ [x,y]:=
 ⟨⟨rfl,lr' _,by simp only[maxLen];omega⟩,λi z a=>by
  match i,a with
  |0,a=>simp at a;subst a;exact⟨w.heap.size,0,rfl,World.cell?_alloc_new w _ _ 0⟩
  |1,a=>simp at a;subst a;exact⟨w.heap.size,0,rfl,World.cell?_alloc_new w _ _ 1⟩
  |i+2,a=>simp at a⟩
theorem VJ(x y:Int):aC (w.alloc (.cells #[.int .i64 x,.int .i64 y] 3)) ⟨some ⟨w.heap.size,0,none⟩,2,2⟩ [x,y]:=
 ⟨⟨rfl,lr' _,by simp only[maxLen];omega⟩,λi z a=>by
  match i,a with
  |0,a=>simp at a;subst a;exact⟨w.heap.size,0,rfl,World.cell?_alloc_new w _ _ 0⟩
  |1,a=>simp at a;subst a;exact⟨w.heap.size,0,rfl,World.cell?_alloc_new w _ _ 1⟩
  |i+2,a=>simp at a⟩
theorem ED{w w':World}(a:Array Value)(t:TypeId)(h:Ext (w.alloc (.cells a t)) w')(k:Nat):w'.cell? ⟨w.heap.size,k,none⟩=a[k]? :=by
 rw[h.b.cell (p:=⟨w.heap.size,k,none⟩) (by simp)];exact World.cell?_alloc_new w _ _ k
noncomputable def kR(T:ak)(key:List Int)(r:Rc):Bool:=nK r&&(!(r.1==0)&&((jK T==0)&&((mF T r.2.2.1).2==0&&(decide ((mF T r.2.2.1).1.1=r.2.2.1)&&decide ((mF T r.2.2.1).1.2.2=key)))))
theorem Hw(key:List Int)(r:Rc)(w:World)(ht:aS w t T)(hk:IsB key)(N:IsB r.2.2.1):cE' 15 #[t.v,.string (sB key),rcV r] w (.bool (kR T key r)):=by
 obtain⟨o,d⟩:=eX' ((w.alloc (.cells #[.slice t.s0.a t.s0.n t.s0.c,.slice t.s1.a t.s1.n t.s1.c,.slice t.s2.a t.s2.n t.s2.c,.slice t.s3.a t.s3.n t.s3.c,.slice t.s4.a t.s4.n t.s4.c,.slice t.s5.a t.s5.n t.s5.c,.slice t.s6.a t.s6.n t.s6.c,.slice t.s7.a t.s7.n t.s7.c,.slice t.s8.a t.s8.n t.s8.c,.slice t.s9.a t.s9.n t.s9.c,.slice t.s10.a t.s10.n t.s10.c,.slice t.s11.a t.s11.n t.s11.c] 26)).alloc (.cells (rcC r) 43));have s:Ext w o:=by rw[d];exact(eR'.ay _).ay _
 have g:=ah s;have X:=ah (ht.aB s);have Y:Hid (∀w',Ext o w'->∀k:Nat,w'.cell? ⟨w.heap.size,k,none⟩=t.v.cells[k]?):=ah (λw' h=>aP ((eR'.ay _).trans' (by rw[d]at h;exact h)));have x:Hid (∀w',Ext o w'->∀k:Nat,w'.cell? ⟨w.heap.size+1,k,none⟩=(rcC r)[k]?):=ah (λw' h k=>cell_of_row w' _ k (rcC r) 43 (0,0) (qJ (by rw[d]at h;exact h)));have E:=ah (b2J r o N);have Z:Hid (∀w',Ext o w'->cE' 43 #[t.v] w' (.int .i64 (jK T))):=ah (λw' h=>Nk t T w' (X.out.aB h));have CC:Hid (∀w',Ext o w'->Calls prog 44 #[t.v,.string (sB r.2.2.1)] w' (Ht w' (mF T r.2.2.1))):=ah (λw' h=>aZN T t r.2.2.1 w' (X.out.aB h) N);have y:=ah (VE (T:=T) N);have z:Hid (kR T key r=(nK r&&(!(r.1==0)&&((jK T==0)&&((mF T r.2.2.1).2==0&&(decide ((mF T r.2.2.1).1.1=r.2.2.1)&&decide ((mF T r.2.2.1).1.2.2=key))))))):=rfl;generalize mF T r.2.2.1=C at*;generalize jK T=cn at*;obtain⟨b,F⟩:=C;simp only[]at y z;clear ht s;go_enter func15,ntmps15;go_wp2_with fail;rw[<- d];refine E.out.mono ?_;rintro e w1⟨rfl,i⟩;have K:=ah i;have jY:=Y.out w1 i;have P:=x.out w1 i;clear i d E;cases B:nK r with
 |false=>
  have j:Hid (kR T key r=false):=ah (by rw[z.out,B];rfl);have p:=g.out.trans' K.out;clear B z;go_wp2;go_ret;exact⟨by rw[j.out];rfl,p⟩
 |true=>
  by_cases L:r.1=0
  .have G:(r.1==0)=true:=by rw[bq'];exact L
   have j:Hid (kR T key r=false):=ah (by rw[z.out,B,G];rfl);have p:=g.out.trans' K.out;clear B z L;go_wp2;go_ret;exact⟨by rw[j.out];rfl,p⟩
  have G:(r.1==0)=false:=by rw[aH];exact L
  have l:Hid (kR T key r=((cn==0)&&(F==0&&(decide (b.1=r.2.2.1)&&decide (b.2.2=key))))):=ah (by rw[z.out,B,G];rfl);clear B z L;go_wp2_with fail;refine(Z.out _ K.out).mono ?_;rintro e w2⟨rfl,H⟩;have f:=ah (K.out.trans' H);have fJ:=Y.out w2 f.out;have Q:=x.out w2 f.out;clear H jY P Z;by_cases D:cn=0
  case neg=>
   have R:(cn != 0)=true:=bN' D;have e3:(cn==0)=false:=(by rw[aH];exact D);have j:Hid (kR T key r=false):=ah (by rw[l.out,e3];rfl);have p:=g.out.trans' f.out;clear D l;go_wp2;go_ret;exact⟨by rw[j.out];rfl,p⟩
  have R:(cn != 0)=false:=bZ' D;have m:Hid (kR T key r=(F==0&&(decide (b.1=r.2.2.1)&&decide (b.2.2=key)))):=ah (by rw[l.out,D];rfl);clear D l;go_wp2_with fail;refine(CC.out _ f.out).mono ?_;rintro e q⟨rfl,I⟩;obtain⟨S,A⟩:=eX' (q.alloc (.cells #[.string (sB b.1),.string (sB b.2.1),.string (sB b.2.2)] 84));have J:Ext q S:=by rw[A];exact eR'.ay _
  have jC:=ah (f.out.trans' (I.trans' J));have U:Hid (∀k:Nat,S.cell? ⟨q.heap.size,k,none⟩=(#[.string (sB b.1),.string (sB b.2.1),.string (sB b.2.2)]:Array Value)[k]?):=ah (λk=>by rw[A];exact World.cell?_alloc_new q _ _ k);have p:=g.out.trans' jC.out;have a7:=x.out S jC.out;have a8:=U.out;have q1:=rJ y.out.1 N;have q2:=rJ y.out.2.2 hk;have HV:=ah A;clear I J fJ Q CC;by_cases M:F=0
  .have W:(F==0)=true:=by rw[bq'];exact M
   have j:Hid (kR T key r=(decide (b.1=r.2.2.1)&&decide (b.2.2=key))):=ah (by rw[m.out,W];rfl);generalize decide (b.1=r.2.2.1)=b1 at*;generalize decide (b.2.2=key)=b2 at*;clear M m R G;cases b1<;>cases b2
   all_goals
    go_wp2_with(refine wpList_store_row rfl _ _ _ rfl q.heap.size _ rfl rfl 84 og (heap_alloc_new q _) (by kernel_rfl) rfl (qI _ _ _) ?_;rw[World.setRow_alloc_new,<- A];clear A);go_ret;exact⟨by rw[j.out];rfl,p⟩
  .have W:(F==0)=false:=by rw[aH];exact M
   have j:Hid (kR T key r=false):=ah (by rw[m.out,W];rfl);clear M m R G;go_wp2_with(refine wpList_store_row rfl _ _ _ rfl q.heap.size _ rfl rfl 84 og (heap_alloc_new q _) (by kernel_rfl) rfl (qI _ _ _) ?_;rw[World.setRow_alloc_new,<- A];clear A);go_ret;exact⟨by rw[j.out];rfl,p⟩
def wI(x:Int):Int->List Int->Int
 |_,[]=> -1
 |i,y::r=>if x=y then i else wI x (i+1) r
theorem VL(x:Int):∀(l:List Int)(i:Int),0<=i->decide (0<=wI x i l)=l.any (λy=>decide (x=y))
 |[],i,_=>by simp[wI]
 |y::r,i,h=>by
  unfold wI;by_cases e:x=y
  .simp[e,h]
  .rw[nN' e,VL x r (i+1) (by omega)];simp[e]
theorem b2U{x:Int}{L:List Int}{k:Nat}(a:k<L.length):wI x k (L.drop k)=if x=L[k]then(k:Int)else wI x ((k+1:Nat):Int) (L.drop (k+1)):=by
 rw[drop_at L k a];rfl
theorem b2O(x:Int)(L:List Int)(A:Option Addr)(n c:Nat)(w:World)(h:aC w ⟨A,n,c⟩ L):
 cE' 57 #[.slice A n c,.int .i64 x] w (.int .i64 (wI x 0 L)):=by
 obtain⟨q,j,l⟩:=h.len;subst q;have r:L.length<=9223372036854775807:=by have:=Nat.le_trans j l;(try simp only[maxLen]at this);omega
 have s:=ah h;clear h;go_enter func57,ntmps57;go_wp2;go_loopg[8] L.length (λt z B=>∃k:Nat,k+t=L.length/\z=.int .i64 k/\Hid (wI x k (L.drop k)=wI x 0 L)/\Hid (Ext w B));exact⟨0,by omega,rfl,ah rfl,ah eR'⟩;obtain⟨k,H,rfl,a,g⟩:=hrel;by_cases d:k<L.length
 .obtain⟨m,rfl⟩:=gS' gk;obtain⟨b,o,rfl,D⟩:=(s.out.ext g.out).at_ d;have i:=ah (b2U (x:=x) d);generalize L[k]=y at*;have E:=z0' k;have F:(k:Int)<(L.length:Int):=by omega
  by_cases e:x=y
  .have G:(x==y)=true:=by rw[bq'];exact e
   have f:=ah (a.out.symm.trans (i.out.trans (pP' e)));have p:=g.out;clear e i a;go_wp2;go_ret;exact⟨by rw[f.out];rfl,p⟩
  .have G:(x==y)=false:=by rw[aH];exact e
   have f:=ah ((i.out.trans (nN' e)).symm.trans a.out);clear e i a;go_wp2;go_roundg m;exact⟨k+1,by omega,by go_num,f,g⟩;omega
 .have f:Hid (wI x 0 L= -1):=ah (by rw[<- a.out,List.drop_of_length_le (by omega)];rfl);have p:=g.out;go_wp2;go_ret;exact⟨by rw[f.out];rfl,p⟩
theorem b2T(x:Int)(L:List Int)(A:Option Addr)(n c:Nat)(w:World)(h:aC w ⟨A,n,c⟩ L):
 cE' 27 #[.slice A n c,.int .i64 x] w (.bool (L.any λy=>decide (x=y))):=by
 have b:=ah (VL x L 0 (by omega));go_enter func27,ntmps27;go_wp2_with fail;refine(b2O x L A n c w h).mono ?_;rintro e d⟨rfl,a⟩;generalize wI x 0 L=v at*;go_wp2;go_ret;exact⟨aO b.out,a⟩
def asG(L:List (List Int)):Nat->Nat->Bool
 |0,_=>true
 |g+1,i=>if h:i<L.length then ltS (L[i-1]'(by omega)) L[i]&&asG L g (i+1)else true
abbrev asN(L:List (List Int)):Bool:=asG L L.length 1
theorem VN(L:List (List Int))(A:Option Addr)(n c:Nat)(w:World)(h:lq w ⟨A,n,c⟩ L)(N:∀x∈L,IsB x):
 cE' 23 #[.slice A n c] w (.bool (asN L)):=by
 obtain⟨t,k,l⟩:=h.1;simp only at t k l;subst t;have O:L.length<=9223372036854775807:=by have:=Nat.le_trans k l;simp only[maxLen]at this;omega
 have H:=ah h;have q:=ah N;clear h N;go_enter func23,ntmps23;go_wp2;go_loopg[3] L.length (λy P Q=>∃j:Nat,j+y=L.length/\P=.int .i64 ((j+1:Nat):Int)/\Hid (asG L y (j+1)=asN L)/\Hid (Ext w Q));exact⟨0,by omega,by go_num,ah rfl,ah eR'⟩;obtain⟨j,hj,rfl,B,r⟩:=hrel;have R:(0:Int)<=((j+1:Nat):Int):=aZ _;by_cases m:j+1<L.length
 .obtain⟨C,rfl⟩:=gS' gk;have d:=B.out;rw[asG,dif_pos m]at d;obtain⟨D,E,rfl,F⟩:=(H.out.ext r.out).at_ (i:=j) (by omega);obtain⟨T,U,V,G⟩:=(H.out.ext r.out).at_ m;cases V;have I:=Vz (q.out _ (gM' m)) (q.out _ (gM' (show j<L.length by omega)));have o:=rJ (q.out _ (gM' m)) (q.out _ (gM' (show j<L.length by omega)));simp only[Nat.add_sub_cancel]at d;have p:=ah d;clear d;generalize L[j]=a at*;generalize L[j+1]=b at*;have W:∀z:aj wr,z.w.cell? ⟨D,E+j,none⟩=some (.string (sB a)):=bY F;have X:∀z:aj wr,z.w.cell? ⟨D,E+(j+1),none⟩=some (.string (sB b)):=bY G;have Y:((j+1:Nat):Int)-1=(j:Int):=by omega
  have Z:=z0' j;have a0:((j+1:Nat):Int)<(L.length:Int):=by omega
  have a1:(j:Int)<(L.length:Int):=by omega
  clear F G;have s:(Op.bytesLess (sB b).toList (sB a).toList=true/\Hid (asN L=false))\/(Op.bytesLess (sB b).toList (sB a).toList=false/\(((sB b).toList==(sB a).toList)=true/\Hid (asN L=false)\/((sB b).toList==(sB a).toList)=false/\Hid (asG L C (j+1+1)=asN L))):=by
   rw[I,o];have d:=p.out;cases J:ltS b a with
   |true=>exact .inl ⟨rfl,ah (by rw[<- d,Vy J];rfl)⟩
   |false=>
    by_cases e:b=a
    .exact .inr ⟨rfl,.inl ⟨dt' e,ah (by rw[<- d,e,Hf];rfl)⟩⟩
    .refine .inr ⟨rfl,.inr ⟨df' e,ah ?_⟩⟩;cases K:ltS a b with
     |true=>rw[<- d,K];rfl
     |false=>exact absurd (MV J K) e
  clear I o p;rcases s with⟨b1,f⟩|⟨b1,⟨b2,f⟩|⟨b2,f⟩⟩
  all_goals
   go_wp2_with fail;refine rX' ?_
   repeat(go_big_quiet_step(fail))
   refine wpQuiet_nil ?_;rintro _⟨z,rfl⟩;have M:=ah (r.out.trans' z.h);generalize z.w=w6 at*;clear W X z;go_wp2_with fail
   first
    |(go_roundg C;exact⟨j+1,by omega,by go_num,f,M⟩;omega)
    |(go_ret;exact⟨by rw[f.out];rfl,M.out⟩)
 .have f:Hid (asN L=true):=ah (by
   rw[<- B.out];cases gk with
   |zero=>rfl
   |succ g=>rw[asG,dif_neg m])
  have hx:=r.out;go_wp2;go_ret;exact⟨by rw[f.out];rfl,hx⟩
end Go.Proofs.YtljilcbobhmkgaaGreatDoor
