/- Part 4 of what kmemRuns_holds leans on. -/
import Derived.Test.YtdlfabkacdgneaaGreatDoorPackKmemRuns1
import Derived.Test.YtdlfabkacdgneaaGreatDoorPackKmemRuns3
import Derived.Test.YtdlfabkacdgneaaGreatDoorPackKmemRuns2
set_option maxHeartbeats 16000000
set_option linter.unusedVariables false
set_option linter.unusedSimpArgs false
set_option linter.defProp false
open Go.Proofs.Tryz
namespace Go.Proofs.YtdlfabkacdgneaaGreatDoor
open Go.RowKit
theorem sU(A:Option Addr)(n c:Nat)(l:List Block)(f t a o:Int)(w:World)(m:Sl w 3 aL A n l)(hb:∀b∈l,eG f t b)(I:0<=f)(J:t<=256)(K:n<=1000000000000000000)(L: -1000<=a∧a<=1000)(y:0<=o∧o<=4):
 aS prog 180 [.slice A n c,Iv a,Iv o] w λv _=>v= .bool (gQ l a o):=by
 refine Wj func180 ntmps180 ?_;have g:=Ext.refl w;have M:=m.base;have D:=m.len;have N:=bP y.1 y.2;refine Wz ?_;refine CW.loop (λk:Nat=>[(0,.slice A n c),(1,Iv a),(2,Iv o),(7,Iv (k:Int))]) (λk z=>k<=n∧Ext w z∧∀(j:Nat)(h:j<l.length),j<k->¬(l[j].At<a+pw o∧a<l[j].At+pw l[j].Order)) (λk=>n-k) 0 ⟨rfl,rfl,rfl,rfl,trivial⟩ ⟨by omega,g,λj _ h=>by omega⟩ ?_;rintro k z ⟨O,g,s⟩;by_cases i:k<n
 ·have p:=m.lt i;have u:=(hb _ (Pf p)).1;obtain⟨E,F,P,Q,R⟩:=id u;have G:=bP E F;by_cases B:l[k].At<a+pw o
  ·by_cases C:a<l[k].At+pw l[k].Order
   ·repeat'(first|refine Wz ?_|((apply CW.dF mixed;(·kernel_rfl);rotate_left;intro q d;have g:=g.trans d;rotate_right))|refine Wn g (m.dp i rfl) ?_|refine SW.ba rfl rfl (λq d=>(dk _ Y _)) ?_|exact SW.br rfl)
    refine ah.aF rfl rfl ⟨_,rfl,g,?_⟩;have:gQ l a o=true:=Pn.2 ⟨l[k],Pf p,by simp[B,C]⟩;rw[this]
   repeat'(first|refine Wz ?_|((apply CW.dF mixed;(·kernel_rfl);rotate_left;intro q d;have g:=g.trans d;rotate_right))|refine Wn g (m.dp i rfl) ?_|refine SW.ba rfl rfl (λq d=>(dk _ Y _)) ?_|exact SW.br rfl)
   refine ah.again (k+1) ⟨rfl,rfl,rfl,rfl,trivial⟩ Y ⟨by omega,g,λj r h=>?_⟩;by_cases e:j=k
   ·subst e;exact λh=>C h.2
   exact s j r Y
  repeat'(first|refine Wz ?_|((apply CW.dF mixed;(·kernel_rfl);rotate_left;intro q d;have g:=g.trans d;rotate_right))|refine Wn g (m.dp i Z) ?_|refine SW.ba Z Z (λq d=>(dk _ Y _)) ?_|exact SW.br Z)
  refine ah.again (k+1) ⟨Z,Z,Z,Z,trivial⟩ Y ⟨by omega,g,λj r h=>?_⟩;by_cases e:j=k
  ·subst e;exact λh=>B h.1
  exact s j r Y
 refine Wz ?_;refine ah.aF Z Z ⟨_,Z,g,?_⟩
 have:gQ l a o=false:=by
  unfold gQ;rw[PA];intro x H;obtain⟨j,r,rfl⟩:=Pg H;have:=s j r Y;simpa using this
 rw[this]
variable {ad:Addr} {R:Ending->World->Prop} {fn:Func} {N i sz:Nat} {y:Operand} {P:Program} {e t:TypeId} {w:World}
section
variable {P:Program}{L:Env}{w:World}{d:Option Nat}{T:TypeId}{pos:String}{af:Array Edge}{g:Option (Nat×Bool)}
theorem qa{b:Nat}[c:wq P t b e sz]{x:Operand}{i:Int}(k:Nat)(h:cg L x=some (.pointer (some ad)))(j:cg L y=some (Iv i))(l:i=(k:Int))(m:k<b):
 St P ⟨d,.indexAddr t x y,T,pos,af,g⟩ L w (.pointer (some (ad.add (k*sz)))):=
 ⟨λ_ a f p _=>by
  subst l;have n:=f.eval h;have o:=f.eval j;generalize a.eval=ρ at*;simp[execOp,n,o,Instr.indexAt,Instr.sureAddr,asIntOf,run_underlying c.mg,run_sizeOf c.size,m]⟩
end
theorem ah.MP{n:Nat}{L:Env}(c:fn.results= #[])(h:R (.returned (.tuple #[])) w):ah n (bodyPost P fn R) .ret L w:=
 ⟨λa b=>⟨b.defers,_,by simpa using lG.results (rs:=[]) c .nil b,h⟩⟩
theorem ah.vG{n:Nat}{L:Env}(c:fn.results= #[])(h:R (.returned (.tuple #[])) w):ah n (bodyPost P fn R) .normal L w:=
 ⟨λa b=>⟨b.defers,_,by simpa using lG.results (rs:=[]) c .nil b,h⟩⟩
def gU(p:Nat->Bool)(N:Nat)(a:Bool):List Value:=(marksOf p N).map Value.bool++[.bool a]
theorem sd(p:Nat->Bool)(N:Nat)(a:Bool):(gU p N a).length=N+1:=by simp[gU,marksOf]
theorem wE(p:Nat->Bool)(N:Nat)(a:Bool):(gU p N a)[N]?=some (.bool a):=by
 unfold gU<;>grind[gU,List.getElem?_append_right,marksOf]
theorem HN(p:Nat->Bool)(N:Nat)(a:Bool)(h:i<N):(gU p N a)[i]?=some (.bool (p i)):=by
 unfold gU<;>grind[gU,List.getElem?_append_left,marksOf]
theorem rN(p:Nat->Bool)(N:Nat)(a b:Bool):(gU p N a).set N (.bool b)=gU p N b:=by
 simp_all[gU,List.set_append_right,marksOf]
theorem Fx(p:Nat->Bool)(N:Nat)(a:Bool)(h:i<N):(gU p N a).set i (.bool true)=gU (λj=>if j=i then true else p j) N a:=by
 unfold gU;rw[List.set_append_left _ _ (by grind[marksOf]),<-pZ,QN]
theorem o7{p q:Nat->Bool}{a:Bool}(h:∀i,i<N->p i=q i):gU p N a=gU q N a:=by
 grind[gU,iw]
theorem DG(b:Nat)(p:Nat->Bool)(d:Bool)(N:Nat)(G:N=256)(a n:Int)(w:World)(s:ay w b 178 (gU p N d))(J:0<=n∧n<=16):
 jX prog 143 [Pt b,Iv a,Iv n] w λv o=>∃p' f,ay o b 178 (gU p' N f)∧w.grownBy o (some b)∧((Mp p a n∧f=d∧p'=AR p a n)∨(¬Mp p a n∧f=true)):=by
 refine c8 func143 rfl ntmps143 rfl ?_;have t:w.grownBy w (some b):=World.grownBy.refl _ _;have r:=Ext.refl w;by_cases u:0<=a∧a<256∧n<=256-a
 ·obtain⟨x,C,K⟩:=id u;obtain⟨k,rfl⟩:=Pm x;obtain⟨m,rfl⟩:=Pm J.1;refine Wz ?_
  refine CW.loop (λj:Nat=>[(0,Pt b),(1,Iv (k:Int)),(2,Iv (m:Int)),(6,Iv ((k+j:Nat):Int))])
   (λj o=>j<=m∧ay o b 178 (gU (AR p k (j:Int)) N d)∧w.grownBy o (some b)∧∀i:Nat,k<=i->i<k+j->p i=false) (λj=>m-j) 0
   ⟨rfl,rfl,rfl,rfl,trivial⟩ ⟨by omega,by rwa[o7 (q:=p) (λi _=>by simp[AR]<;>omega)],t,λi x C=>by omega⟩ ?_
  rintro j o ⟨O,s,D,H⟩;have r:=Ext.refl o;by_cases L:j<m
  ·have y:k+j<N:=Y;have I:=s.cell (HN _ N d y);have M:AR p k (j:Int) (k+j)=p (k+j):=by simp[AR]
   rw[M]at I;have l:o.cell? (((⟨b,0,none⟩:Addr).add 0).add ((k+j)*1))=some (.bool (p (k+j))):=by rw[add_add];simpa using I
   cases B:p (k+j)
   ·rw[B]at l;repeat'(first|refine Wz ?_|refine Wl (l) ?_|(refine SW.st (qa (k+j) rfl rfl rfl Y) rfl ?_))
    have z:(⟨b,0,none⟩:Addr).add (k+j)=((⟨b,0,none⟩:Addr).add 0).add ((k+j)*1):=by rw[add_add];simp
    refine SW.mJ (i:=k+j) s (by rw[z];rfl) rfl rfl (by rw[sd];simp;omega) λA c g=>?_
    rw[Fx _ _ _ y,o7 (q:=AR p k ((j+1:Nat):Int)) (λi _=>by
     by_cases e:i=k+j
     ·subst e;simp[AR];omega
     simp only[e,if_false,AR];congr 1
     by_cases P:i<k+j
     ·rw[decide_eq_true (show(i:Int)<(k:Int)+(j:Int)by omega),decide_eq_true (show(i:Int)<(k:Int)+((j+1:Nat):Int)by omega)]
     rw[decide_eq_false (show¬(i:Int)<(k:Int)+(j:Int)by omega),decide_eq_false (show¬(i:Int)<(k:Int)+((j+1:Nat):Int)by omega)])]at c
    have E:=cU D g (.inl Z);have r:=Ext.refl A;refine Wz ?_;refine ah.again (j+1) ⟨Z,Z,Z,Z,trivial⟩ Y ⟨by omega,c,E,λi x C=>?_⟩;by_cases e:i=k+j
    ·subst e;exact B
    exact H i x Y
   rw[B]at l;repeat'(first|refine Wz ?_|refine Wl (l) ?_|(refine SW.st (qa (k+j) Z Z Z Y) Z ?_))
   subst G;refine SW.mJ (i:=256) s Z Z Z (by rw[sd];rfl) λA c g=>?_;rw[rN]at c;have r:=Ext.refl A;refine Wz ?_;exact ah.MP Z ⟨_,Z,_,true,c,cU D g (.inl Z),.inr ⟨(λh=>by have:=h.2.2.2 (k+j) Y Y;rw[B]at this;cases this),Z⟩⟩
  obtain rfl:j=m:=Y;refine Wz ?_;exact ah.vG Z ⟨_,Z,_,d,s,D,.inl ⟨⟨x,C,K,λi Q R=>H i Y Y⟩,Z,Z⟩⟩
 have F:¬Mp p a n:=λh=>u ⟨h.1,h.2.1,h.2.2.1⟩;subst G;repeat'(first|refine Wz ?_|refine SW.dP Z Z Z (λh=>?_) (λh=>?_))
 all_goals
  first
   | (exfalso;omega)
   | (refine SW.mJ (i:=256) s Z Z Z (by rw[sd];rfl) λA c g=>?_
      rw[rN]at c;have r:=Ext.refl A;refine Wz ?_;exact ah.MP Z ⟨_,Z,_,true,c,g,.inr ⟨F,Z⟩⟩)
variable {α:Type} {b:Nat} {w':World} {r0 r1:cM} {z0 z1:ap}
def Marks(w:World)(b N:Nat):Option (List Block)->Prop
 | some bs=>ay w b 178 (gU (ed bs) N false)
 | none=>∃p,ay w b 178 (gU p N true)
theorem Marks.ext{s:Option (List Block)}(h:Marks w b N s)(a:Ext w w'):Marks w' b N s:=by
 cases s with
 | none=>obtain⟨p,h⟩:=h;exact⟨p,ay.ext h a⟩
 | some bs=>exact ay.ext h a
theorem Marks.bad{s:Option (List Block)}(h:Marks w b N s)(a:N=256):w.cell? ((⟨b,0,none⟩:Addr).add 256)=some (.bool s.isNone):=by
 subst a;cases s with
 | none=>obtain⟨p,h⟩:=h<;>grind[ay.cell,wE]
 | some bs=>exact ay.cell h (wE _ _ _)
theorem Marks.gr{s:Option (List Block)}(h:Marks w b N s)(a:w.grownBy w' (some b)):oe w w' 178:=by
 cases s with
 | none=>obtain⟨p,h⟩:=h;exact ay.gr h a
 | some bs=>exact ay.gr h a
theorem uo(b:Nat)(s:Option (List Block))(x:Block)(N:Nat)(m:N=256)(w:World)(n:Marks w b N s)(o:p7 s)(g:1<=pw x.Order∧pw x.Order<=16):
 jX prog 143 [Pt b,Iv x.At,Iv (pw x.Order)] w λv f=>Marks f b N (kn s x)∧w.grownBy f (some b):=by
 cases s with
 | none=>
   obtain⟨p,q⟩:=n;refine⟨Calls.mono (DG b p true N m x.At (pw x.Order) w q ⟨by omega,g.2⟩).out ?_⟩;rintro e f ⟨v,j,p',c,a,k,h⟩;refine⟨v,j,?_,k⟩;have:c=true:=by rcases h with⟨_,h,_⟩|⟨_,h⟩<;>exact h
   subst this;exact⟨p',a⟩
 | some bs=>
   refine⟨Calls.mono (DG b (ed bs) false N m x.At (pw x.Order) w n ⟨by omega,g.2⟩).out ?_⟩;rintro e f ⟨v,j,p',c,a,k,h⟩;refine⟨v,j,?_,k⟩;have d:=rh (o bs Z) (b:=x) g.1;rcases h with⟨l,rfl,rfl⟩|⟨l,rfl⟩
   ·have:kn (some bs) x=some (bs++[x]):=by simp[kn,d.1 l]
    rw[this];show ay f b _ _
    rw[<-o7 (λi _=>JQ bs x i)];exact a
   have:kn (some bs) x=none:=by
    simp only[kn];rw[if_neg (λr=>l (d.2 r))]
   rw[this];exact⟨p',a⟩
theorem uq(r s:cV)(a b:aC)(w:World)(o:r.ep=a.ep∧r.ap=a.ap∧r.Ty=a.Ty)(hb:s.ep=b.ep∧s.ap=b.ap∧s.Ty=b.Ty):
 aS prog 206 [.agg (fj r).toArray,.agg (fj s).toArray] w λv _=>v= .bool (decide (cd a b)):=by
 refine Wj func206 ntmps206 ?_;refine Ww λy z d j e=>?_;refine SW.box Z Z λA B f k p=>?_;obtain⟨d,e⟩:=bk f d e;obtain⟨q,t,u⟩:=o;obtain⟨x,g,i⟩:=hb;have c:cd a b↔(r.ep<s.ep∨(r.ep=s.ep∧(r.ap<s.ap∨(r.ap=s.ap∧r.Ty<s.Ty)))):=by unfold cd;rw[q,t,u,x,g,i]
 by_cases l:r.ep<s.ep
 ·rw[decide_eq_true (c.2 Y)];refine Wz ?_;all_goals first|(exfalso;omega)|exact ah.aF Z Z ⟨_,Z,d,by simp[l]⟩
 by_cases C:r.ep=s.ep
 ·by_cases m:r.ap<s.ap
  ·rw[decide_eq_true (c.2 Y)];refine Wz ?_;all_goals first|(exfalso;omega)|exact ah.aF Z Z ⟨_,Z,d,by simp[m]⟩
  by_cases D:r.ap=s.ap
  ·by_cases n:r.Ty<s.Ty
   ·rw[decide_eq_true (c.2 Y)];refine Wz ?_;all_goals first|(exfalso;omega)|exact ah.aF Z Z ⟨_,Z,d,by simp[n]⟩
   rw[decide_eq_false (λh=>by have:=c.1 h;omega)];refine Wz ?_;all_goals first|(exfalso;omega)|exact ah.aF Z Z ⟨_,Z,d,by simp[n]⟩
  rw[decide_eq_false (λh=>by have:=c.1 h;omega)];refine Wz ?_;all_goals first|(exfalso;omega)|exact ah.aF Z Z ⟨_,Z,d,by simp[m]⟩
 rw[decide_eq_false (λh=>by have:=c.1 h;omega)];refine Wz ?_;all_goals first|(exfalso;omega)|exact ah.aF Z Z ⟨_,Z,d,by simp[l]⟩
theorem wV(r s:cV)(a b:aC)(w:World)(o:r.ep=a.ep∧r.ap=a.ap∧r.Ty=a.Ty)(hb:s.ep=b.ep∧s.ap=b.ap∧s.Ty=b.Ty):
 aS prog 184 [.agg (fj r).toArray,.agg (fj s).toArray] w λv _=>v= .bool (decide (cd a b)):=by
 refine Wj func184 ntmps184 ?_;refine Ww λy z d j e=>?_;refine SW.box Z Z λA B f k p=>?_;obtain⟨d,e⟩:=bk f d e;obtain⟨q,t,u⟩:=o;obtain⟨x,g,i⟩:=hb;have c:cd a b↔(r.ep<s.ep∨(r.ep=s.ep∧(r.ap<s.ap∨(r.ap=s.ap∧r.Ty<s.Ty)))):=by unfold cd;rw[q,t,u,x,g,i]
 by_cases l:r.ep<s.ep
 ·rw[decide_eq_true (c.2 Y)];refine Wz ?_;all_goals first|(exfalso;omega)|exact ah.aF Z Z ⟨_,Z,d,by simp[l]⟩
 by_cases C:r.ep=s.ep
 ·by_cases m:r.ap<s.ap
  ·rw[decide_eq_true (c.2 Y)];refine Wz ?_;all_goals first|(exfalso;omega)|exact ah.aF Z Z ⟨_,Z,d,by simp[m]⟩
  by_cases D:r.ap=s.ap
  ·by_cases n:r.Ty<s.Ty
   ·rw[decide_eq_true (c.2 Y)];refine Wz ?_;all_goals first|(exfalso;omega)|exact ah.aF Z Z ⟨_,Z,d,by simp[n]⟩
   rw[decide_eq_false (λh=>by have:=c.1 h;omega)];refine Wz ?_;all_goals first|(exfalso;omega)|exact ah.aF Z Z ⟨_,Z,d,by simp[n]⟩
  rw[decide_eq_false (λh=>by have:=c.1 h;omega)];refine Wz ?_;all_goals first|(exfalso;omega)|exact ah.aF Z Z ⟨_,Z,d,by simp[m]⟩
 rw[decide_eq_false (λh=>by have:=c.1 h;omega)];refine Wz ?_;all_goals first|(exfalso;omega)|exact ah.aF Z Z ⟨_,Z,d,by simp[l]⟩
structure AU(w:World)(r:fB)(h:Heap)(r0 r1:cM)(z0 z1:ap):Prop where
 rd:AQ w r h
 eq:h.aK=[z0,z1]
 n:r.aK.n=2
 row:Sl w 4 bu r.aK.A r.aK.n [r0,r1]
 z0:vD w r0 z0
 z1:vD w r1 z1
theorem AU.ext{r:fB}{h:Heap}(a:AU w r h r0 r1 z0 z1)(b:Ext w w'):AU w' r h r0 r1 z0 z1:=
 ⟨a.rd.ext b,a.eq,a.n,a.row.ext b,a.z0.ext b,a.z1.ext b⟩
theorem AU.c0{r:fB}{h:Heap}(a:AU w r h r0 r1 z0 z1)(j:Nat)(u:Value)(b:(bu r0)[j]?=some u):w.cell? (((r.aK.A.getD default).add (0*4)).add j)=some u:=a.row.cell 0 fy j u b
theorem AU.c1{r:fB}{h:Heap}(a:AU w r h r0 r1 z0 z1)(j:Nat)(u:Value)(b:(bu r1)[j]?=some u):w.cell? (((r.aK.A.getD default).add (1*4)).add j)=some u:=a.row.cell 1 fy j u b
theorem sk{l:List α}(h:l.length=2):∃a b,l=[a,b]:=by
 match l,h with
 | [a,b],_=>grind
theorem AQ.two{r:fB}{h:Heap}(a:AQ w r h)(k:h.aK.length=2):∃c d e f,AU w r h c d e f:=by
 obtain⟨l,b⟩:=a.bA;obtain⟨e,f,g⟩:=sk k;have n:=b.each.len;obtain⟨c,d,m⟩:=sk (show l.length=2 by omega);subst m;have o:=b.row.len;have i:=b.each.get 0 fy Y;have j:=b.each.get 1 fy Y;simp only[g]at i j;exact⟨c,d,e,f,a,g,by omega,b.row,i,j⟩
theorem HZ(r:fB)(h:Heap)(f g:cM)(c i:ap)(x:Int)(w:World)(a:AU w r h f g c i):
 aS prog 157 [.agg (bg r).toArray,Iv x] w λv _=>v=Iv (if x<c.To then 0 else 1):=by
 refine Wj func157 ntmps157 ?_;refine Ww λk l b d j=>?_;have m:=a.n;have n:=a.row.base;have o:=a.z0.kW;by_cases e:x<c.To
 ·rw[if_pos e];repeat'(first|refine Wz ?_|refine SW.st (aU (0) Z Z ig Y Y) Z ?_|refine Wn b (a.c0 1 _ Z) ?_)
  exact ah.aF Z Z ⟨_,Z,b,Z⟩
 rw[if_neg e];repeat'(first|refine Wz ?_|refine SW.st (aU (0) Z Z ig Y Y) Z ?_|refine Wn b (a.c0 1 _ Z) ?_)
 exact ah.aF Z Z ⟨_,Z,b,Z⟩
variable {cpus:Int} {j k:Nat} {w1 w2:World}
structure GB(w w':World)(b:Nat):Prop where
 g:w.grownBy w' (some b)
theorem GB.refl(w:World)(b:Nat):GB w w b:=⟨World.grownBy.refl _ _⟩
theorem GB.ext(h:GB w w1 b)(a:Ext w1 w2):GB w w2 b:=⟨cU h.g (a.gr (some b)) (.inl Z)⟩
theorem GB.step(h:GB w w1 b)(a:w1.grownBy w2 (some b)):GB w w2 b:=⟨cU h.g a (.inl Z)⟩
theorem H0(b:Nat)(s:Option (List Block))(p:Int)(N:Nat)(c:N=256)(w:World)(d:Marks w b N s)(e:p7 s):
 jX prog 143 [Pt b,Iv p,Iv 1] w λv a=>Marks a b N (kn s (bC p))∧w.grownBy a (some b):=by
 have h:=uo b s (bC p) N c w d e (by simp[bC,im]);simp only[bC,im]at h⊢;exact h
def J2(w d:World)(b N:Nat)(s:Option (List Block))(h:Heap)(c:Int)(v:Value)(a:World):Prop:=
 Ext w a∧d.grownBy a (some b)∧((v= .bool true∧mh h.bl c h.ak∧Marks a b N (bh s (aM h.ak)))∨(v= .bool false∧¬(mh h.bl c h.ak∧(bh s (aM h.ak)).isSome=true)))
structure CO(cpus to:Int)(ls:List aC)(k:Nat):Prop where
 head:∀(i:Nat)(h:i<ls.length),i<k->j4 cpus ls[i]
 next:∀(i:Nat)(h:i+1<ls.length),i+1<k->cd ls[i] ls[i+1]
 fX:∀(i:Nat)(h:i<ls.length),i<k->∀p∈(ls[i]).aq,(p<to↔(ls[i]).ap=0)
theorem CO.nil(cpus a:Int)(b:List aC):CO cpus a b 0:=⟨λi _ h=>by omega,λi _ h=>by omega,λi _ h=>by omega⟩
theorem CO.all{c:Int}{b:List aC}(h:CO cpus c b k)(d:b.length<=k):mh cpus c b:=⟨λi a=>h.head i a Y,λi a=>h.next i a Y,λi a=>h.fX i a Y⟩
theorem CO.snoc{d:Int}{a:List aC}(h:CO cpus d a k)(f:k<a.length)(g:j4 cpus a[k])(j:∀(h:0<k),cd a[k-1] a[k])(l:∀p∈(a[k]).aq,(p<d↔(a[k]).ap=0)):CO cpus d a (k+1):=by
 refine⟨λi b c=>?_,λi b c=>?_,λi b c=>?_⟩
 ·by_cases e:i=k
  ·grind
  exact h.head i b Y
 ·by_cases e:i+1=k
  ·grind
  exact h.next i b Y
 by_cases e:i=k
 ·grind
 exact h.fX i b Y
theorem va{s:Option (List Block)}{a:List aC}(b:k<a.length)(c:j<=(a[k]).aq.length)(h:bh (bh s (aM (a.take k))) (((a[k]).aq.take j).map bC)=none):bh s (aM a)=none:=by
 rw[<-bF]at h
 have e:aM a=(aM (a.take k)++((a[k]).aq.take j).map bC)++(((a[k]).aq.drop j).map bC++aM (a.drop (k+1))):=by
  have d:a=a.take (k+1)++a.drop (k+1):=by simp
  have f:((a[k]).aq.take j).map bC++((a[k]).aq.drop j).map bC=(a[k]).aq.map bC:=by rw[<-PO,Pz]
  grind[aM,nE,List.append_assoc]
 rw[e,bF,h,il]
theorem H3(r:fB)(h:Heap)(r0 r1:cM)(K z1:ap)(b N:Nat)(hN:N=256)(s:Option (List Block))(w L:World)(g:Ext w L)(za:w.heap.size<=b)(hr:AU w r h r0 r1 K z1)(o:Marks L b N s)(zb:p7 s)(zq:r.ak.n<=1000000000000000000):
 jX prog 144 [.agg (bg r).toArray,Pt b] L (J2 w L b N s h K.To):=by
 refine c8 func144 rfl ntmps144 rfl ?_;have n:=GB.refl L b;refine Ww λX w2 R zo c=>?_;obtain⟨g,o,n⟩:=aY R g o n;obtain⟨m,P⟩:=hr.rd.lists;have S:=hr.rd.cpus;obtain⟨zr,zs⟩:=P.len;have hA:=P.row.base;refine Wz ?_
 refine CW.loop (λk:Nat=>[(1,Pt b),(2,Pt X),(10,.slice r.ak.A r.ak.n r.ak.c),(11,Iv (r.ak.n:Int)),(12,Iv (k:Int))])
  (λk t=>k<=r.ak.n∧Ext w t∧GB L t b∧ay t X 34 (bg r)∧Marks t b N (bh s (aM (h.ak.take k)))∧CO h.bl K.To h.ak k) (λk=>r.ak.n-k) 0
  ⟨Z,Z,Z,Z,Z,trivial⟩ ⟨by omega,g,n,c,o,.nil _ _ _⟩ ?_
 rintro k t ⟨hk,g,n,c,o,hP⟩;by_cases zc:k<r.ak.n
 ·have zd:k<m.length:=Y;have B:k<h.ak.length:=Y;have C:=P.each.get k zd B;have ze:=C.cpu;have zf:=C.fX;have zg:=C.ty;have zt:=C.bt.len;have zu:=C.bt.base;have zh:=C.bt;have I:=P.row.all zc;have A:=P.row.all (i:=k-1) (show k-1<r.ak.n by omega)
  have zi:p7 (bh s (aM (h.ak.take k))):=kw zb λx Q=>by
   unfold aM at Q;obtain⟨y,_,T⟩:=Py.1 Q;obtain⟨p,_,rfl⟩:=Pw.1 T;simp[bC,im]
  repeat'(first|refine Wz ?_|refine Wo g ((I)) ?_)
  refine SW.alloc Z λb6 G a D f=>?_;refine Wz ?_;refine Wg f (gG.one (enc:=fj) _) λw2 J hg=>?_;have U:=a.own D hg;have V:=g.up D;obtain⟨g,c,o,n⟩:=cG U g c o n;have f:=J;refine Wz ?_;by_cases M:j4 r.bl h.ak[k]
  ·obtain⟨e1,e2,e3,e4⟩:=id M;obtain⟨q,hq⟩:=bq (decide (cd (h.ak[k-1]'Y) h.ak[k]));have E:=P.each.get (k-1) Y Y
   have cL:∀t,aS prog 206 [.agg (fj (m[k-1]'Y)).toArray,.agg (fj m[k]).toArray] t λv _=>v= .bool q:=λt=>by
    have:=uq (m[k-1]'Y) m[k] (h.ak[k-1]'Y) h.ak[k] t ⟨E.cpu,E.fX,E.ty⟩ ⟨ze,zf,zg⟩;rwa[hq]at this
   have F:k=0∨(0<k∧q=true)∨(0<k∧q=false):=by cases q<;>simp<;>omega
   rw[or_comm,or_assoc]at F;rcases F with⟨W,rfl⟩|⟨W,rfl⟩|W
   rotate_left
   ·repeat'(first|refine Wz ?_|(first|refine CW.bQ Z ?_|(apply CW.dF mixed;(·kernel_rfl);rotate_left;intro G a;obtain⟨g,c,f,o,n⟩:=dz a g c f o n;rotate_right))|refine SW.st (aU (k-1) Z Z ig Y Y) Z ?_|refine Wo g ((A)) ?_|refine SW.ba Z Z (λG a=>(cL _)) ?_|exact SW.br Z)
    exact ah.aF Z Z ⟨_,Z,g,n.g,.inr ⟨Z,λH=>by
     have:=H.1.next (k-1) Y
     simp only[show k-1+1=k by omega]at this;exact of_decide_eq_false hq this⟩⟩
   all_goals
    have zj:∀(h0:0<k),cd (h.ak[k-1]'Y) h.ak[k]:=λh0=>by first|exact of_decide_eq_true hq|omega
    repeat'(first|refine Wz ?_|(first|refine CW.bo Z ?_|(apply CW.dF mixed;(·kernel_rfl);rotate_left;intro G a;obtain⟨g,c,f,o,n⟩:=dz a g c f o n;rotate_right))|refine SW.st (aU (k-1) Z Z ig Y Y) Z ?_|refine Wo g ((A)) ?_|refine SW.ba Z Z (λG a=>(cL _)) ?_|exact SW.br Z)
    refine CW.loop (λj:Nat=>[(1,Pt b),(2,Pt X),(6,Pt b6),(10,.slice r.ak.A r.ak.n r.ak.c),(11,Iv (r.ak.n:Int)),(12,Iv (k:Int)),(75,.slice m[k].aq.A m[k].aq.n m[k].aq.c),(76,Iv (m[k].aq.n:Int)),(77,Iv (j:Int))])
     (λj t=>j<=m[k].aq.n∧Ext w t∧GB L t b∧ay t X 34 (bg r)∧ay t b6 100 (fj m[k])∧Marks t b N (bh (bh s (aM (h.ak.take k))) ((h.ak[k].aq.take j).map bC))∧∀(i:Nat)(hi:i<h.ak[k].aq.length),i<j->(h.ak[k].aq[i]<K.To↔h.ak[k].ap=0)) (λj=>m[k].aq.n-j) 0
     ⟨Z,Z,Z,Z,Z,Z,Z,Z,Z,trivial⟩ ⟨by omega,g,n,c,f,o,λi _ h=>by omega⟩ ?_
    rintro j t ⟨hj,g,n,c,f,o,hZ⟩;by_cases zk:j<m[k].aq.n
    ·have zl:j<h.ak[k].aq.length:=Y;repeat'(first|refine Wz ?_|refine Wn g (zh.one zk Z) ?_)
     refine SW.cm Z Z (H0 b _ h.ak[k].aq[j] N hN _ o (kw zi λx Q=>by
      obtain⟨p,_,rfl⟩:=Pw.1 Q;simp[bC,im])) λv w5 hv=>?_
     obtain⟨u,O⟩:=hv;have hG:=o.gr O;have g:=g.own za O;have n:=n.step O;obtain⟨c,f⟩:=bk hG c f
     have e5:kn (bh (bh s (aM (h.ak.take k))) ((h.ak[k].aq.take j).map bC)) (bC h.ak[k].aq[j])=bh (bh s (aM (h.ak.take k))) ((h.ak[k].aq.take (j+1)).map bC):=by
      rw[Pk zl,PO,bF];rfl
     rw[e5]at u;have z:=u.bad hN;generalize hp:h.ak[k].aq[j]=p;obtain⟨y,T⟩:=bq ((if p<K.To then(0:Int)else 1))
     have cZ:∀t,Ext w t->aS prog 157 [.agg (bg r).toArray,Iv p] t λv _=>v=Iv y:=λt Q=>by
      have:=HZ r h r0 r1 K z1 p t (hr.ext Q);rwa[T]at this
     cases hs:bh (bh s (aM (h.ak.take k))) ((h.ak[k].aq.take (j+1)).map bC)with
     | none=>
       rw[hs]at z;repeat'(first|refine Wz ?_|refine fq ?_|refine SW.skip Z Z Z Z ?_|refine Wl z ?_|(refine SW.br λG a=>?_;obtain⟨g,c,f,u,n⟩:=dz a g c f u n))
       exact ah.aF Z Z ⟨_,Z,g,n.g,.inr ⟨Z,λH=>by
        have:=H.2;rw[va B Y hs]at this;cases this⟩⟩
     | some bs=>
       rw[hs]at z;by_cases hz:y=m[k].ap
       ·repeat'(first|refine Wz ?_|refine fq ?_|refine SW.want Z Z ?_|refine Wl z ?_|refine SW.ba Z Z (λG a=>(cZ _ (g.trans a))) ?_|(refine SW.br λG a=>?_;obtain⟨g,c,f,u,n⟩:=dz a g c f u n))
        refine ah.again (j+1) ⟨Z,Z,Z,Z,Z,Z,Z,Z,Z,trivial⟩ Y ⟨by omega,g,n,c,f,u,λi hi zv=>?_⟩;by_cases e:i=j
        ·subst e;rw[hp];split at T<;>constructor<;>intro _<;>omega
        exact hZ i hi Y
       repeat'(first|refine Wz ?_|refine fq ?_|refine SW.want Z Z ?_|refine Wl z ?_|refine SW.ba Z Z (λG a=>(cZ _ (g.trans a))) ?_|(refine SW.br λG a=>?_;obtain⟨g,c,f,u,n⟩:=dz a g c f u n))
       exact ah.aF Z Z ⟨_,Z,g,n.g,.inr ⟨Z,λH=>by
        have:=H.1.fX k B p (by rw[<-hp];exact Pf _);split at T<;>omega⟩⟩
    obtain rfl:j=m[k].aq.n:=Y;rw[Pl (l:=h.ak[k].aq) Y,<-bF,<-nE _ _ B]at o;refine Wz ?_;refine ah.again (k+1) ⟨Z,Z,Z,Z,Z,trivial⟩ Y ⟨by omega,g,n,c,o,hP.snoc B (by rwa[<-S]) zj λp hp=>?_⟩;obtain⟨i,hi,rfl⟩:=Pg hp;exact hZ i hi Y
  have zm:¬mh h.bl K.To h.ak:=λH=>M (by have:=H.head k B;rwa[<-S]at this);have zp:¬(((0<=m[k].ep∧m[k].ep<r.bl)∧(0<=m[k].ap∧m[k].ap<=1)∧(0<=m[k].Ty∧m[k].Ty<=2)∧(1<=m[k].aq.n∧m[k].aq.n<=8))):=λH=>M (by unfold j4;omega);have zn:m[k].ep<0∨(0<=m[k].ep∧(r.bl<=m[k].ep∨(m[k].ep<r.bl∧(m[k].ap<0∨(0<=m[k].ap∧(1<m[k].ap∨(m[k].ap<=1∧(m[k].Ty<0∨(0<=m[k].Ty∧(3<=m[k].Ty∨(m[k].Ty<3∧(m[k].aq.n=0∨(0<m[k].aq.n∧8<m[k].aq.n))))))))))))):=Y;rcases zn with d|⟨d1,d|⟨d2,d|⟨d3,d|⟨d4,d|⟨d5,d|⟨d6,d|⟨d7,d⟩⟩⟩⟩⟩⟩⟩
  repeat'(first|refine Wz ?_|refine fq ?_|(refine SW.br λG a=>?_;obtain⟨g,c,f,o,n⟩:=dz a g c f o n))
  all_goals exact ah.aF Z Z ⟨_,Z,g,n.g,.inr ⟨Z,λH=>zm H.1⟩⟩
 obtain rfl:k=r.ak.n:=Y;rw[Pl (l:=h.ak) Y]at o;refine Wz ?_;exact ah.aF Z Z ⟨_,Z,g,n.g,.inl ⟨Z,hP.all Y,o⟩⟩
variable {l:List Block}
theorem qp:∀{s:Option (List Block)},(bh s l).isSome=true->∀b∈l,0<=b.At∧b.At+pw b.Order<=256:=by
 induction l with
 | nil=>grind
 | cons x l c=>
   intro s h b hb;have h':(bh (kn s x) l).isSome=true:=h;rcases Qr.1 hb with rfl|hb
   ·cases e:kn s b with
    | none=>grind[il]
    | some bs=>obtain⟨cs,_,a,_⟩:=ot e;exact⟨a.1,a.2.1⟩
   grind
def Bw(b:Block):Prop:=(0<=b.Order∧b.Order<=4)∧0<=b.At∧b.At % pw b.Order=0∧iu b.Ty
structure wW(l:List Block)(k:Nat):Prop where
 each:∀(i:Nat)(h:i<l.length),i<k->Bw l[i]
 next:∀(i:Nat)(h:i+1<l.length),i+1<k->l[i].At<l[i+1].At
theorem wW.nil(l:List Block):wW l 0:=⟨λi _ h=>by omega,λi _ h=>by omega⟩
theorem wW.snoc(h:wW l k)(c:k<l.length)(d:Bw l[k])(f:∀(h:0<k),l[k-1].At<l[k].At):wW l (k+1):=by
 refine⟨λi a b=>?_,λi a b=>?_⟩
 ·by_cases e:i=k
  ·grind
  exact h.each i a Y
 by_cases e:i+1=k
 ·grind
 exact h.next i a Y
theorem wW.ok{s:Option (List Block)}(h:wW l k)(g:l.length<=k)(c:(bh s l).isSome=true):fP l:=by
 refine⟨λi a=>?_,λi a=>h.next i a Y⟩;obtain⟨b,d,e,f⟩:=h.each i a Y;have j:=qp c _ (Pf a);have m:=bP b.1 b.2;exact⟨b,⟨d,by omega⟩,e,f⟩
def AV(n:Int):Bool:=decide (n<0)||decide (256<n)
theorem J3(x:Int)(w:World):aS prog 142 ([Iv x]++[]) w λv _=>v= .bool (AV x):=by
 refine Wj func142 ntmps142 ?_;have b:=Ext.refl w;have a:x<0∨(0<=x∧(256<x∨x<=256)):=Y;rcases a with d|⟨c,d|d⟩
 repeat'(first|refine Wz ?_|fail);all_goals exact ah.aF rfl rfl ⟨_,rfl,b,by unfold AV;simp;omega⟩
def ew(z:ap):Prop:=(-9223372036854775808<=z.aE∧z.aE<=9223372036854775807)∧(-9223372036854775808<=z.To∧z.To<=9223372036854775807)
def sn(h:Heap):Prop:=h.aK.length=2∧h.bY.length=2∧1<=h.bl∧h.bl<=4
instance (h:Heap):Decidable (sn h):=inferInstanceAs (Decidable (_∧_))
theorem bf.Nv{h:Heap}(a:bf h):sn h:=by
 obtain⟨b,c,e,_⟩:=a.bA;obtain⟨m0,m1,d,_⟩:=a.cx;exact⟨by grind,by grind,a.cpus⟩
structure v5(h:Heap)(z0 z1:ap):Prop where
 one:bV z0
 two:bV z1
 from_:z0.aE=0
 AT:z0.To=z1.aE
 kW:z1.To=256
 cx:h.bY.any AV=false
theorem bf.front{h:Heap}(a:bf h)(e:h.aK=[z0,z1]):v5 h z0 z1:=by
 obtain⟨j,k,b,c,d,f,g,i,_⟩:=a.bA;rw[e]at b;simp only[List.cons.injEq,and_true]at b;obtain⟨rfl,rfl⟩:=b;obtain⟨m0,m1,b,l,m⟩:=a.cx;exact⟨c,d,f,g,i,by rw[b];grind[AV]⟩
def mT(h:Heap)(a b:ap):Option (List Block):=bh (some []) (a.ai++b.ai)
theorem bf.rest{h:Heap}(a:bf h)(e:h.aK=[z0,z1]):mh h.bl z0.To h.ak∧fP h.Live∧(bh (bh (mT h z0 z1) (aM h.ak)) h.Live).isSome=true:=by
 obtain⟨f,g,b,i,j,k,l,m,d,c⟩:=a.bA;rw[e]at b;simp only[List.cons.injEq,and_true]at b;obtain⟨rfl,rfl⟩:=b;refine⟨d,a.live,?_⟩;rw[bF,bF]at c;exact c
theorem bf.of{h:Heap}(e:h.aK=[z0,z1])(b:sn h)(a:v5 h z0 z1)(c:mh h.bl z0.To h.ak)(d:fP h.Live)(f:(bh (bh (mT h z0 z1) (aM h.ak)) h.Live).isSome=true):bf h:=by
 refine⟨⟨z0,z1,e,a.one,a.two,a.from_,a.AT,a.kW,c,?_⟩,?_,b.2.2,d⟩
 ·rw[bF,bF];exact f
 obtain⟨m0,m1,g⟩:=sk b.2.1;have:=a.cx;grind[AV]
theorem ph(r:fB)(h:Heap)(w:World)(W:AQ w r h)(hs:h.small)(zo:∀z∈h.aK,ew z):
 aS prog 70 [.agg (bg r).toArray] w λv _=>v=Iv (if gd h then 0 else 8):=by
 refine Wj func70 ntmps70 ?_;refine Ww λb1 X f zU e=>?_;have zX:=W.cpus;have z2:=W.cx.len;obtain⟨zH,zp⟩:=W.bA;obtain⟨zq,z3⟩:=zp.len;by_cases hd:sn h
 ·obtain⟨d1,d2,d3⟩:=id hd;obtain⟨E,J,K,L,g⟩:=W.two d1;have o:=g.eq;have hA:=g.row.base;have zI:=zo K (by rw[o];simp);have zr:=zo L (by rw[o];simp);have s0:=hs.free K (by rw[o];simp);have s1:=hs.free L (by rw[o];simp);have z4:=g.z0.from_;have z5:=g.z0.kW;have z6:=g.z1.from_;have z7:=g.z1.kW;have l0:=g.z0.free.len;have l1:=g.z1.free.len;have t0:=g.z0.types.len;have t1:=g.z1.types.len;unfold ew at zI zr;obtain⟨q0,ze⟩:=bq (dZ K);obtain⟨q1,zf⟩:=bq (dZ L)
  have c0:∀u,Ext w u->aS prog 127 [.agg (bu E).toArray] u λv _=>v=Iv (if q0 then 0 else 8):=λu F=>by
   have:=km E K u (g.z0.ext F) Y Y Y Y;rwa[ze]at this
  have c1:∀u,Ext w u->aS prog 127 [.agg (bu J).toArray] u λv _=>v=Iv (if q1 then 0 else 8):=λu F=>by
   have:=km J L u (g.z1.ext F) Y Y Y Y;rwa[zf]at this
  have zJ:(q0=true∧q1=true)∨(q0=false)∨(q0=true∧q1=false):=by cases q0<;>cases q1<;>simp
  rcases zJ with⟨rfl,rfl⟩|rfl|⟨rfl,rfl⟩
  all_goals simp only[if_true,Bool.false_eq_true,if_false]at c0 c1
  repeat'(first|refine Wz ?_|refine SW.st (aU (0) Z Z ig Y Y) Z ?_|refine SW.st (aU (1) Z Z ig Y Y) Z ?_|refine Wo f ((g.c0)) ?_|refine Wo f ((g.c1)) ?_|((first|refine Wk (c0 _ f) ?_|refine Wk (c1 _ f) ?_);intro v X n hv;subst hv;obtain⟨f,e⟩:=bk n f e))
  rotate_left
  ·exact ah.aF Z Z ⟨_,Z,f,by rw[fI (λA=>by have:=dj.2 (A.front o).one;rw[ze]at this;cases this)];rfl⟩
  ·exact ah.aF Z Z ⟨_,Z,f,by rw[fI (λA=>by have:=dj.2 (A.front o).two;rw[zf]at this;cases this)];rfl⟩
  have zg:=dj.1 ze;have zh:=dj.1 zf
  have cO:∀u,Ext w u->aS prog 141 [.slice r.bY.A r.bY.n r.bY.c,.func (.func 142) #[] ([]:List Value).toArray] u λv _=>v= .bool (h.bY.any AV):=λu h=>
   iJ _ _ _ _ _ (W.cx.ext h) _ [] AV (λx=>Iv x) (λx=>Z) (λx _ X _=>J3 x X) Y
  obtain⟨qm,zi⟩:=bq (h.bY.any AV);rw[zi]at cO;have M:(E.aE=0∧E.To=J.aE∧J.To=256∧qm=false)∨E.aE≠0∨(E.aE=0∧E.To≠J.aE)∨(E.aE=0∧E.To=J.aE∧J.To≠256)∨(E.aE=0∧E.To=J.aE∧J.To=256∧qm=true):=by cases qm<;>simp<;>omega
  rcases M with⟨d1,d2,d3,rfl⟩|d|⟨d1,d⟩|⟨d1,d2,d⟩|⟨d1,d2,d3,rfl⟩
  repeat'(first|refine Wz ?_|refine fq ?_|refine SW.st (aU (0) Z Z ig Y Y) Z ?_|refine SW.st (aU (1) Z Z ig Y Y) Z ?_|refine Wn f (g.c0 0 _ Z) ?_|refine Wn f (g.c0 1 _ Z) ?_|refine Wn f (g.c1 0 _ Z) ?_|refine Wn f (g.c1 1 _ Z) ?_|refine SW.ba Z Z (λX n=>(cO _ (f.trans n))) ?_|(refine SW.br λX n=>?_;obtain⟨f,e⟩:=bk n f e))
  rotate_left
  iterate 3 exact ah.aF Z Z ⟨_,Z,f,by rw[fI (λA=>by have:=A.front o;have:=this.from_;have:=(A.front o).AT;have:=(A.front o).kW;omega)];rfl⟩
  ·exact ah.aF Z Z ⟨_,Z,f,by rw[fI (λA=>by have:=(A.front o).cx;rw[zi]at this;cases this)];rfl⟩
  have zK:v5 h K L:=⟨zg,zh,by omega,by omega,by omega,zi⟩;have hn:=g.n
  have N:∀z∈h.aK,∀b∈z.ai,0<=b.Order∧b.Order<=4:=λz hz b hb=>by
   obtain⟨i,hi,rfl⟩:=Pg hb;rw[o]at hz;simp only[List.mem_cons,List.not_mem_nil,or_false]at hz;rcases hz with rfl|rfl
   ·exact⟨(zg.dm i hi).1.1,(zg.dm i hi).1.2.1⟩
   exact⟨(zh.dm i hi).1.1,(zh.dm i hi).1.2.1⟩
  have zs:∀k,p7 (bh (some []) ((h.aK.take k).flatMap ap.ai)):=λk=>kw Bm λx F=>by
   obtain⟨z,hz,F⟩:=Py.1 F;have:=N z (P5 hz) x F;exact(bP this.1 this.2).1
  refine SW.box Z Z λO w2 zt zu zv=>?_;have P:=f.up zu
  have t:Marks w2 O 256 (some []):=by
   refine Eq.mp (congrArg (λc=>ay w2 O 178 c) ?_) zv;kernel_rfl
  obtain⟨f,e⟩:=bk zt f e;repeat'(first|refine Wz ?_|fail)
  refine CW.loop (λk:Nat=>[(1,Pt b1),(3,Pt O),(81,.slice r.aK.A r.aK.n r.aK.c),(82,Iv (r.aK.n:Int)),(83,Iv (k:Int))])
   (λk u=>k<=2∧Ext w u∧ay u b1 34 (bg r)∧Marks u O 256 (bh (some []) ((h.aK.take k).flatMap ap.ai))) (λk=>2-k) 0
   ⟨Z,Z,Z,Z,Z,trivial⟩ ⟨by omega,f,e,t⟩ ?_
  rintro k u ⟨hk,f,e,t⟩;by_cases zw:k<2
  ·have zL:k<h.aK.length:=Y;have za:=g.row.all (i:=k) Y
   have Q:vD w ([E,J][k]'(by simpa using zw)) h.aK[k]:=by
    simp only[o];have:k=0∨k=1:=Y;rcases this with rfl|rfl
    ·exact g.z0
    exact g.z1
   generalize z8:([E,J][k]'(by simpa using zw))=rk at za Q;have zj:=N h.aK[k] (Pf _);have zM:=hs.free h.aK[k] (Pf _)
   have R:(h.aK.take (k+1)).flatMap ap.ai=(h.aK.take k).flatMap ap.ai++h.aK[k].ai:=by
    rw[Pk zL,PP];simp
   generalize h.aK[k]=zk at Q zj zM R;have z9:=Q.free.base;have ya:=Q.free.len;repeat'(first|refine Wz ?_|refine Wo f ((za)) ?_)
   refine Wr (ck _) λb5 w2 B zb zN=>?_;have zx:=f.up zb;obtain⟨f,e,t⟩:=aY B f e t;repeat'(first|refine Wz ?_|fail)
   refine CW.loop (λj:Nat=>[(1,Pt b1),(3,Pt O),(81,.slice r.aK.A r.aK.n r.aK.c),(82,Iv (r.aK.n:Int)),(83,Iv (k:Int)),(88,.slice rk.ai.A rk.ai.n rk.ai.c),(89,Iv (rk.ai.n:Int)),(90,Iv (j:Int))])
    (λj u=>j<=rk.ai.n∧Ext w u∧ay u b1 34 (bg r)∧Marks u O 256 (bh (bh (some []) ((h.aK.take k).flatMap ap.ai)) (zk.ai.take j))) (λj=>rk.ai.n-j) 0
    ⟨Z,Z,Z,Z,Z,Z,Z,Z,trivial⟩ ⟨by omega,f,e,t⟩ ?_
   rintro j u ⟨hj,f,e,t⟩;by_cases zO:j<rk.ai.n
   ·have zP:j<zk.ai.length:=Y;obtain⟨o1,o2⟩:=zj zk.ai[j] (Pf _);have hp:=bP o1 o2;repeat'(first|refine Wz ?_|refine Wo f ((Q.free.all zO)) ?_)
    refine Wr (gG.one (enc:=aL) _) λb7 w2 B zy zz=>?_;have zV:=f.up zy;obtain⟨f,e,t⟩:=aY B f e t;repeat'(first|refine Wz ?_|fail);refine CW.any 6 mixed (cy bm) Z λX n zl=>?_;obtain⟨f,e,t,zz⟩:=cG n f e t zz;refine Wa ?_;refine Wu 5 zl Z (fO (r:=pw zk.ai[j].Order) Z Z Y Y (by simp[pw]) Y Y) ?_;refine SA.fH ?_;refine SW.cm Z Z (uo O _ zk.ai[j] 256 Z _ t (kw (zs k) λx F=>by have:=zj x (P5 F);exact(bP this.1 this.2).1) ⟨by omega,by omega⟩) λv w5 hv=>?_;obtain⟨T,C⟩:=hv;have hG:=t.gr C;have f:=f.own P C;(have e:=e.aQ hG Z);rw[<-u5 _ _ _ zP]at T;repeat'(first|refine Wz ?_|fail);exact ah.again (j+1) ⟨Z,Z,Z,Z,Z,Z,Z,Z,trivial⟩ Y ⟨by omega,f,e,T⟩
   obtain rfl:j=rk.ai.n:=Y;rw[Pl (l:=zk.ai) Y,<-bF,<-R]at t;repeat'(first|refine Wz ?_|fail);exact ah.again (k+1) ⟨Z,Z,Z,Z,Z,trivial⟩ Y ⟨by omega,f,e,t⟩
  obtain rfl:k=2:=Y;have zm:=zs 2;have zQ:bh (some []) ((h.aK.take 2).flatMap ap.ai)=mT h K L:=by rw[o];simp[mT]
  rw[zQ]at t zm;repeat'(first|refine Wz ?_|fail);obtain⟨ls,zA⟩:=W.lists;have yb:=zA.len.2;have yc:=hs.lists;refine SW.cm Z Z (H3 r h E J K L O 256 Z (mT h K L) w _ f P g t zm Y) λv w5 hv=>?_;obtain⟨zB,C,zC⟩:=hv;have hG:=t.gr C;have f:=zB;(have e:=e.aQ hG Z);rcases zC with⟨rfl,hL,t⟩|⟨rfl,zR⟩
  rotate_left
  ·repeat'(first|refine Wz ?_|(refine CW.bQ Z ?_))
   exact ah.aF Z Z ⟨_,Z,f,by rw[fI (λA=>zR ⟨(A.rest o).1,gp (m:=h.Live) (by rw[bF];exact(A.rest o).2.2)⟩)];rfl⟩
  have zD:p7 (bh (mT h K L) (aM h.ak)):=kw zm λx F=>by
   unfold aM at F;obtain⟨y,_,hy⟩:=Py.1 F;obtain⟨p,_,rfl⟩:=Pw.1 hy;simp[bC,im]
  have U:bf h->(bh (bh (mT h K L) (aM h.ak)) h.Live).isSome=true:=λA=>(A.rest o).2.2;have zE:fP h.Live->(bh (bh (mT h K L) (aM h.ak)) h.Live).isSome=true->bf h:=λa b=>bf.of o hd zK hL a b;generalize bh (mT h K L) (aM h.ak)=S at t zD U zE;have zF:=W.live;have yd:=W.live.len;have ye:=W.live.base;have yf:=hs.live;repeat'(first|refine Wz ?_|fail)
  refine CW.loop (λk:Nat=>[(1,Pt b1),(3,Pt O),(108,.slice r.Live.A r.Live.n r.Live.c),(109,Iv (r.Live.n:Int)),(110,Iv (k:Int))])
   (λk u=>k<=r.Live.n∧Ext w u∧ay u b1 34 (bg r)∧Marks u O 256 (bh S (h.Live.take k))∧wW h.Live k) (λk=>r.Live.n-k) 0
   ⟨Z,Z,Z,Z,Z,trivial⟩ ⟨by omega,f,e,t,.nil _⟩ ?_
  rintro k u ⟨hk,f,e,t,hP⟩;by_cases zS:k<r.Live.n
  ·have zn:k<h.Live.length:=Y;have zT:k-1<r.Live.n:=Y
   have G:bf h->p9 h.Live[k]∧(0<k->(h.Live[k-1]'Y).At<h.Live[k].At):=λA=>⟨A.live.each k zn,λh0=>by
    have:=A.live.next (k-1) Y
    simpa only[show k-1+1=k by omega]using this⟩
   have V:=zF.dp zT (j:=0) Z;repeat'(first|refine Wz ?_|refine Wo f ((zF.all zS)) ?_)
   refine SW.alloc Z λb9 X n zc D=>?_;repeat'(first|refine Wz ?_|fail);refine Wg D (gG.one (enc:=aL) _) λw2 zd hg=>?_;have B:=n.own zc hg;have zW:=f.up zc;obtain⟨f,e,t⟩:=aY B f e t;have D:=zd;repeat'(first|refine Wz ?_|fail);have I:Bw h.Live[k]->(0<k->(h.Live[k-1]'Y).At<h.Live[k].At)->wW h.Live (k+1):=λa b=>hP.snoc zn a λh0=>b h0;have R:=u5 S h.Live k zn;generalize yg:h.Live[k]=bb at D G I R;generalize yh:(h.Live[k-1]'Y).At=pv at G I V;simp only[Bw,p9,iu]at G I
   have hp:bb.Order<0∨4<bb.Order∨(1<=pw bb.Order∧pw bb.Order<=16):=by
    by_cases h1:0<=bb.Order
    ·by_cases h2:bb.Order<=4
     ·exact .inr (.inr (bP h1 h2))
     omega
    omega
   have em:bb.At<0∨bb.At.tmod (pw bb.Order)=bb.At % pw bb.Order:=by
    by_cases h1:0<=bb.At
    ·exact .inr (Pv h1)
    omega
   have M:bb.Order<0∨(0<=bb.Order∧(4<bb.Order∨(bb.Order<=4∧(bb.At<0∨(0<=bb.At∧(bb.At.tmod (pw bb.Order)≠0∨(bb.At.tmod (pw bb.Order)=0∧(bb.Ty<0∨(0<=bb.Ty∧(3<=bb.Ty∨(bb.Ty<3∧((0<k∧bb.At<=pv)∨k=0∨(0<k∧pv<bb.At))))))))))))):=Y;rcases M with d|⟨d1,d|⟨d2,d|⟨d3,d|⟨d4,d|⟨d5,d|⟨d6,⟨zG,d⟩|zG|⟨zG,d⟩⟩⟩⟩⟩⟩⟩
   all_goals refine fq ?_
   repeat'(first|refine Wz ?_|refine SW.st (aU (k-1) Z Z ig Y Y) Z ?_|refine Wn f V ?_|(refine SW.st (fO (r:=pw bb.Order) Z Z Y Y (by simp[pw]) Y Y) Z ?_)|(refine SW.br λX n=>?_;obtain⟨f,e,D,t⟩:=cG n f e D t))
   iterate 7 exact ah.aF Z Z ⟨_,Z,f,by rw[fI (λA=>by have:=G A;omega)];rfl⟩
   all_goals
    have I:=I ⟨⟨d1,d2⟩,d3,by omega,by omega⟩ (λh0=>by omega);refine CW.any 6 mixed (cy bm) Z λX n zl=>?_;obtain⟨f,e,t,D⟩:=cG n f e t D;refine Wa ?_;refine Wu 5 zl Z (fO (r:=pw bb.Order) Z Z Y Y (by simp[pw]) Y Y) ?_;refine SA.fH ?_
    refine SW.cm Z Z (uo O _ bb 256 Z _ t (kw zD λx F=>by
     obtain⟨i,hi,rfl⟩:=Pg F;rw[PY];have:=(hP.each i (by simp at hi;omega) (by simp at hi;omega)).1;exact(bP this.1 this.2).1) ⟨by omega,by omega⟩) λv w5 hv=>?_
    obtain⟨T,C⟩:=hv;have hG:=t.gr C;have f:=f.own P C;(have e:=e.aQ hG Z);rw[<-R]at T;repeat'(first|refine Wz ?_|fail);exact ah.again (k+1) ⟨Z,Z,Z,Z,Z,trivial⟩ Y ⟨by omega,f,e,T,I⟩
  obtain rfl:k=r.Live.n:=Y;rw[Pl Y]at t;have H:=t.bad Z;cases hS:bh S h.Live with
  | none=>
    rw[hS]at H;repeat'(first|refine Wz ?_|(refine CW.bQ Z ?_)|refine Wl H ?_)
    exact ah.aF Z Z ⟨_,Z,f,by rw[fI (λA=>by have:=U A;rw[hS]at this;cases this)];rfl⟩
  | some bs=>
    rw[hS]at H;repeat'(first|refine Wz ?_|(refine CW.bo Z ?_)|refine Wl H ?_)
    exact ah.aF Z Z ⟨_,Z,f,by rw[sY (zE (hP.ok (s:=S) Y (by rw[hS];rfl)) (by rw[hS];rfl))];rfl⟩
 rw[fI (λA=>hd A.Nv)];have M:r.aK.n≠2∨(r.aK.n=2∧(r.bY.n≠2∨(r.bY.n=2∧(r.bl<1∨(1<=r.bl∧4<r.bl))))):=by unfold sn at hd;omega
 rcases M with d|⟨d1,d|⟨d2,d|⟨d3,d⟩⟩⟩
 repeat'(first|refine Wz ?_|fail);all_goals exact ah.aF Z Z ⟨_,Z,f,Z⟩
variable {af:Array Edge} {ts:Array TypeId} {bs:List Block} {cap cs:List Value} {d lo:Nat} {fo:Operand} {T:TypeId} {p:α -> Bool}
theorem Bx{q:α->Bool}:∀{l:List α},(∀x∈l,p x=true->q x=true)->(∃x∈l,p x=false∧q x=true)->l.countP p<l.countP q
 | [],_,h=>by grind
 | a::l,h1,h2=>by
   rw[List.countP_cons,List.countP_cons];have c:l.countP p<=l.countP q:=List.countP_mono_left (λx b=>h1 x (by grind));obtain⟨x,b,d,e⟩:=h2;rcases Qr.1 b with rfl|b
   ·grind
   have f:=Bx (l:=l) (λy g=>h1 y (by grind)) ⟨x,b,d,e⟩
   grind
theorem wX:∀{l:List Block}{cs bs:List Block},(∀b∈l,1<=pw b.Order)->bh (some cs) l=some bs->cs.length<=(List.range 256).countP (ed cs)->(∀x∈cs,0<=x.At∧1<=pw x.Order)->bs.length<=(List.range 256).countP (ed bs)
 | [],cs,bs,_,h,hc,_=>by injection h with h;grind
 | b::l,cs,bs,hp,h,hc,hg=>by
   have h':bh (kn (some cs) b) l=some bs:=h;cases e:kn (some cs) b with
   | none=>grind[il]
   | some i=>
     rw[e]at h';obtain⟨cs',d,c,rfl⟩:=ot e;injection d with d
     subst d;have g:=hp b fy;have f:=(rh hg g).2 c;refine wX (λx a=>hp x (by grind)) h' ?_ (λx a=>?_)
     ·have:=Bx (p:=ed cs) (q:=ed (cs++[b])) (l:=List.range 256) (λx _ a=>by simp only[ed,List.any_append,Bool.or_eq_true]at a⊢;grind)
       ⟨b.At.toNat,by simp;have:=c.1;have:=c.2.1;omega,f.2.2.2 _ Y (by have:=c.1;omega),by
        simp only[ed,List.any_append,Bool.or_eq_true];right;have:=c.1;grind[rf]⟩
      grind
     rcases Px.1 a with a|a
     ·grind
     simp at a;subst a;exact⟨c.1,g⟩
theorem wY(a:∀b∈l,1<=pw b.Order)(h:bh (some []) l=some bs):bs.length<=256:=by
 grind[wX,List.range,ed,List.countP_le_length]
section
variable {P:Program}{n:Nat}{ops:Array Oper}{Q:Exit->Act->World->Prop}{rest:List Oper}{L:Env}{w:World}
theorem SW.FI{f:FuncId}{xs:List Operand}{vs:List Value}{pos:String}{R:Value->World->Prop}
 (g:cg L fo=some (.func (.func f) #[] cap.toArray)) (i:r4 L xs=some vs) (j:Nat.blt d n=true) (k:jX P f (vs++cap) w R) (h:∀v b,R v b->SW P n ops (.fg Q) rest ((d,v)::L) b) (l:Body P f:=by exact j0):
 SW P n ops (.fg Q) (⟨some d,.call ⟨.value fo,xs.toArray,ts⟩,T,pos,af,none⟩::rest) L w:=
 ⟨λa c=>by
  simp only[swp,wpList,Region.wanted,if_true];refine .inl ?_;unfold Oper.wp;rw[tY (hb:=l) (c.eval g),Oper.upon_enter,c.sL i];refine Calls.mono k.out ?_;rintro e b ⟨v,rfl,m⟩;exact(h v b m).out _ (c.put j v)⟩
end
structure Kp(w w':World):Prop where
 k:∀(g:Nat)(t:TypeId)(cs:List Value),ay w g t cs->Nat.beq 129 t=false->Nat.beq 32 t=false->ay w' g t cs
theorem Kp.refl(w:World):Kp w w:=⟨λ_ _ _ h _ _=>h⟩
theorem Kp.ext(h:Kp w w1)(a:Ext w1 w2):Kp w w2:=⟨λg t cs hb b c=>(h.k g t cs hb b c).ext a⟩
theorem Kp.Oy(h:Kp w w1)(b:oe w1 w2 129):Kp w w2:=⟨λg t cs hb a c=>(h.k g t cs hb a c).aQ b a⟩
theorem Kp.J4(h:Kp w w1)(b:oe w1 w2 32):Kp w w2:=⟨λg t cs hb c a=>(h.k g t cs hb c a).aQ b a⟩
structure vI(w:World)(lo b:Nat)(l:List Block):Prop where
 ex:∃A c,ay w b 32 [.slice A l.length c]∧Own w lo 129 3 aL A l.length c l
theorem vI.ext(h:vI w lo b l)(a:Ext w w'):vI w' lo b l:=by
 obtain⟨A,c,d,e⟩:=h.ex;exact⟨A,c,d.ext a,e.ext a⟩
theorem Mq(b:Nat):(⟨b,0,none⟩:Addr).add 0=⟨b,0,none⟩:=by grind[Addr.add]
theorem ay.cell0(h:ay w b t cs){v:Value}(a:cs[0]?=some v):w.cell? ⟨b,0,none⟩=some v:=by
 rw[<-Mq];exact h.cell a
def MS(w c:World)(b:Nat)(l:List Block)(x:Block)(v:Value)(a:World):Prop:=Ext w a∧Kp c a∧((v= .bool true∧mQ l x∧vI a w.heap.size b (l++[x]))∨(v= .bool false∧¬mQ l x∧vI a w.heap.size b l))
theorem wZ(b:Nat)(l:List Block)(x:Block)(w m:World)(a:Ext w m)(t:w.heap.size<=b)(H:vI m w.heap.size b l)(n:∀y∈l,eG 0 256 y)(I:l.length<=256)(P:eG 0 256 x):
 jX prog 183 [.agg (aL x).toArray,Pt b] m (MS w m b l x):=by
 refine c8 func183 rfl ntmps183 rfl ?_;have g:=Kp.refl m;obtain⟨A,c,e,j⟩:=H.ex;obtain⟨⟨J,K,Q,U,V⟩,ty⟩:=id P;have W:=bP J K;refine Ww λX w2 u L o=>?_;obtain⟨a,e,j,g⟩:=cG u a e j g;have z:=e.cell0 Z
 have M:∀s,Ext w s->Sl s 3 aL A l.length l->aS prog 180 [.slice A l.length c,Iv x.At,Iv x.Order] s λv _=>v= .bool (gQ l x.At x.Order):=λs _ h=>
  sU _ _ _ _ 0 256 _ _ _ h n Y Y Y ⟨by omega,by omega⟩ ⟨J,K⟩
 obtain⟨q,B⟩:=bq (gQ l x.At x.Order);rw[B]at M;have C:(q=true)∨(q=false∧256<x.At+pw x.Order)∨(q=false∧x.At+pw x.Order<=256):=by cases q<;>simp<;>omega
 rcases C with rfl|⟨rfl,d⟩|⟨rfl,d⟩
 repeat'(first|refine Wz ?_|refine fq ?_|refine Wl z ?_|refine SW.ba Z Z (λN f=>(M _ (a.trans f) (j.sl.ext f))) ?_|refine SW.ba Z Z (λN f=>(dk _ Y _)) ?_|(refine SW.br λN f=>?_;obtain⟨a,e,j,o,g⟩:=dz f a e j o g))
 iterate 2 exact ah.aF Z Z ⟨_,Z,a,g,.inr ⟨Z,λO=>by have h1:=O.2.1;have R:=O.2.2;simp[B]at R<;>omega,⟨A,c,e,j⟩⟩⟩
 have D:=e.cell0 Z;repeat'(first|refine Wz ?_|refine Wl D ?_)
 refine SW.bz Z Z Z Z Z λb4 w4 E S F=>?_;obtain⟨a,e,j,g⟩:=cG E a e j g;refine SW.append j (ay.la (enc:=aL) F) a.size Z Z Z Y Y λT c2 w5 k p=>?_;have r:=j.gr p;have a:=au a p (Ph _) j.az;have g:=g.Oy r;(have e:=e.aQ r Z);refine SW.mJ (i:=0) e (by rw[Mq];rfl) Z Z Z λw6 G p=>?_;have r:=e.gr p;have a:=a.own t p;have g:=g.J4 r;(have k:=k.aQ r Z);refine Wz ?_;exact ah.aF Z Z ⟨_,Z,a,g,.inl ⟨Z,⟨Q,d,B⟩,⟨T,c2,by simpa using G,by simpa using k⟩⟩⟩
end Go.Proofs.YtdlfabkacdgneaaGreatDoor
