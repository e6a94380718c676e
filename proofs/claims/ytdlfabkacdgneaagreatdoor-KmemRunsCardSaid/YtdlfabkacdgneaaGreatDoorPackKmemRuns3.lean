/- Part 3 of what kmemRuns_holds leans on. -/
import Derived.Test.YtdlfabkacdgneaaGreatDoorPackKmemRuns0
import Derived.Great.BuildSlice
import Derived.ArgAppend
set_option maxHeartbeats 16000000
set_option linter.unusedVariables false
set_option linter.unusedSimpArgs false
set_option linter.defProp false
open Go.Proofs.Tryz
namespace Go.Proofs.YtdlfabkacdgneaaGreatDoor
variable {α:Type} {a f o:Int} {l:List Block} {i j k:Nat} {z:ap}
def r9(a o:Int)(b:Block):Bool:=decide (b.At=a) && decide (b.Order=o)
def bJ(l:List Block)(a o:Int):List Block:=l.filter λb=> !r9 a o b
def iO:Nat->List Block->Int->Int->List Block×Int×Int
 | 0,l,a,o=>(l,a,o)
 | f+1,l,a,o=>if o<4 then(if l.any (r9 (beside a o) o)then iO f (bJ l (beside a o) o) (min a (beside a o)) (o+1)else(l,a,o))else(l,a,o)
def bB(l:List Block)(a:Int):Nat:=l.findIdx λb=>decide (a<=b.At)
def aP(l:List α)(i:Nat)(b:α):List α:=l.take i++[b]++l.drop i
def gQ(l:List Block)(a o:Int):Bool:=l.any λx=>decide (x.At<a+pw o) && decide (a<x.At+pw x.Order)
def pN(l:List Block):Prop:=l.Pairwise λx y=>x.At+pw x.Order<=y.At
structure AO(f t:Int)(l:List Block)(a o:Int):Prop where
 pN:pN l
 dm:∀b∈l,eG f t b
 fit:gL f t a o
 Lt:∀b∈l,b.At+pw b.Order<=a∨a+pw o<=b.At
theorem je(h:pN l)(b:j<l.length)(a:i<j):(l[i]'Y).At+pw (l[i]'Y).Order<=l[j].At:=by
 unfold pN at h<;>grind[pN,List.pairwise_iff_getElem]
theorem mN(h:bV z):pN z.ai:=by
 have b:∀(d i:Nat)(a:i+d+1<z.ai.length),(z.ai[i]'Y).At+pw (z.ai[i]'Y).Order<=z.ai[i+d+1].At:=by
  intro d;induction d with
  | zero=>intro i a;exact(h.next i a).1
  | succ d c=>
    intro i a;have f:=c i Y;have g:=(h.next (i+d+1) Y).1;have hb:=(h.dm (i+d+1) Y).1;have:=bP hb.1 hb.2.1;grind
 unfold pN;rw[Pq];intro i j k a e;have:=b (j-i-1) i Y
 grind
theorem JM{t:Int}(h:pN l)(hb:∀b∈l,eG f t b){x y:Block}(c:x∈l)(d:y∈l):x=y∨x.At+pw x.Order<=y.At∨y.At+pw y.Order<=x.At:=by
 obtain⟨i,e,rfl⟩:=Pg c;obtain⟨j,g,rfl⟩:=Pg d;rcases PX i j with a|a|a
 ·simp_all[je]
 ·grind
 simp_all[je]
theorem MK{t:Int}(h:pN l)(hb:∀b∈l,eG f t b)(c:i<l.length)(d:j<l.length)(e:l[i].At=l[j].At):i=j:=by
 have g:=hb _ (Pf c);have k:=hb _ (Pf d);have m:=bP g.1.1 g.1.2.1;have n:=bP k.1.1 k.1.2.1;rcases PX i j with a|a|a
 ·have:=je h d a;omega
 ·exact a
 have:=je h c a;omega
theorem sb(h:0<=a)(b:0<=o)(c:o<4)(d:a % pw o=0):(min a (beside a o)) % pw (o+1)=0∧(beside a o=a+pw o∨beside a o=a-pw o)∧(beside a o) % pw o=0:=by
 rw[kG b Y];unfold beside;have e:=eE b (show o<=4 by omega)
 grind
theorem jf{b:Block}:r9 a o b=true↔b.At=a∧b.Order=o:=by simp[r9]
theorem AO.step{t:Int}(h:AO f t l a o)(s:0<=f)(j:o<4)(d:l.any (r9 (beside a o) o)=true):AO f t (bJ l (beside a o) o) (min a (beside a o)) (o+1):=by
 obtain⟨b,hb,k⟩:=Pn.1 d;obtain⟨u,v⟩:=jf.1 k;obtain⟨i,m,w,y,n⟩:=h.fit;obtain⟨z,A,B,C,D⟩:=(h.dm b hb).1;obtain⟨p,E,F⟩:=sb Y i j n;have G:=kG i m;refine⟨h.pN.sublist List.filter_sublist,λx g=>h.dm x ((Rd.1 g).1),⟨by omega,by omega,by omega,by omega,p⟩,λx g=>?_⟩;have c:=(Rd.1 g).1
 have q:r9 (beside a o) o x=false:=by
  have:=(Rd.1 g).2;grind
 have H:=h.Lt x c;have r:=bP (h.dm x c).1.1 (h.dm x c).1.2.1;rcases JM h.pN h.dm hb c with e|e|e<;>grind
theorem DB{t:Int}(c:0<=f):∀(k:Nat){l:List Block}{a o:Int},AO f t l a o->AO f t (iO k l a o).1 (iO k l a o).2.1 (iO k l a o).2.2∧(iO k l a o).1.length<=l.length
 | 0,l,a,o,h=>⟨h,Ph _⟩
 | k+1,l,a,o,h=>by
   simp only[iO];split
   ·rename_i e;split
    ·rename_i b;have d:=DB c k (h.step c e b);exact⟨d.1,Pj d.2 (Ql _ _)⟩
    grind
   grind
theorem GR(b:i<=l.length)(c:∀(k:Nat)(h:k<l.length),k<i->l[k].At<a)(d:∀h:i<l.length,a<=l[i].At):bB l a=i:=by
 unfold bB<;>grind
theorem DC(l:List Block)(a:Int):bB l a<=l.length:=List.findIdx_le_length
theorem om(b:k<bB l a):(l[k]'(P1 b (DC l a))).At<a:=by
 have:=List.not_of_lt_findIdx b;grind
theorem DD(h:bB l a<l.length):a<=(l[bB l a]).At:=by
 have:=List.findIdx_getElem (w:=h);exact of_decide_eq_true this
def ub(l:List Block)(a o:Int):Bool:=if h:bB l a<l.length then decide ((l[bB l a]).At=a∧(l[bB l a]).Order=o)else false
theorem HI{t:Int}(m:pN l)(hb:∀b∈l,eG f t b)(a o:Int):l.any (r9 a o)=ub l a o:=by
 unfold ub;by_cases h:bB l a<l.length
 ·rw[dif_pos h];by_cases g:(l[bB l a]).At=a∧(l[bB l a]).Order=o
  ·rw[decide_eq_true g];grind[decide_eq_true,List.any_eq_true,List.getElem_mem,jf]
  rw[decide_eq_false g,PA];intro x d e;obtain⟨n,p⟩:=jf.1 e;obtain⟨j,i,rfl⟩:=Pg d;have q:=DD h;rcases PX j (bB l a)with c|c|c
  ·have:=om c;omega
  ·grind
  have:=je m i c;have k:=hb _ (Pf h);have:=bP k.1.1 k.1.2.1;grind
 rw[dif_neg h,PA];intro x d e;obtain⟨n,p⟩:=jf.1 e;obtain⟨j,i,rfl⟩:=Pg d
 grind[om,bB]
theorem rM{t:Int}(h:pN l)(hb:∀b∈l,eG f t b)(k:i<l.length)(m:l[i].At=a)(n:l[i].Order=o):l.eraseIdx i=bJ l a o:=by
 have p:∀(j:Nat)(c:j<l.length),j≠i->r9 a o l[j]=false:=λj c d=>by
  cases q:r9 a o l[j]with
  | false=>rfl
  | true=>
    obtain⟨s,u⟩:=jf.1 q;exact absurd (MK h hb c k Y) d
 have e:l=l.take i++l[i]::l.drop (i+1):=by simp
 have v:∀x∈l.take i,r9 a o x=false:=λx g=>by
  obtain⟨j,c,rfl⟩:=Pg g<;>grind
 have w:∀x∈l.drop (i+1),r9 a o x=false:=λx g=>by
  obtain⟨j,c,rfl⟩:=Pg g<;>grind
 have r:r9 a o l[i]=true:=jf.2 ⟨m,n⟩;unfold bJ;rw[PV]
 conv=>rhs;rw[e]
 rw[Qw,List.filter_cons];simp only[r,Bool.not_true,Bool.false_eq_true,if_false]
 grind[List.filter_eq_self]
noncomputable def eX(z:ap)(a o:Int):Int×ap:=
 if dZ z then(if gL z.aE z.To a o then(if gQ z.ai a o then(5,⟨0,0,[],[]⟩)else
  (0,⟨z.aE,z.To,aP (iO 5 z.ai a o).1 (bB (iO 5 z.ai a o).1 (iO 5 z.ai a o).2.1) ⟨(iO 5 z.ai a o).2.1,(iO 5 z.ai a o).2.2,z.Types.getD (((iO 5 z.ai a o).2.1-z.aE) / 8).toNat 0⟩,z.Types⟩))else(1,⟨0,0,[],[]⟩))else(8,⟨0,0,[],[]⟩)
theorem sS{f t:Int}(c:bV z)(d:gL z.aE z.To a o)(h:gQ z.ai a o=false):AO z.aE z.To z.ai a o:=by
 refine⟨mN c,λb hb=>?_,d,λb hb=>?_⟩
 ·obtain⟨i,e,rfl⟩:=Pg hb;exact c.dm i e
 grind[gQ,List.any_eq_false]
def dq(l:List Region)(p:Int):Bool:=l.any λr=>decide (r.aE<=p) && decide (p<r.aE+r.ax)
def bump:List Region->List Region
 | []=>[]
 | [r]=>[⟨r.aE,r.ax+1⟩]
 | x::y::l=>x::bump (y::l)
def runs(p:Nat->Bool):Nat->List Region
 | 0=>[]
 | i+1=>if p i then(if 0<i∧p (i-1)=true then bump (runs p i)else runs p i++[⟨(i:Int),1⟩])else runs p i
theorem lK:∀(l:List Region)(r:Region),bump (l++[r])=l++[⟨r.aE,r.ax+1⟩]
 | [],_=>rfl
 | [x],_=>rfl
 | x::y::l,r=>by
   have a:=lK (y::l) r;simp only[List.cons_append,bump]at a⊢;rw[a]
structure MO(p:Nat->Bool)(k:Nat)(l:List Region):Prop where
 Mo:∀r∈l,0<=r.aE∧1<=r.ax∧r.aE+r.ax<=(k:Int)
 len:l.length<=k
 last:0<k->p (k-1)=true->∃init r,l=init++[r]∧r.aE+r.ax=(k:Int)
 below:(0<k->p (k-1)=false)->∀r∈l,r.aE+r.ax<(k:Int)
 sep:l.Pairwise λa b=>a.aE+a.ax<b.aE
 iff:∀i:Nat,i<k->(p i=true↔∃r∈l,r.aE<=(i:Int)∧(i:Int)<r.aE+r.ax)
theorem re(p:Nat->Bool):∀k,MO p k (runs p k)
 | 0=>⟨by simp[runs],by simp[runs],by simp,by simp[runs],by simp[runs],by simp⟩
 | k+1=>by
   have c:=re p k;simp only[runs];by_cases l:p k=true
   ·rw[if_pos l];by_cases m:0<k∧p (k-1)=true
    ·rw[if_pos m];obtain⟨o,r,q,y⟩:=c.last m.1 m.2;rw[q,lK];have f:=c.Mo;have h:=c.len;have j:=c.sep;have g:=c.iff;rw[q]at f h j g;have u:=f r fy;refine⟨?_,?_,?_,?_,?_,?_⟩
     ·grind
     ·grind
     ·grind
     ·grind
     ·grind
     intro i s;by_cases e:i=k
     ·subst e;simp only[l,true_iff];exact⟨⟨r.aE,r.ax+1⟩,by simp,by grind,by grind⟩
     rw[g i Y];constructor
     ·rintro⟨x,d,t,v⟩;simp only[List.mem_append,List.mem_singleton]at d;rcases d with d|rfl
      ·grind
      exact⟨⟨x.aE,x.ax+1⟩,by simp,t,by grind⟩
     grind
    rw[if_neg m]
    have hb:∀r∈runs p k,r.aE+r.ax<(k:Int):=c.below (λz=>by
     grind)
    refine⟨?_,?_,?_,?_,?_,?_⟩
    ·intro x d;simp only[List.mem_append,List.mem_singleton]at d;rcases d with d|rfl
     ·have:=c.Mo x d;omega
     grind
    ·have:=c.len;grind
    ·grind
    ·grind
    ·rw[PN];refine⟨c.sep,by simp,λa A b w=>?_⟩
     grind
    intro i s;by_cases e:i=k
    ·subst e;simp only[l,true_iff];exact⟨⟨(i:Int),1⟩,by simp,by grind,by grind⟩
    rw[c.iff i Y];grind
   rw[if_neg l];have n:p k=false:=by grind
   refine⟨?_,?_,?_,?_,c.sep,?_⟩
   ·intro x d;have:=c.Mo x d;omega
   ·have:=c.len;omega
   ·grind
   ·intro _ x d;have:=c.Mo x d;omega
   intro i s;by_cases e:i=k
   ·subst e;simp only[n,Bool.false_eq_true,false_iff];rintro⟨x,d,t,v⟩;have:=c.Mo x d;omega
   exact c.iff i Y
def marksOf(p:Nat->Bool)(k:Nat):List Bool:=(List.range k).map p
theorem DF(p:Nat->Bool)(k:Nat):(marksOf p k).length=k:=by simp[marksOf]
theorem nD(p:Nat->Bool)(k i:Nat)(h:i<(marksOf p k).length):(marksOf p k)[i]=p i:=by simp[marksOf]
theorem pZ(p:Nat->Bool)(k i:Nat)(b:Bool):(marksOf p k).set i b=marksOf (λj=>if j=i then b else p j) k:=by
 apply PK (by simp[marksOf]);intro j a c<;>grind[marksOf]
theorem iw{p q:Nat->Bool}(h:∀i,i<k->p i=q i):marksOf p k=marksOf q k:=by
 simp_all[marksOf]
open Go.RowKit
variable {β:Type} {cs:List Value} {ys:List β} {b lo nn sz:Nat} {A:Option Addr} {e t t':TypeId} {w w':World} {enc:α -> List Value}
def oe(w a:World)(t:TypeId):Prop:=∃row,w.grownBy a row∧∀k,row=some k->∃cs,w.heap[k]?=some (.cells cs t (0,0))
theorem Own.gr{n c:Nat}{l:List α}(h:Own w lo e sz enc A n c l)(a:w.grownBy w' (aN A c)):oe w w' e:=by
 refine⟨_,a,λk d=>?_⟩;rcases h.row with⟨_,rfl⟩|⟨f,g,b,rfl,_,i,_⟩
 all_goals grind[aN,Nat.pos_iff_ne_zero]
theorem ay.gr(h:ay w b t cs)(a:w.grownBy w' (some b)):oe w w' t:=⟨_,a,λk c=>by cases c;exact⟨_,h⟩⟩
theorem Own.aQ{t:Nat}{n c:Nat}{l:List α}(h:Own w lo e sz enc A n c l)(a:oe w w' t)(b:Nat.beq t e=false):Own w' lo e sz enc A n c l:=by
 obtain⟨row,d,f⟩:=a;refine h.grown d ?_;rcases h.row with⟨_,rfl⟩|⟨i,g,j,rfl,_,k,_⟩
 ·simp[aN]
 right;rintro rfl;obtain⟨cs,m⟩:=f g (by simp[aN,Nat.pos_iff_ne_zero.1 i])<;>simp_all
theorem ay.aQ{t:Nat}(h:ay w b t' cs)(a:oe w w' t)(c:Nat.beq t t'=false):ay w' b t' cs:=by
 obtain⟨row,d,e⟩:=a;refine h.grown d ?_;rintro rfl;obtain⟨cs,f⟩:=e b Z;unfold ay at h<;>simp_all
theorem Own.lt_size{n c:Nat}{l:List α}(h:Own w lo e sz enc A n c l):∀k,aN A c=some k->k<w.heap.size:=by
 intro k b;rcases h.row with⟨_,rfl⟩|⟨d,g,a,rfl,_,f,_⟩
 all_goals grind[aN,Nat.pos_iff_ne_zero,Array.getElem?_eq_some_iff]
structure dR{α β:Type}(R:α->β->Prop)(xs:List α)(ys:List β):Prop where
 len:xs.length=ys.length
 get:∀(i:Nat)(h1:i<xs.length)(h2:i<ys.length),R xs[i] ys[i]
theorem dR.mono{R R':α->β->Prop}{xs:List α}(h:dR R xs ys)(c:∀a b,R a b->R' a b):dR R' xs ys:=⟨h.len,λi d e=>c _ _ (h.get i d e)⟩
theorem dR.nil{R:α->β->Prop}:dR R ([]:List α) ([]:List β):=⟨Z,λi a b=>by grind⟩
theorem dR.snoc{R:α->β->Prop}{xs:List α}(h:dR R xs ys){x:α}{y:β}(b:R x y):dR R (xs++[x]) (ys++[y]):=by
 refine⟨by simp[h.len],λi c d=>?_⟩;have e:=h.len;by_cases a:i<xs.length
 ·rw[P2 a,P2 Y];exact h.get i a Y
 grind
structure cV where
 ep:Int
 ap:Int
 Ty:Int
 aq:jC
def fj(r:cV):List Value:=[Iv r.ep,Iv r.ap,Iv r.Ty,r.aq.v]
instance :gG fj 4:=⟨λ_=>rfl,λr u hu=>by simp[fj,jC.v]at hu;rcases hu with rfl|rfl|rfl|rfl<;>rfl⟩
structure fB where
 aK:jC
 bY:jC
 bl:Int
 ak:jC
 Live:jC
def bg(r:fB):List Value:=[r.aK.v,r.bY.v,Iv r.bl,r.ak.v,r.Live.v]
instance :gG bg 5:=⟨λ_=>rfl,λr u hu=>by simp[bg,jC.v]at hu;rcases hu with rfl|rfl|rfl|rfl|rfl<;>rfl⟩
def fB.zero:fB:=⟨.nil,.nil,0,.nil,.nil⟩
def Heap.zero:Heap:=⟨[],[],0,[],[]⟩
structure ML(w:World)(r:cV)(l:aC):Prop where
 cpu:r.ep=l.ep
 fX:r.ap=l.ap
 ty:r.Ty=l.Ty
 bt:Sl w 1 aT r.aq.A r.aq.n l.aq
structure mP(w:World)(lo:Nat)(r:cV)(l:aC):Prop where
 cpu:r.ep=l.ep
 fX:r.ap=l.ap
 ty:r.Ty=l.Ty
 bt:Own w lo 3 1 aT r.aq.A r.aq.n r.aq.c l.aq
theorem ML.ext{r:cV}{l:aC}(h:ML w r l)(a:Ext w w'):ML w' r l:=⟨h.cpu,h.fX,h.ty,h.bt.ext a⟩
theorem mP.ext{r:cV}{l:aC}(h:mP w lo r l)(a:Ext w w'):mP w' lo r l:=⟨h.cpu,h.fX,h.ty,h.bt.ext a⟩
theorem mP.low{r:cV}{l:aC}(h:mP w lo r l)(a:nn<=lo):mP w nn r l:=⟨h.cpu,h.fX,h.ty,h.bt.low a⟩
theorem mP.rd{r:cV}{l:aC}(h:mP w lo r l):ML w r l:=⟨h.cpu,h.fX,h.ty,h.bt.sl⟩
theorem mP.aQ{t:Nat}{r:cV}{l:aC}(h:mP w lo r l)(b:oe w w' t)(a:Nat.beq t 3=false):mP w' lo r l:=⟨h.cpu,h.fX,h.ty,h.bt.aQ b a⟩
theorem fv.aQ{t:Nat}{r:cM}(h:fv w lo r z)(b:oe w w' t)(a:(Nat.beq t 3||Nat.beq t 129)=false):fv w' lo r z:=by
 simp only[Bool.or_eq_false_iff]at a;exact⟨h.from_,h.kW,h.free.aQ b a.2,h.types.aQ b a.1⟩
structure Fv(w:World)(s:jC)(zs:List cM)(l:List ap):Prop where
 row:Sl w 4 bu s.A s.n zs
 each:dR (vD w) zs l
structure jM(w:World)(lo:Nat)(s:jC)(zs:List cM)(l:List ap):Prop where
 row:Own w lo 98 4 bu s.A s.n s.c zs
 each:dR (fv w lo) zs l
structure vF(w:World)(s:jC)(ls:List cV)(l:List aC):Prop where
 row:Sl w 4 fj s.A s.n ls
 each:dR (ML w) ls l
structure dw(w:World)(lo:Nat)(s:jC)(ls:List cV)(l:List aC):Prop where
 row:Own w lo 100 4 fj s.A s.n s.c ls
 each:dR (mP w lo) ls l
section
variable {w w':World}{lo nn t:Nat}{s:jC}{zs:List cM}{z:List ap}{ls:List cV}{l:List aC}
theorem Fv.ext(h:Fv w s zs z)(a:Ext w w'):Fv w' s zs z:=⟨h.row.ext a,h.each.mono λ_ _ h=>h.ext a⟩
theorem vF.ext(h:vF w s ls l)(a:Ext w w'):vF w' s ls l:=⟨h.row.ext a,h.each.mono λ_ _ h=>h.ext a⟩
theorem jM.ext(h:jM w lo s zs z)(a:Ext w w'):jM w' lo s zs z:=⟨h.row.ext a,h.each.mono λ_ _ h=>h.ext a⟩
theorem dw.ext(h:dw w lo s ls l)(a:Ext w w'):dw w' lo s ls l:=⟨h.row.ext a,h.each.mono λ_ _ h=>h.ext a⟩
theorem jM.low(h:jM w lo s zs z)(a:nn<=lo):jM w nn s zs z:=⟨h.row.low a,h.each.mono λ_ _ h=>h.low a⟩
theorem dw.low(h:dw w lo s ls l)(a:nn<=lo):dw w nn s ls l:=⟨h.row.low a,h.each.mono λ_ _ h=>h.low a⟩
theorem jM.rd(h:jM w lo s zs z):Fv w s zs z:=⟨h.row.sl,h.each.mono λ_ _ h=>h.rd⟩
theorem dw.rd(h:dw w lo s ls l):vF w s ls l:=⟨h.row.sl,h.each.mono λ_ _ h=>h.rd⟩
theorem jM.aQ(h:jM w lo s zs z)(b:oe w w' t)(a:(Nat.beq t 98||(Nat.beq t 3||Nat.beq t 129))=false):jM w' lo s zs z:=by
 rw[Qo]at a;exact⟨h.row.aQ b a.1,h.each.mono λ_ _ h=>h.aQ b a.2⟩
theorem dw.aQ(h:dw w lo s ls l)(b:oe w w' t)(a:(Nat.beq t 100||Nat.beq t 3)=false):dw w' lo s ls l:=by
 rw[Qo]at a;exact⟨h.row.aQ b a.1,h.each.mono λ_ _ h=>h.aQ b a.2⟩
theorem jM.nil(w:World)(lo:Nat):jM w lo .nil [] []:=⟨Own.cq _ _ _ _ _ _,.nil⟩
theorem dw.nil(w:World)(lo:Nat):dw w lo .nil [] []:=⟨Own.cq _ _ _ _ _ _,.nil⟩
theorem Fv.len(h:Fv w s zs z):zs.length=s.n∧z.length=s.n:=⟨h.row.len,by rw[<-h.each.len,h.row.len]⟩
theorem vF.len(h:vF w s ls l):ls.length=s.n∧l.length=s.n:=⟨h.row.len,by rw[<-h.each.len,h.row.len]⟩
end
structure AQ(w:World)(r:fB)(h:Heap):Prop where
 cpus:r.bl=h.bl
 cx:Sl w 1 aT r.bY.A r.bY.n h.bY
 live:Sl w 3 aL r.Live.A r.Live.n h.Live
 bA:∃zs,Fv w r.aK zs h.aK
 lists:∃ls,vF w r.ak ls h.ak
structure ik(w:World)(lo:Nat)(r:fB)(h:Heap):Prop where
 cpus:r.bl=h.bl
 cx:Own w lo 3 1 aT r.bY.A r.bY.n r.bY.c h.bY
 live:Own w lo 129 3 aL r.Live.A r.Live.n r.Live.c h.Live
 bA:∃zs,jM w lo r.aK zs h.aK
 lists:∃ls,dw w lo r.ak ls h.ak
section
variable {w w':World}{lo nn t:Nat}{r:fB}{h:Heap}
theorem AQ.ext(a:AQ w r h)(b:Ext w w'):AQ w' r h:=by
 obtain⟨c,d⟩:=a.bA;obtain⟨e,f⟩:=a.lists;exact⟨a.cpus,a.cx.ext b,a.live.ext b,⟨c,d.ext b⟩,⟨e,f.ext b⟩⟩
theorem ik.ext(a:ik w lo r h)(b:Ext w w'):ik w' lo r h:=by
 obtain⟨c,d⟩:=a.bA;obtain⟨e,f⟩:=a.lists;exact⟨a.cpus,a.cx.ext b,a.live.ext b,⟨c,d.ext b⟩,⟨e,f.ext b⟩⟩
theorem ik.low(a:ik w lo r h)(b:nn<=lo):ik w nn r h:=by
 obtain⟨c,d⟩:=a.bA;obtain⟨e,f⟩:=a.lists;exact⟨a.cpus,a.cx.low b,a.live.low b,⟨c,d.low b⟩,⟨e,f.low b⟩⟩
theorem ik.rd(a:ik w lo r h):AQ w r h:=by
 obtain⟨b,c⟩:=a.bA;obtain⟨d,e⟩:=a.lists;exact⟨a.cpus,a.cx.sl,a.live.sl,⟨b,c.rd⟩,⟨d,e.rd⟩⟩
theorem ik.aQ(a:ik w lo r h)(c:oe w w' t)(b:(Nat.beq t 3||(Nat.beq t 129||(Nat.beq t 98||Nat.beq t 100)))=false):ik w' lo r h:=by
 obtain⟨f,g⟩:=a.bA;obtain⟨i,j⟩:=a.lists;simp only[Bool.or_eq_false_iff]at b;obtain⟨d,e,k,l⟩:=b;exact⟨a.cpus,a.cx.aQ c d,a.live.aQ c e,⟨f,g.aQ c (by simp[d,e,k])⟩,⟨i,j.aQ c (by simp[d,l])⟩⟩
theorem ik.zero(w:World)(lo:Nat):ik w lo .zero .zero:=⟨Z,Own.cq _ _ _ _ _ _,Own.cq _ _ _ _ _ _,⟨[],.nil _ _⟩,⟨[],.nil _ _⟩⟩
end
structure Heap.small(h:Heap):Prop where
 bA:h.aK.length*64<=140737488355328
 cx:h.bY.length*8<=140737488355328
 lists:h.ak.length*48<=140737488355328
 live:h.Live.length*24<=140737488355328
 free:∀z∈h.aK,z.ai.length*24<=140737488355328∧z.Types.length*8<=140737488355328
 bt:∀l∈h.ak,l.aq.length*8<=140737488355328
structure Gd (w w':World) (row:Option Nat) (t:TypeId) : Prop where
 g:w.grownBy w' row
 T:oe w w' t
section
variable {P:Program} {n:Nat} {ops:Array Oper} {Q:Exit -> Act -> World -> Prop} {rest:List Oper} {L:Env} {w:World} {T t:TypeId} {pos:String} {af:Array Edge} {k b tb:Nat} {cs vs:List Value} {x y:Operand}
theorem Wh [fA P t k] (hB:ay w b tb cs) (h1:∀ v ∈ vs,v.oneCell' = true) (h:∀ w',Gd w w' (some b) tb -> ay w' b tb vs -> SW P n ops (.fg Q) rest L w') (hx:cg L x = some (.pointer (some ⟨b,0,none⟩)):=by rfl) (hy:cg L y = some (.agg vs.toArray):=by rfl) (hl:vs.length = k:=by rfl) (hc:cs.length = k:=by rfl) : SW P n ops (.fg Q) (⟨none,.store t x y,T,pos,af,none⟩ :: rest) L w:=SW.dY hB hx hy hl hc h1 λw' hb hg=>h w' ⟨hg,hB.gr hg⟩ hb
theorem We {i:Nat} {v:Value} [iA P t] (hB:ay w b tb cs) (h:∀ w',Gd w w' (some b) tb -> ay w' b tb (cs.set i v) -> SW P n ops (.fg Q) rest L w') (hx:cg L x = some (.pointer (some ((⟨b,0,none⟩:Addr).add i))):=by rfl) (hy:cg L y = some v:=by rfl) (h1:v.oneCell' = true:=by rfl) (hi:Nat.blt i cs.length = true:=by rfl) : SW P n ops (.fg Q) (⟨none,.store t x y,T,pos,af,none⟩ :: rest) L w:=SW.mJ hB hx hy h1 hi λw' hb hg=>h w' ⟨hg,hB.gr hg⟩ hb
theorem Wr {d sz bytes:Nat} {z:Value} {T2 t2:TypeId} {NQ:String} {a2:Array Edge} [dt P t z sz bytes] [fA P t2 k] (h1:∀ v ∈ vs,v.oneCell' = true) (h:∀ b w',Ext w w' -> w.heap.size <= b -> ay w' b t vs -> SW P n ops (.fg Q) rest ((d,.pointer (some ⟨b,0,none⟩)) :: L) w') (hn:Nat.blt d n = true:=by rfl) (hx:∀ b,cg ((d,.pointer (some ⟨b,0,none⟩)) :: L) x = some (.pointer (some ⟨b,0,none⟩)):=by intro;rfl) (hy:∀ b,cg ((d,.pointer (some ⟨b,0,none⟩)) :: L) y = some (.agg vs.toArray):=by intro;rfl) (hl:vs.length = k:=by rfl) (hc:z.cells.toList.length = k:=by rfl) : SW P n ops (.fg Q) (⟨some d,.alloc t,T,pos,af,none⟩ :: ⟨none,.store t2 x y,T2,NQ,a2,none⟩ :: rest) L w:=SW.alloc hn λb _ g l hb=>SW.dY hb (hx b) (hy b) hl hc h1 λw' hb hg=>h b w' (g.own l hg) l hb
end
variable {bs:List Block}
def rf(b:Block)(i:Nat):Bool:=decide (b.At<=(i:Int)) && decide ((i:Int)<b.At+pw b.Order)
def ed(bs:List Block)(i:Nat):Bool:=bs.any λb=>rf b i
def mQ(bs:List Block)(b:Block):Prop:=0<=b.At∧b.At+pw b.Order<=256∧gQ bs b.At b.Order=false
instance (bs:List Block) (b:Block):Decidable (mQ bs b):=inferInstanceAs (Decidable (_∧_))
def kn(s:Option (List Block))(b:Block):Option (List Block):=match s with
 | none=>none
 | some bs=>if mQ bs b then some (bs++[b])else none
def bh(s:Option (List Block))(l:List Block):Option (List Block):=l.foldl kn s
theorem il:∀l,bh none l=none
 | []=>rfl
 | b::l=>il l
theorem bF(s:Option (List Block))(l m:List Block):bh s (l++m)=bh (bh s l) m:=List.foldl_append
theorem u5(s:Option (List Block))(l:List Block)(k:Nat)(h:k<l.length):bh s (l.take (k+1))=kn (bh s (l.take k)) l[k]:=by
 rw[Pk h,bF];rfl
theorem ot{s:Option (List Block)}{b:Block}(h:kn s b=some bs):∃cs,s=some cs∧mQ cs b∧bs=cs++[b]:=by
 cases s with
 | none=>simp[kn]at h
 | some cs=>
   simp only[kn]at h;grind
def Mp(p:Nat->Bool)(a n:Int):Prop:=0<=a∧a<256∧n<=256-a∧∀i:Nat,a<=(i:Int)->(i:Int)<a+n->p i=false
def AR(p:Nat->Bool)(a n:Int)(i:Nat):Bool:=p i||(decide (a<=(i:Int)) && decide ((i:Int)<a+n))
theorem rh(hb:∀b∈bs,0<=b.At∧1<=pw b.Order){b:Block}(l:1<=pw b.Order):Mp (ed bs) b.At (pw b.Order)↔mQ bs b:=by
 constructor
 ·rintro⟨c,g,f,h⟩;refine⟨c,by omega,?_⟩;unfold gQ;rw[PA];intro x d a;simp only[Bool.and_eq_true,decide_eq_true_eq]at a;obtain⟨j,k⟩:=a;obtain⟨m,n⟩:=hb x d;have e:=h (max x.At b.At).toNat Y Y;unfold ed at e;rw[PA]at e;apply e x d;simp only[rf,Bool.and_eq_true,decide_eq_true_eq];omega
 rintro⟨c,g,f⟩;refine⟨c,by omega,by omega,λi j k=>?_⟩;unfold ed;rw[PA];intro x d a;simp only[rf,Bool.and_eq_true,decide_eq_true_eq]at a;unfold gQ at f<;>grind
theorem JQ(bs:List Block)(b:Block)(i:Nat):AR (ed bs) b.At (pw b.Order) i=ed (bs++[b]) i:=by
 simp[AR,ed,rf]
def p7(s:Option (List Block)):Prop:=∀bs,s=some bs->∀x∈bs,0<=x.At∧1<=pw x.Order
theorem Bm:p7 (some []):=λbs h x a=>by grind
theorem HM{s:Option (List Block)}{b:Block}(h:p7 s)(hb:1<=pw b.Order):p7 (kn s b):=λbs c x a=>by
 obtain⟨cs,rfl,d,rfl⟩:=ot c;rcases Px.1 a with a|a
 ·exact h cs Z x a
 simp at a;subst a;exact⟨d.1,hb⟩
theorem kw{s:Option (List Block)}:∀{l:List Block},p7 s->(∀b∈l,1<=pw b.Order)->p7 (bh s l)
 | [],h,_=>h
 | b::l,h,hb=>kw (l:=l) (HM h (hb b fy)) (λx a=>hb x (by grind))
def bC(p:Int):Block:=⟨p,0,0⟩
def aM(l:List aC):List Block:=l.flatMap λx=>x.aq.map bC
theorem im:pw 0=1:=by decide
def cd(a b:aC):Prop:=a.ep<b.ep∨(a.ep=b.ep∧(a.ap<b.ap∨(a.ap=b.ap∧a.Ty<b.Ty)))
instance (a b:aC):Decidable (cd a b):=inferInstanceAs (Decidable (_∨_))
def j4(cpus:Int)(l:aC):Prop:=(0<=l.ep∧l.ep<cpus)∧(0<=l.ap∧l.ap<=1)∧(0<=l.Ty∧l.Ty<=2)∧(1<=l.aq.length∧l.aq.length<=8)
instance (c:Int) (l:aC):Decidable (j4 c l):=inferInstanceAs (Decidable (_∧_))
structure mh(cpus to:Int)(ls:List aC):Prop where
 head:∀(i:Nat)(h:i<ls.length),j4 cpus ls[i]
 next:∀(i:Nat)(h:i+1<ls.length),cd ls[i] ls[i+1]
 fX:∀(i:Nat)(h:i<ls.length),∀p∈(ls[i]).aq,(p<to↔(ls[i]).ap=0)
def p9(b:Block):Prop:=(0<=b.Order∧b.Order<=4)∧(0<=b.At∧b.At<=255)∧b.At % pw b.Order=0∧iu b.Ty
structure fP(l:List Block):Prop where
 each:∀(i:Nat)(h:i<l.length),p9 l[i]
 next:∀(i:Nat)(h:i+1<l.length),l[i].At<l[i+1].At
structure bf(h:Heap):Prop where
 bA:∃z0 z1,h.aK=[z0,z1]∧bV z0∧bV z1∧z0.aE=0∧z0.To=z1.aE∧z1.To=256∧mh h.bl z0.To h.ak∧(bh (some []) (z0.ai++z1.ai++aM h.ak++h.Live)).isSome=true
 cx:∃m0 m1,h.bY=[m0,m1]∧(0<=m0∧m0<=256)∧(0<=m1∧m1<=256)
 cpus:1<=h.bl∧h.bl<=4
 live:fP h.Live
noncomputable def gd(h:Heap):Bool:= @decide (bf h) (Classical.propDecidable _)
theorem sY{h:Heap}(a:bf h):gd h=true:=by unfold gd<;>grind
theorem fI{h:Heap}(a:¬bf h):gd h=false:=by unfold gd<;>grind
theorem ch{h:Heap}:gd h=true↔bf h:=by
 by_cases a:bf h<;>grind[sY,fI]
theorem nE(l:List aC)(k:Nat)(h:k<l.length):aM (l.take (k+1))=aM (l.take k)++l[k].aq.map bC:=by
 grind[aM,List.take_succ_eq_append_getElem]
theorem gp{s:Option (List Block)}{m:List Block}(h:(bh s (l++m)).isSome=true):(bh s l).isSome=true:=by
 rw[bF]at h;cases e:bh s l<;>grind[bh,il]
variable {af:Array Edge} {ops:Array Oper} {Q:Exit->Act->World->Prop} {bytes c2 dd m:Nat} {y:Operand} {X:Option Addr} {P:Program} {T:TypeId}
section
variable {α:Type}{P:Program}{w:World}{lo:Nat}{t e:TypeId}{z:Value}{sz bytes:Nat}{enc:α->List Value}{A X:Option Addr}{n c m d:Nat}{l ys:List α}
theorem DE[S:bL P t e sz][T:dt P e z sz bytes][E:gG enc sz](ty:TypeId)(s:Own w lo e sz enc A n c l)(r:Sl w sz enc X m ys)(H:lo<=w.heap.size)(I:0<m)
 (hb:(n+m)*bytes<=140737488355328) (J:n+m<=maxLen):
 ∃o c' f,(Builtin.append_ #[t,t] ty #[.slice A n c,.slice X m d]).run P w= .ok (.slice o (n+m) c') f∧
  ((o=A∧c'=c∧Own f lo e sz enc A (n+m) c (l++ys)∧w.grownBy f (aN A c))∨(Own f w.heap.size e sz enc o (n+m) c' (l++ys)∧w.grownBy f none)):=by
 obtain⟨i,K,V,F,v⟩:=eB P e (z:=z) (sz:=sz) (bytes:=bytes);have p:(ys.flatMap enc).length=m*sz:=by rw[bc,r.len]
 have q:∀u∈ys.flatMap enc,u.oneCell'=true:=λu W=>by
  obtain⟨x,_,hx⟩:=Py.1 W;exact E.one x u hx
 have y:(l++ys).flatMap enc=l.flatMap enc++ys.flatMap enc:=PP;have L:(l++ys).length=n+m:=by rw[PI,s.len,r.len]
 obtain⟨G,rfl⟩:=PM.1 (r.base I);have a:=jz T.pos r;have B:(l.flatMap enc).length=n*sz:=by grind[bc]
 have M:∀b,A=some b->c<n+m->(∀j u,(l.flatMap enc)[j]?=some u->w.cell? (b.add j)=some u)->
  ∃o c' f,(Builtin.append_ #[t,t] ty #[.slice A n c,.slice (some G) m d]).run P w= .ok (.slice o (n+m) c') f∧(Own f w.heap.size e sz enc o (n+m) c' (l++ys)∧w.grownBy f none):=by
  rintro b rfl N C;obtain⟨v',f,O,D,h3⟩:=run_append_arg_grows (P:=P) w t ty e i z sz bytes S.mg K V F v T.zc T.pos b n c (l.flatMap enc) B C G m d (ys.flatMap enc) p a N J hb;rw[<-y]at D;obtain⟨o,c',rfl,ho⟩:=Own.qY D L<;>grind
 rcases s.row with⟨rfl,rfl⟩|⟨hc,g,Q,rfl,za,R,zb,zc,U,zd⟩
 ·have hl:l=[]:=PB s.len;subst hl;cases A with
  | none=>
    obtain⟨v',f,O,D,h3,_⟩:=run_append_own (P:=P) w w.heap.size t ty e i z sz bytes S.mg K V F v T.zc T.pos (.slice none 0 0) 0 [] (World.ownsRow_nil _ _ _ _) G m d (ys.flatMap enc) p a q J hb (Ph _);obtain⟨o,c',rfl,ho⟩:=Own.qY (m:=0+m) (l:=[]++ys) (enc:=enc) (by simpa using D) (by simpa using r.len)
    grind[Value.ownBlock]
  | some b=>
    grind
 by_cases k:n+m<=c
 ·obtain⟨o,c',f,O,h1,D⟩:=pR (P:=P) (t:=t) ty s r (d:=d) H hb J;have ze:=run_append_room (P:=P) w t ty e i S.mg K g n c Q R G m d (ys.flatMap enc) (by rw[F];exact p) a q k (by rw[F,p,U,<-Qa];exact PC _ k)
  grind
 obtain⟨o,c',f,O,h⟩:=M ⟨g,0,none⟩ Z Y ((s.owns hc).cells (g:=g) (by simp[Value.ownBlock]))<;>grind
end
theorem SW.GV{n:Nat}{rest:List Oper}{L:Env}{pos:String}{z:Value}{c:Nat}{l g:List α}[bL P t e sz][dt P e z sz bytes][gG enc sz]{x:Operand}
 (p:Own w lo e sz enc A k c l) (q:Sl w sz enc X m g) (i:lo<=w.heap.size) (j:0<m) (r:cg L x=some (.slice A k c)) (s:cg L y=some (.slice X m c2)) (u:Nat.blt dd n=true)
 (hb:(k+m)*bytes<=140737488355328) (C:k+m<=9223372036854775807)
 (h:∀f c' b,((f=A∧c'=c∧Own b lo e sz enc A (k+m) c (l++g)∧w.grownBy b (aN A c))∨(Own b w.heap.size e sz enc f (k+m) c' (l++g)∧w.grownBy b none))->SW P n ops (.fg Q) rest ((dd,.slice f (k+m) c')::L) b):
 SW P n ops (.fg Q) (⟨some dd,.call ⟨.builtin .append,#[x,y],#[t,t]⟩,T,pos,af,none⟩::rest) L w:=
 ⟨λa o=>by
  obtain⟨f,c',b,v,B⟩:=DE (P:=P) (t:=t) T p q (d:=c2) i j hb (by simp only[maxLen];omega);simp only[swp,wpList,Region.wanted,if_true];refine .inl ?_;unfold Oper.wp
  have:(execOp a.eval ⟨some dd,.call ⟨.builtin .append,#[x,y],#[t,t]⟩,T,pos,af,none⟩).run P w= .ok (.value (.slice f (k+m) c')) b:=by
   simp[execOp,resolve,invoke,builtin,o.eval r,o.eval s,v]
  rw[this,Oper.upon_value];exact(h f c' b B).out _ (o.put u _)⟩
variable {L:List aC} {zs:List cM} {li lv:jC}
theorem bw(r:fB):∀v∈bg r,v.oneCell'=true:=gG.one (enc:=bg) r
theorem u6(r:cV):∀v∈fj r,v.oneCell'=true:=gG.one (enc:=fj) r
def FC(a:List cV):Prop:=∀(i j:Nat)(b:i<a.length)(c:j<a.length),i≠j->∀g,aN a[i].aq.A a[i].aq.c=some g->aN a[j].aq.A a[j].aq.c≠some g
structure tc(m:jC)(zs:List cM)(ls:List cV):Prop where
 cx:∀(i:Nat)(hi:i<ls.length)(g:Nat),aN ls[i].aq.A ls[i].aq.c=some g->aN m.A m.c≠some g
 types:∀(i:Nat)(hi:i<ls.length)(g:Nat),aN ls[i].aq.A ls[i].aq.c=some g->∀u∈zs,aN u.Types.A u.Types.c≠some g
 sep:FC ls
theorem tc.nil(m:jC)(b:List cM):tc m b []:=⟨λi a=>by grind,λi a=>by grind,λi j a=>by grind⟩
theorem tc.snoc{m:jC}{a:List cV}{s:jC}{x:List Int}{B:List ap}{y:cV}(h:tc m zs a)(C:Own w lo 3 1 aT m.A m.n m.c x)(v:jM w lo s zs B)(z:dw w lo li a L)(q:∀g,aN y.aq.A y.aq.c=some g->w.heap.size<=g):tc m zs (a++[y]):=by
 have n:∀(i:Nat)(b:i<a.length)(g:Nat),aN a[i].aq.A a[i].aq.c=some g->g<w.heap.size:=λi b g e=>(z.each.get i b (by rw[<-z.each.len];exact b)).bt.lt_size g e
 have c:∀(i:Nat)(b:i<(a++[y]).length),(∃h:i<a.length,(a++[y])[i]=a[i])∨(i=a.length∧(a++[y])[i]=y):=λi b=>by
  by_cases e:i<a.length
  ·exact .inl ⟨e,P2 e⟩
  have:i=a.length:=by simp at b;omega
  subst this;exact .inr ⟨Z,by simp⟩
 refine⟨λi b g e=>?_,λi b g e u A=>?_,λi j b o r g e k=>?_⟩
 ·rcases c i b with⟨f,d⟩|⟨f,d⟩
  ·rw[d]at e;exact h.cx i f g e
  rw[d]at e;intro t;have:=C.lt_size g t;have:=q g e;omega
 ·rcases c i b with⟨f,d⟩|⟨f,d⟩
  ·rw[d]at e;exact h.types i f g e u A
  rw[d]at e;intro t;obtain⟨j,o,rfl⟩:=Pg A;have:=(v.each.get j o (by rw[<-v.each.len];exact o)).types.lt_size g t;have:=q g e;omega
 rcases c i b with⟨f,d⟩|⟨f,d⟩
 ·rw[d]at e;rcases c j o with⟨p,l⟩|⟨p,l⟩
  ·rw[l]at k;exact h.sep i j f p r g e k
  rw[l]at k;have:=n i f g e;have:=q g k;omega
 rw[d]at e;rcases c j o with⟨p,l⟩|⟨p,l⟩
 ·rw[l]at k;have:=n j p g k;have:=q g e;omega
 omega
def vH(a:jC)(b:List cM):Prop:=∀u∈b,∀g,aN u.ai.A u.ai.c=some g->aN a.A a.c≠some g
theorem vH.nil(a:jC):vH a []:=λu b=>by grind
theorem vH.snoc{x:List Block}{u:cM}(h:vH lv zs)(c:Own w lo 129 3 aL lv.A lv.n lv.c x)(d:∀g,aN u.ai.A u.ai.c=some g->w.heap.size<=g):vH lv (zs++[u]):=λy a g e b=>by
 rcases Px.1 a with a|a
 ·exact h y a g e b
 simp at a;subst a;have:=d g e;have:=c.lt_size g b;omega
structure JX(w:World)(lo:Nat)(r:fB)(h:Heap):Prop where
 own:ik w lo r h
 all:∃zs ls,jM w lo r.aK zs h.aK∧dw w lo r.ak ls h.ak∧tc r.bY zs ls∧vH r.Live zs
theorem se(r:fB)(h:Heap)(w:World)(T:AQ w r h)(hs:h.small):
 aS prog 30 [.agg (bg r).toArray] w λv z=>∃s,v= .agg (bg s).toArray∧JX z w.heap.size s h:=by
 refine Wj func30 ntmps30 ?_;refine Ww λb1 w1 n zq l=>?_;refine SW.alloc Z λN w2 zo zj f=>?_;have zt:=n.up zj;have zu:N≠b1:=by have:=l.lt;omega
 obtain⟨n,l⟩:=bk zo n l;obtain⟨zs,hz⟩:=T.bA;obtain⟨U,hl⟩:=T.lists;have zy:=T.cx.len;have zz:=T.live.len;have s1:=hs.cx;have s2:=hs.live;have s3:=hs.bA;have s4:=hs.lists;obtain⟨z1,z2⟩:=hz.len;obtain⟨l1,l2⟩:=hl.len;refine Wz ?_
 obtain⟨K,hK⟩:∃K:Env->World->Prop,K=λL' z=>∃X c1 a d1 E,eA L' [(1,Pt b1),(2,Pt N),(3,Pt E)]∧Ext w z∧ay z b1 34 (bg r)∧ay z N 34 (bg .zero)∧
  ay z E 34 (bg ⟨.nil,⟨X,r.bY.n,c1⟩,r.bl,.nil,⟨a,r.Live.n,d1⟩⟩)∧Own z w.heap.size 3 1 aT X r.bY.n c1 h.bY∧Own z w.heap.size 129 3 aL a r.Live.n d1 h.Live∧w.heap.size<=E∧b1≠E∧N≠E:=⟨_,Z⟩
 refine CW.cut K ?_ ?_
 ·focus
   refine CW.any 10 mixed (cy bm) Z λw1 O zp=>?_;obtain⟨n,l,f⟩:=aY O n l f;refine Wa ?_;refine SA.two 2 9 Z Z bm Z Z ?_ ?_
   focus
    refine Wk (eD _ _ _ _ _ (T.cx.ext n) Y) λv V j J=>?_;obtain⟨X,c4,rfl,o⟩:=J;have o:=o.low n.size;obtain⟨n,l,f⟩:=aY j n l f;try have m:=m.ext j
    refine SW.nil (ah.sa j ?_);refine SA.two 7 9 Z Z bm Z Z ?_ ?_
    focus
     refine Wk (kF _ _ _ _ _ (T.live.ext n) Y) λv V j J=>?_;obtain⟨a,P,rfl,p⟩:=J;have p:=p.low n.size;obtain⟨o,n,l,f⟩:=cG j o n l f;try have m:=m.ext j
     refine SW.nil (ah.sa j ?_);refine Wa ?_;refine SA.bD 9 ?_;refine SW.alloc Z λE V j F m=>?_;have G:=n.up F;have H:b1≠E:=by have:=l.lt;omega
     have I:N≠E:=by have:=f.lt;omega
     obtain⟨n,l,f⟩:=aY j n l f;try have o:=o.ext j
     try have p:=p.ext j
     refine SW.nil (ah.sa j ?_)
    rotate_left
    focus
     refine SW.alloc Z λE V j F m=>?_;have G:=n.up F;have H:b1≠E:=by have:=l.lt;omega
     have I:N≠E:=by have:=f.lt;omega
     obtain⟨n,l,f⟩:=aY j n l f;try have o:=o.ext j
     try have p:=p.ext j
     refine SW.nil (ah.sa j ?_);refine SA.bD 7 ?_;refine Wk (kF _ _ _ _ _ (T.live.ext n) Y) λv V j J=>?_;obtain⟨a,P,rfl,p⟩:=J;have p:=p.low n.size;obtain⟨o,n,l,f⟩:=cG j o n l f;try have m:=m.ext j
     refine SW.nil (ah.sa j ?_);refine Wa ?_
    rotate_left
   rotate_left 2
   focus
    refine SW.alloc Z λE V j F m=>?_;have G:=n.up F;have H:b1≠E:=by have:=l.lt;omega
    have I:N≠E:=by have:=f.lt;omega
    obtain⟨n,l,f⟩:=aY j n l f;try have o:=o.ext j
    try have p:=p.ext j
    refine SW.nil (ah.sa j ?_);refine SA.bD 2 ?_;refine Wk (eD _ _ _ _ _ (T.cx.ext n) Y) λv V j J=>?_;obtain⟨X,c4,rfl,o⟩:=J;have o:=o.low n.size;obtain⟨n,l,f⟩:=aY j n l f;try have m:=m.ext j
    refine SW.nil (ah.sa j ?_);refine SA.bD 7 ?_;refine Wk (kF _ _ _ _ _ (T.live.ext n) Y) λv V j J=>?_;obtain⟨a,P,rfl,p⟩:=J;have p:=p.low n.size;obtain⟨o,n,l,f⟩:=cG j o n l f;try have m:=m.ext j
    refine SW.nil (ah.sa j ?_);refine Wa ?_
   rotate_left
   all_goals
    refine SA.fH ?_;skip;refine Wh m (bw ⟨.nil,⟨X,r.bY.n,c4⟩,r.bl,.nil,⟨a,r.Live.n,P⟩⟩) λw5 g zb=>?_;obtain⟨n,o,p,l,f⟩:=dz g n o p l f;refine Wz ?_;exact ah.cut (K:=K) (by rw[hK];exact⟨X,c4,a,P,E,⟨Z,Z,Z,trivial⟩,n,l,f,zb,o,p,G,H,I⟩)
 subst hK;rintro L' z ⟨X,c4,a,P,E,za,n,l,f,m,o,p,G,H,I⟩;refine ah.sub za ?_;refine Wz ?_
 refine CW.loop (λs:Nat×Option Addr×Nat×List cM=>[(1,Pt b1),(2,Pt N),(3,Pt E),(18,.slice r.aK.A r.aK.n r.aK.c),(19,Iv (r.aK.n:Int)),(20,Iv (s.1:Int))])
  (λs z=>s.1<=r.aK.n∧Ext w z∧ay z b1 34 (bg r)∧ay z N 34 (bg .zero)∧ay z E 34 (bg ⟨⟨s.2.1,s.1,s.2.2.1⟩,⟨X,r.bY.n,c4⟩,r.bl,.nil,⟨a,r.Live.n,P⟩⟩)∧Own z w.heap.size 3 1 aT X r.bY.n c4 h.bY∧Own z w.heap.size 129 3 aL a r.Live.n P h.Live∧
    jM z w.heap.size ⟨s.2.1,s.1,s.2.2.1⟩ s.2.2.2 (h.aK.take s.1)∧vH ⟨a,r.Live.n,P⟩ s.2.2.2) (λs=>r.aK.n-s.1) (0,none,0,[]) ⟨Z,Z,Z,Z,Z,Z,trivial⟩ ⟨by omega,n,l,f,m,o,p,jM.nil _ _,vH.nil _⟩ ?_
 rintro⟨k,A,c,zr⟩ z ⟨hk,n,l,f,m,o,p,t,zc⟩;simp only at hk m t zc⊢;have hA:=hz.row.base;by_cases zd:k<r.aK.n
 ·have ze:=hz.each.get k Y Y;have zf:h.aK[k]'Y∈h.aK:=Pf _;have q:=hs.free _ zf;have q1:=ze.free.len;have q2:=ze.types.len;repeat'(first|refine Wz ?_|refine Wo n ((hz.row.all zd)) ?_)
  refine Wr (ck _) λb5 w2 j zk L=>?_;have zv:=n.up zk;obtain⟨n,l,f,m,o,p,t⟩:=iX j n l f m o p t;refine Wz ?_;refine CW.any 5 mixed (cy bm) Z λw1 O zp=>?_;obtain⟨n,l,f,m,L,o,p,t⟩:=nS O n l f m L o p t;refine Wa ?_;refine SA.bD 3 ?_;refine Wk (ra _ _ _ (ze.ext n) Y Y) λv V j J=>?_;obtain⟨s,rfl,C,e1,e2⟩:=J;have zl:=zc.snoc (u:=s) p C.free.az;have C:=C.low n.size;obtain⟨n,l,f,m,L,o,p,t⟩:=nS j n l f m L o p t;refine SW.nil (ah.sa j ?_);refine SA.bD 4 ?_;refine SW.bz Z Z Z Z Z λb V j hb hB=>?_;obtain⟨n,l,f,m,L,o,p,t,C⟩:=HG j n l f m L o p t C;refine SW.nil (ah.sa j ?_);refine SA.fH ?_;refine SW.append t.row (ay.la (enc:=bu) hB) n.size Z Z Z dD dD λA2 c2 w5 zg hg=>?_;have hG:=t.row.gr hg;have n:=au n hg (Ph _) t.row.az;obtain⟨l,f,m,o,p,C⟩:=fi hG l f m o p C;have hE:=t.each.mono λ_ _ h=>h.aQ hG Z;refine Wz ?_;refine We (i:=0) m λw6 g Q=>?_;obtain⟨n,l,f,o,p,C,zg⟩:=iX g n l f o p C zg;have hE:=hE.mono λ_ _ h=>h.aQ g.T Z;refine Wz ?_;refine ah.again (k+1,A2,c2,zr++[s]) ⟨Z,Z,Z,Z,Z,Z,trivial⟩ dD ⟨by simp only;omega,n,l,f,Q,o,p,⟨zg,?_⟩,zl⟩;rw[Pk Y];exact hE.snoc C
 obtain rfl:k=r.aK.n:=Y;rw[Pl Y]at t;refine Wz ?_
 refine CW.loop (λs:Nat×Option Addr×Nat×List cV=>[(2,Pt N),(3,Pt E),(33,.slice r.ak.A r.ak.n r.ak.c),(34,Iv (r.ak.n:Int)),(35,Iv (s.1:Int))])
  (λs z=>s.1<=r.ak.n∧Ext w z∧ay z N 34 (bg .zero)∧ay z E 34 (bg ⟨⟨A,r.aK.n,c⟩,⟨X,r.bY.n,c4⟩,r.bl,⟨s.2.1,s.1,s.2.2.1⟩,⟨a,r.Live.n,P⟩⟩)∧Own z w.heap.size 3 1 aT X r.bY.n c4 h.bY∧Own z w.heap.size 129 3 aL a r.Live.n P h.Live∧
    jM z w.heap.size ⟨A,r.aK.n,c⟩ zr h.aK∧dw z w.heap.size ⟨s.2.1,s.1,s.2.2.1⟩ s.2.2.2 (h.ak.take s.1)∧tc ⟨X,r.bY.n,c4⟩ zr s.2.2.2) (λs=>r.ak.n-s.1) (0,none,0,[]) ⟨Z,Z,Z,Z,Z,trivial⟩ ⟨by omega,n,f,m,o,p,t,dw.nil _ _,tc.nil _ _⟩ ?_
 rintro⟨k,B,d,lr⟩ z ⟨hk,n,f,m,o,p,t,D,R⟩;simp only at hk m D R⊢;have hA:=hl.row.base;by_cases zd:k<r.ak.n
 ·have S:=hl.each.get k Y Y;have zf:h.ak[k]'Y∈h.ak:=Pf _;have q:=hs.bt _ zf;have q1:=S.bt.len;repeat'(first|refine Wz ?_|refine Wo n ((hl.row.all zd)) ?_)
  have zm:=D.row.lt_size;refine Wr (u6 _) λb7 w2 j zn zh=>?_;have zw:=n.up zn;obtain⟨n,f,m,o,p,t,D⟩:=iX j n f m o p t D;refine Wz ?_;refine Wk (eD _ _ _ _ _ (S.bt.ext n) Y) λv V j J=>?_;obtain⟨W,e4,rfl,M⟩:=J;have R:=R.snoc (y:=⟨U[k].ep,U[k].ap,U[k].Ty,⟨W,U[k].aq.n,e4⟩⟩) o t D M.az;have M:=M.low n.size;obtain⟨n,f,m,zh,o,p,t,D⟩:=nS j n f m zh o p t D;refine Wz ?_;refine We (i:=3) zh λw5 g zx=>?_;obtain⟨n,f,m,o,p,t,M⟩:=iX g n f m o p t M;have D:dw w5 w.heap.size ⟨B,k,d⟩ lr (h.ak.take k):=⟨D.row.grown g.g (.inr (λe=>by have:=zm _ e;omega)),D.each.mono λ_ _ h=>h.aQ g.T Z⟩;refine Wz ?_;refine SW.bz Z Z Z Z Z λb w6 j hb hB=>?_;obtain⟨n,f,m,o,p,t,D,M⟩:=nS j n f m o p t D M;refine SW.append D.row (ay.la (enc:=fj) (x:=⟨U[k].ep,U[k].ap,U[k].Ty,⟨W,_,e4⟩⟩) hB) n.size Z Z Z dD dD λA2 c2 w7 zi hg=>?_;have hG:=D.row.gr hg;have n:=au n hg (Ph _) D.row.az;obtain⟨f,m,o,p,t,M⟩:=fi hG f m o p t M;have hE:=D.each.mono λ_ _ h=>h.aQ hG Z;refine Wz ?_;refine We (i:=3) m λw8 g Q=>?_;obtain⟨n,f,o,p,t,zi,M⟩:=iX g n f o p t zi M;have hE:=hE.mono λ_ _ h=>h.aQ g.T Z;refine Wz ?_;refine ah.again (k+1,A2,c2,lr++[⟨U[k].ep,U[k].ap,U[k].Ty,⟨W,_,e4⟩⟩]) ⟨Z,Z,Z,Z,Z,trivial⟩ dD ⟨by simp only;omega,n,f,Q,o,p,t,⟨zi,?_⟩,R⟩;rw[Pk Y];exact hE.snoc ⟨S.cpu,S.fX,S.ty,M⟩
 obtain rfl:k=r.ak.n:=Y;rw[Pl Y]at D;refine Wz ?_;refine Wh f (bw _) λw5 g zb=>?_;obtain⟨n,o,p,t,D⟩:=dz g n o p t D;refine Wz ?_;exact ah.nu Z Z zb Z ⟨_,Z,n,⟨⟨A,r.aK.n,c⟩,⟨X,r.bY.n,c4⟩,r.bl,⟨B,r.ak.n,d⟩,⟨a,r.Live.n,P⟩⟩,Z,⟨T.cpus,o,p,⟨zr,t⟩,⟨lr,D⟩⟩,zr,lr,t,D,R,zc⟩
theorem rm(r:fB)(h:Heap)(w:World)(a:AQ w r h)(b:h.small):
 aS prog 30 [.agg (bg r).toArray] w λv c=>∃s,v= .agg (bg s).toArray∧ik c w.heap.size s h:=
 (se r h w a b).mono λ_ _ _⟨s,d,e⟩=>⟨s,d,e.own⟩
theorem CJ(r s:fB)(h:Heap)(w:World)(t:AQ w r h)(hb:AQ w s h)(x:h.small):
 aS prog 14 [.agg (bg r).toArray,.agg (bg s).toArray] w λv _=>v= .bool true:=by
 refine Wj func14 ntmps14 ?_;refine Ww λD E c K a=>?_;refine SW.box Z Z λF L J M b=>?_;obtain⟨c,a⟩:=bk J c a;obtain⟨N,G⟩:=t.bA;obtain⟨H,I⟩:=t.lists;obtain⟨y,m⟩:=hb.bA;obtain⟨n,o⟩:=hb.lists;obtain⟨z1,z2⟩:=G.len;obtain⟨l1,l2⟩:=I.len;obtain⟨z3,z4⟩:=m.len;obtain⟨l3,l4⟩:=o.len;have s1:=x.cx;have s2:=x.live;have s3:=x.bA;have s4:=x.lists;have m1:=t.cx.len;have m2:=t.live.len;have e1:=t.cpus;have e2:=hb.cpus
 have T:∀d,Ext w d->aS prog 13 [.slice r.bY.A r.bY.n r.bY.c,.slice s.bY.A s.bY.n s.bY.c] d λv _=>v= .bool true:=λd g=>by
  have:=jV _ _ _ _ r.bY.c s.bY.c _ _ d (t.cx.ext g) (hb.cx.ext g) Y;simpa using this
 have U:∀d,Ext w d->aS prog 54 [.slice r.Live.A r.Live.n r.Live.c,.slice s.Live.A s.Live.n s.Live.c] d λv _=>v= .bool true:=λd g=>by
  have:=pV _ _ _ _ r.Live.c s.Live.c _ _ d (t.live.ext g) (hb.live.ext g) Y;simpa using this
 repeat'(first|refine Wz ?_|(refine CW.bo Z ?_)|refine SW.want Z Z ?_|((first|refine Wk (T _ c) ?_|refine Wk (U _ c) ?_);intro v E e V;subst V;obtain⟨c,a,b⟩:=aY e c a b))
 all_goals try omega
 refine CW.loop (λk:Nat=>[(2,Pt D),(3,Pt F),(5,Iv (k:Int))]) (λk d=>k<=r.aK.n∧Ext w d∧ay d D 34 (bg r)∧ay d F 34 (bg s)) (λk=>r.aK.n-k) 0
  ⟨Z,Z,Z,trivial⟩ ⟨by omega,c,a,b⟩ ?_
 rintro k d ⟨O,c,a,b⟩;have P:=G.row.base;have Q:=m.row.base;by_cases p:k<r.aK.n
 ·have i:k<s.aK.n:=Y;have u:=G.each.get k Y Y;have z:=m.each.get k Y Y;have q:=x.free _ (Pf (show k<h.aK.length by omega));have W:=u.free.len;have q2:=u.types.len
  have X:∀d,Ext w d->aS prog 55 [.agg (bu N[k]).toArray,.agg (bu y[k]).toArray] d λv _=>v= .bool true:=λd g=>by
   have:=CB N[k] y[k] _ _ d (u.ext g) (z.ext g) Y Y;simpa using this
  repeat'(first|refine Wz ?_|(first|refine CW.bo Z ?_|(apply CW.dF mixed;(·kernel_rfl);rotate_left;intro E e;obtain⟨c,a,b⟩:=aY e c a b;rotate_right))|refine Wo c ((G.row.all p)) ?_|refine Wo c ((m.row.all i)) ?_|refine SW.ba Z Z (λE e=>(X _ (c.trans e))) ?_|exact SW.br Z)
  exact ah.again (k+1) ⟨Z,Z,Z,trivial⟩ Y ⟨by omega,c,a,b⟩
 refine Wz ?_
 refine CW.loop (λk:Nat=>[(2,Pt D),(3,Pt F),(6,Iv (k:Int))]) (λk d=>k<=r.ak.n∧Ext w d∧ay d D 34 (bg r)∧ay d F 34 (bg s)) (λk=>r.ak.n-k) 0
  ⟨Z,Z,Z,trivial⟩ ⟨by omega,c,a,b⟩ ?_
 rintro k d ⟨O,c,a,b⟩;have P:=I.row.base;have Q:=o.row.base;by_cases p:k<r.ak.n
 ·have i:k<s.ak.n:=Y;have j:=I.each.get k Y Y;have f:=o.each.get k Y Y;have q:=x.bt _ (Pf (show k<h.ak.length by omega));have W:=j.bt.len;have g1:=j.cpu;have g2:=j.fX;have g3:=j.ty;have g4:=f.cpu;have g5:=f.fX;have g6:=f.ty
  have cP:∀d,Ext w d->aS prog 13 [.slice H[k].aq.A H[k].aq.n H[k].aq.c,.slice n[k].aq.A n[k].aq.n n[k].aq.c] d λv _=>v= .bool true:=λd g=>by
   have:=jV _ _ _ _ H[k].aq.c n[k].aq.c _ _ d (j.bt.ext g) (f.bt.ext g) Y;simpa using this
  repeat'(first|refine Wz ?_|refine Wo c ((I.row.all p)) ?_)
  refine Wr (u6 _) λb7 L l A B=>?_;have R:=c.up A;obtain⟨c,a,b⟩:=aY l c a b;repeat'(first|refine Wz ?_|refine Wo c ((o.row.all i)) ?_)
  refine Wr (u6 _) λb8 L l C za=>?_;have S:=c.up C;obtain⟨c,a,b,B⟩:=cG l c a b B;repeat'(first|refine Wz ?_|(refine CW.bo Z ?_)|(refine Wc (cP _ c) λE e=>?_;obtain⟨c,a,b⟩:=aY e c a b))
  all_goals try omega
  exact ah.again (k+1) ⟨Z,Z,Z,trivial⟩ Y ⟨by omega,c,a,b⟩
 refine Wz ?_;exact ah.aF Z Z ⟨_,Z,c,Z⟩
variable {a':Int}
theorem rc(h:dZ z=false):eX z a o=(8,.zero):=by simp[eX,h,ap.zero]
theorem sV(h:dZ z=true)(b:¬gL z.aE z.To a o):eX z a o=(1,.zero):=by grind[eX,ap.zero]
theorem vX(h:dZ z=true)(b:gL z.aE z.To a o)(c:gQ z.ai a o=true):eX z a o=(5,.zero):=by grind[eX,ap.zero]
theorem sW(h:dZ z=true)(c:gL z.aE z.To a o)(d:gQ z.ai a o=false){b:Int}(e:iO 5 z.ai a o=(l,a',b)){t:Int}(f:z.Types.getD ((a'-z.aE) / 8).toNat 0=t):
 eX z a o=(0,⟨z.aE,z.To,aP l (bB l a') ⟨a',b,t⟩,z.Types⟩):=by grind[eX]
theorem js(h:bV z):z.ai.length<=256∧z.Types.length<=32:=by
 have e:=mN h;have b:=h.ok;unfold eu at b
 have c:∀(i:Nat)(a:i<z.ai.length),(i:Int)<=(z.ai[i]).At:=by
  intro i;induction i with
  | zero=>
    intro a;have:=(h.dm 0 a).1;grind[gL]
  | succ i f=>
    intro a;have g:=f Y;have j:=je e a (Nat.lt_succ_self i);have d:=(h.dm i Y).1;have:=bP d.1 d.2.1;grind
 refine⟨?_,by have:=h.len;omega⟩;rcases Ps z.ai.length with k|k
 ·omega
 have g:=c (z.ai.length-1) Y;have j:=(h.dm (z.ai.length-1) Y).1
 grind[gL]
theorem ld(z:ap)(a o:Int):(eX z a o).2.ai.length<=257∧(eX z a o).2.Types.length<=32∧((eX z a o).1=0->(eX z a o).2.aE=z.aE∧(eX z a o).2.To=z.To∧(eX z a o).2.Types=z.Types):=by
 cases d:dZ z
 ·grind[rc,ap.zero]
 have c:=dj.1 d;have j:=js c;by_cases e:gL z.aE z.To a o
 ·cases g:gQ z.ai a o
  ·have i:=sS (f:=0) (t:=0) c e g;have h:=DB (by have:=c.ok;grind[eu]) 5 i;obtain⟨⟨l,k,m⟩,b⟩:∃u,iO 5 z.ai a o=u:=⟨_,Z⟩;rw[b]at h;rw[sW d e g b Z];have n:=h.2;grind[aP,List.length_append,List.length_take,List.length_drop,List.length_singleton]
  grind[vX,ap.zero]
 grind[sV,ap.zero]
noncomputable def sX:Nat->ap->Int->Int×ap
 | 0,z,_=>(0,z)
 | k+1,z,p=>if(eX z p 0).1=0 then sX k (eX z p 0).2 (p+1)else((eX z p 0).1,.zero)
def kH(z:ap)(f s:Int):Prop:=0<=s∧z.aE<=f∧f<=z.To∧s<=z.To-f
instance (z:ap) (f s:Int):Decidable (kH z f s):=inferInstanceAs (Decidable (_∧_))
noncomputable def oo(z:ap)(f s:Int):Int×ap:=if dZ z then(if kH z f s then sX s.toNat z f else(1,.zero))else(8,.zero)
theorem GW{s:Int}(h:dZ z=false):oo z f s=(8,.zero):=by simp[oo,h]
theorem GX{s:Int}(h:dZ z=true)(a:¬kH z f s):oo z f s=(1,.zero):=by grind[oo]
theorem GY(h:dZ z=true)(a:kH z f (k:Int)):oo z f (k:Int)=sX k z f:=by grind[oo]
variable {a0 o0:Int} {l0:List Block}
def DQ(l:List Block):Prop:=l.Pairwise kj
theorem pd{y:Int}(a:0<=o)(b:o<4)(c:y % pw o=0):beside (beside y o) o=y∧(beside y o=y+pw o∨beside y o=y-pw o):=by
 unfold beside;have d:=eE a (show o<=4 by omega)
 grind
theorem DR(h:bV z):DQ z.ai:=by
 have c:=mN h;unfold DQ;rw[Pq];intro i j l a d;by_cases e:j=i+1
 ·subst e;exact h.next i a
 refine⟨je c a d,λg=>?_⟩;obtain⟨k,m,n⟩:=g;have o:=je c (show i+1<z.ai.length by omega) (Nat.lt_succ_self i);have p:=je c a (show i+1<j by omega);have f:=(h.dm (i+1) Y).1;have b:=(h.dm j a).1;have q:=bP f.1 f.2.1;have r:=(pd b.1 k b.2.2.2.2).2;have s:=bP b.1 b.2.1;grind
theorem HW(b:0<=o)(c:o<4)(d:a % pw o=0)(e f g:Int)(i:Nat):rf ⟨min a (beside a o),o+1,e⟩ i=(rf ⟨a,o,f⟩ i||rf ⟨beside a o,o,g⟩ i):=by
 have h:=(pd b c d).2;have j:=kG b (show o<=4 by omega);have k:=bP b (show o<=4 by omega);rw[QO];simp only[rf,Bool.and_eq_true,Bool.or_eq_true,decide_eq_true_eq];grind
theorem DS(h:l.any (r9 a o)=true)(i:Nat):ed l i=(ed (bJ l a o) i||rf ⟨a,o,0⟩ i):=by
 rw[QO];simp only[Bool.or_eq_true,ed,List.any_eq_true,bJ,List.mem_filter];constructor
 ·rintro⟨x,g,c⟩;by_cases e:r9 a o x=true
  ·obtain⟨d,f⟩:=jf.1 e;right;rw[<-c,<-d,<-f];rfl
  grind
 rintro(⟨x,⟨g,_⟩,c⟩|c)
 ·grind
 obtain⟨b,hb,j⟩:=Pn.1 h;obtain⟨d,f⟩:=jf.1 j;exact⟨b,hb,by rw[<-c,<-d,<-f];rfl⟩
structure Joined(f t:Int)(l:List Block)(a o:Int)(l':List Block)(a' o':Int):Prop where
 ok:AO f t l' a' o'
 nx:DQ l'
 G0:∀i,(ed l' i||rf ⟨a',o',0⟩ i)=(ed l i||rf ⟨a,o,0⟩ i)
 fin:o'<4->l'.any (r9 (beside a' o') o')=false
theorem te{t:Int}(e:0<=f):∀(k:Nat){l:List Block}{a o:Int},4-o<k->AO f t l a o->DQ l->Joined f t l a o (iO k l a o).1 (iO k l a o).2.1 (iO k l a o).2.2
 | 0,l,a,o,hk,h,hn=>by have:=h.fit.2.1;omega
 | k+1,l,a,o,hk,h,hn=>by
   simp only[iO];split
   ·rename_i c;split
    ·rename_i b;have d:=te e k Y (h.step e c b) (hn.sublist List.filter_sublist);refine⟨d.ok,d.nx,λi=>?_,d.fin⟩;rw[d.G0 i,HW h.fit.1 c h.fit.2.2.2.2 0 0 0,DS b i];grind
    rename_i b;exact⟨h,hn,λ_=>Z,λ_=>by grind⟩
   rename_i c;exact⟨h,hn,λ_=>Z,λh=>absurd h c⟩
theorem LM{t:Int}(h:Joined f t l0 a0 o0 l a o)(u:Int):DQ (aP l (bB l a) ⟨a,o,u⟩):=by
 have b:=h.ok;have D:=bP b.fit.1 b.fit.2.1
 have s:∀x∈l.take (bB l a),kj x ⟨a,o,u⟩:=λx w=>by
  obtain⟨j,i,rfl⟩:=Pg w;simp only[List.length_take]at i;rw[PY];have z:=om (l:=l) (a:=a) (k:=j) Y;have A:=b.Lt _ (Pf (show j<l.length by omega));refine⟨by grind,λm=>?_⟩;obtain⟨n,p,q⟩:=m;have:=h.fin n;grind[List.any_eq_false,List.getElem_mem,jf]
 have r:∀y∈l.drop (bB l a),kj ⟨a,o,u⟩ y:=λy B=>by
  obtain⟨j,i,rfl⟩:=Pg B;simp only[List.length_drop]at i;rw[P8];have c:bB l a<l.length:=Y;have z:=DD c;have v:=Pf (show bB l a+j<l.length by omega);have A:=b.Lt _ v;have hb:=(b.dm _ v).1;have C:=bP hb.1 hb.2.1
  have E:(l[bB l a]).At<=(l[bB l a+j]'Y).At:=by
   rcases Ps j with e|e
   ·grind
   have:=je b.pN (show bB l a+j<l.length by omega) (show bB l a<bB l a+j by omega);have d:=(b.dm _ (Pf c)).1;have:=bP d.1 d.2.1;grind
  refine⟨by grind,λm=>?_⟩;obtain⟨n,p,q⟩:=m;simp only at p q;have e:=(pd hb.1 n hb.2.2.2.2).1;rw[<-q,<-p]at e;have:=h.fin Y;rw[PA]at this;grind[List.any_eq_false,jf]
 have g:(l.take (bB l a)++l.drop (bB l a)).Pairwise kj:=by rw[Pz];exact h.nx
 rw[PN]at g;unfold DQ aP<;>grind
theorem HX(l:List Block)(i:Nat)(b:Block)(k:Nat):ed (aP l i b) k=(ed l k||rf b k):=by
 have:ed l k=(ed (l.take i) k||ed (l.drop i) k):=by
  grind[ed,List.take_append_drop]
 rw[this];simp only[ed,aP,List.any_append,List.any_cons,List.any_nil,Bool.or_false];grind
theorem uj{b x:Block}(h:x∈aP l i b):x=b∨x∈l:=by
 unfold aP at h<;>grind
structure Kept(z z':ap)(a o:Int):Prop where
 may:bV z'
 from_:z'.aE=z.aE
 kW:z'.To=z.To
 types:z'.Types=z.Types
 G0:∀i,ed z'.ai i=(ed z.ai i||rf ⟨a,o,0⟩ i)
theorem wQ(b:bV z)(g:gL z.aE z.To a o)(j:gQ z.ai a o=false):(eX z a o).1=0∧Kept z (eX z a o).2 a o:=by
 have q:0<=z.aE:=b.ok.1;have r:=sS (f:=0) (t:=0) b g j;have c:=te q 5 (by have:=g.1;omega) r (DR b);obtain⟨⟨l,k,s⟩,m⟩:∃u,iO 5 z.ai a o=u:=⟨_,Z⟩;rw[m]at c;simp only at c;obtain⟨t,n⟩:=bq (z.Types.getD ((k-z.aE) / 8).toNat 0);rw[sW (sQ b) g j m n]
 have d:iu t:=by
  subst n;rw[Qq];cases e:z.Types[((k-z.aE) / 8).toNat]? with
  | none=>exact⟨by decide,by decide⟩
  | some v=>
    obtain⟨h,rfl⟩:=PF.1 e;exact b.types _ (Pf h)
 have w:=LM c t;refine⟨Z,⟨b.ok,b.len,b.types,λi p=>?_,λi p=>?_⟩,Z,Z,Z,λi=>?_⟩
 ·rcases uj (Pf p)with e|e
  ·simp only at e⊢;rw[e];exact⟨c.ok.fit,d⟩
  exact c.ok.dm _ e
 ·simp_all[DQ,List.pairwise_iff_getElem]
 rw[HX,<-c.G0 i];rfl
variable {z0 z1:ap}
noncomputable def eI(s:ap×ap)(b:Block):ap×ap:=if b.At<s.1.To then((eX s.1 b.At b.Order).2,s.2)else(s.1,(eX s.2 b.At b.Order).2)
noncomputable def bp(s:ap×ap)(l:List Block):ap×ap:=l.foldl eI s
theorem kJ(s:ap×ap)(l:List Block)(k:Nat)(h:k<l.length):bp s (l.take (k+1))=eI (bp s (l.take k)) l[k]:=by
 grind[bp,List.take_succ_eq_append_getElem]
theorem kK(s:ap×ap)(l m:List Block):bp s (l++m)=bp (bp s l) m:=List.foldl_append
structure oy(s:ap×ap)(bs:List Block):Prop where
 kD:bV s.1
 j8:bV s.2
 nF:s.1.aE=0
 AT:s.1.To=s.2.aE
 G1:s.2.To=256
 G0:∀i,(ed s.1.ai i||ed s.2.ai i)=ed bs i
theorem kx(l m:List Block)(i:Nat):ed (l++m) i=(ed l i||ed m i):=by simp[ed]
theorem ky(h:bV z):∀b∈z.ai,0<=b.At∧1<=pw b.Order:=λb hb=>by
 obtain⟨i,c,rfl⟩:=Pg hb;have a:=(h.dm i c).1;have d:=h.ok.1;have:=bP a.1 a.2.1;obtain⟨_,_,e,_,_⟩:=a;omega
structure nG(bs:List Block)(b:Block):Prop where
 ord:0<=b.Order∧b.Order<=4
 at_:0<=b.At∧b.At<256
 al:b.At % pw b.Order=0
 fits:mQ bs b
 Nu:∀x∈bs,0<=x.At∧1<=pw x.Order
theorem oy.free{s:ap×ap}(h:oy s bs){b:Block}(hb:nG bs b):gQ s.1.ai b.At b.Order=false∧gQ s.2.ai b.At b.Order=false:=by
 have d:=bP hb.ord.1 hb.ord.2;have e:=(rh hb.Nu d.1).2 hb.fits;obtain⟨m1,f,g,k⟩:=e
 have a:∀l:List Block,(∀x∈l,0<=x.At∧1<=pw x.Order)->(∀i,ed l i=true->ed bs i=true)->gQ l b.At b.Order=false:=λl j m=>
  ((rh j d.1).1 ⟨m1,f,g,λi n o=>by
   grind⟩).2.2
 exact⟨a _ (ky h.kD) λi c=>by rw[<-h.G0 i,c];rfl,a _ (ky h.j8) λi c=>by rw[<-h.G0 i,c];simp⟩
theorem oy.low{s:ap×ap}(h:oy s bs){b:Block}(hb:nG bs b)(a:b.At<s.1.To):gL s.1.aE s.1.To b.At b.Order:=⟨hb.ord.1,hb.ord.2,by rw[h.nF];exact hb.at_.1,a,hb.al⟩
theorem oy.tf{s:ap×ap}(h:oy s bs){b:Block}(hb:nG bs b)(a:¬b.At<s.1.To):gL s.2.aE s.2.To b.At b.Order:=⟨hb.ord.1,hb.ord.2,by rw[<-h.AT];omega,by rw[h.G1];exact hb.at_.2,hb.al⟩
theorem wR(b:Block)(i:Nat):ed [b] i=rf b i:=by simp[ed]
theorem oy.back{s:ap×ap}(h:oy s bs){b:Block}(hb:nG bs b):oy (eI s b) (bs++[b])∧(eI s b).1.To=s.1.To:=by
 obtain⟨c,d⟩:=h.free hb;unfold eI;by_cases a:b.At<s.1.To
 ·rw[if_pos a];obtain⟨_,k⟩:=wQ h.kD (h.low hb a) c;refine⟨⟨k.may,h.j8,by rw[<-h.nF];exact k.from_,by rw[<-h.AT];exact k.kW,h.G1,λi=>?_⟩,k.kW⟩;rw[kx,wR,<-h.G0 i];simp only;rw[k.G0 i];have:rf ⟨b.At,b.Order,0⟩ i=rf b i:=Z;grind
 rw[if_neg a];obtain⟨_,k⟩:=wQ h.j8 (h.tf hb a) d;refine⟨⟨h.kD,k.may,h.nF,by simp only;rw[k.from_];exact h.AT,by simp only;rw[k.kW];exact h.G1,λi=>?_⟩,Z⟩;rw[kx,wR,<-h.G0 i];simp only;rw[k.G0 i];have:rf ⟨b.At,b.Order,0⟩ i=rf b i:=Z;grind
theorem lO:∀{l s t:List Block},bh (some s) l=some t->t=s++l
 | [],s,t,h=>by simp[bh]at h;simp[h]
 | b::l,s,t,h=>by
   have e:bh (some s) (b::l)=bh (kn (some s) b) l:=Z;rw[e]at h;cases a:kn (some s) b with
   | none=>rw[a,il]at h;cases h
   | some u=>
     rw[a]at h;obtain⟨cs,c,_,rfl⟩:=ot a;cases c;rw[lO h];simp
theorem pe{m:List Block}{b:Block}(h:(bh (some []) (l++b::m)).isSome=true):mQ l b:=by
 have a:(bh (some []) (l++[b])).isSome=true:=gp (m:=m) (by grind);rw[bF]at a;cases e:bh (some []) l with
 | none=>grind[il]
 | some t=>
   have:=lO e;grind[lO,bh,kn,ot]
theorem DU(h:(bh (some []) l).isSome=true)(hb:∀b∈l,1<=pw b.Order):∀x∈l,0<=x.At∧1<=pw x.Order:=by
 have c:=kw (l:=l) Bm hb;obtain⟨t,a⟩:=PM.1 h;have e:=lO a;rw[Qb]at e;subst e;exact c _ a
structure me(h:Heap)(z0 z1:ap):Prop where
 bA:h.aK=[z0,z1]
 kD:bV z0
 j8:bV z1
 nF:z0.aE=0
 AT:z0.To=z1.aE
 G1:z1.To=256
 all:(bh (some []) (z0.ai++z1.ai++aM h.ak)).isSome=true
theorem wS{h:Heap}(c:bf h):∃a b,me h a b:=by
 obtain⟨a,b,d,e,f,g,i,j,_,k⟩:=c.bA;exact⟨a,b,d,e,f,g,i,j,gp k⟩
theorem wT{l:List aC}:∀b∈aM l,b.Order=0:=λb hb=>by
 unfold aM at hb;obtain⟨x,_,a⟩:=Py.1 hb;obtain⟨p,_,rfl⟩:=Pw.1 a
 rfl
theorem me.start{h:Heap}(d:me h z0 z1):oy (z0,z1) (z0.ai++z1.ai):=⟨d.kD,d.j8,d.nF,d.AT,d.G1,λi=>by rw[kx]⟩
theorem me.pw{h:Heap}(d:me h z0 z1):∀b∈z0.ai++z1.ai++aM h.ak,1<=pw b.Order:=λb hb=>by
 rcases Px.1 hb with hb|hb
 ·rcases Px.1 hb with hb|hb
  ·exact(ky d.kD b hb).2
  exact(ky d.j8 b hb).2
 grind[wT,im]
theorem me.next{h:Heap}(d:me h z0 z1)(f:k<(aM h.ak).length):nG (z0.ai++z1.ai++(aM h.ak).take k) (aM h.ak)[k]:=by
 have a:=d.all;have e:z0.ai++z1.ai++aM h.ak=(z0.ai++z1.ai++(aM h.ak).take k)++(aM h.ak)[k]::(aM h.ak).drop (k+1):=by simp
 rw[e]at a;have c:=pe a;have i:=wT _ (Pf f)
 have g:=DU (gp a) (λb hb=>d.pw b (by
  grind))
 have j:=im;refine⟨by omega,⟨c.1,?_⟩,by grind,c,g⟩;have:=c.2.1;grind
theorem me.inv{h:Heap}(d:me h z0 z1):∀k,k<=(aM h.ak).length->oy (bp (z0,z1) ((aM h.ak).take k)) (z0.ai++z1.ai++(aM h.ak).take k)
 | 0,_=>by simpa[bp]using d.start
 | k+1,hk=>by
   have a:=(d.inv k Y).back (d.next (show k<_ by omega));rw[kJ _ _ _ Y,Pk Y,<-Po];grind
def iG(l:List aC)(i:Nat):Nat:=(aM (l.take i)).length
theorem tg{l:List aC}(a:i<l.length):iG l (i+1)=iG l i+l[i].aq.length:=by
 unfold iG<;>grind[iG,nE]
theorem FG(l:List aC)(i:Nat):aM l=aM (l.take i)++aM (l.drop i):=by
 grind[aM,List.take_append_drop]
theorem th{l:List aC}(d:i<l.length)(f:j<l[i].aq.length):∃h:iG l i+j<(aM l).length,(aM l)[iG l i+j]=bC (l[i].aq[j]):=by
 have e:=FG l i;have b:l.drop i=l[i]::l.drop (i+1):=by simp
 have c:aM (l.drop i)=l[i].aq.map bC++aM (l.drop (i+1)):=by rw[b];rfl
 have a:iG l i+j<(aM l).length:=by rw[e,c];grind[iG]
 refine⟨a,?_⟩
 have:(aM l)[iG l i+j]?=some (bC (l[i].aq[j])):=by
  rw[e,Qp (by unfold iG;omega)];grind[List.getElem?_append_right,iG,aM,List.getElem?_append_left]
 grind
theorem v3(l:List aC):iG l l.length=(aM l).length:=by simp[iG]
noncomputable def nH(h:Heap)(a b:ap):Heap:=⟨[(bp (a,b) (aM h.ak)).1,(bp (a,b) (aM h.ak)).2],h.bY,h.bl,[],h.Live⟩
def dT(a b:aC):Prop:=a.ep=b.ep∧a.ap=b.ap∧a.Ty=b.Ty
instance (a b:aC):Decidable (dT a b):=inferInstanceAs (Decidable (_∧_))
def uk(L:List aC):Prop:=L.Pairwise cd
theorem u9{a b c:aC}(d:cd a b)(e:cd b c):cd a c:=by grind[cd]
theorem Bv(a b:aC):cd a b∨dT a b∨cd b a:=by grind[cd,dT]
theorem mC{a b:aC}(h:cd a b):¬dT a b∧¬dT b a∧¬cd b a:=by grind[cd,dT]
theorem CN{c t:Int}(h:mh c t L):uk L:=by
 have b:∀(d i:Nat)(a:i+d+1<L.length),cd (L[i]'Y) L[i+d+1]:=by
  intro d;induction d with
  | zero=>intro i a;exact h.next i a
  | succ d e=>intro i a;exact u9 (e i Y) (h.next (i+d+1) Y)
 unfold uk;rw[Pq];intro i j g a f;have:=b (j-i-1) i Y
 grind
theorem uk.get(h:uk L)(b:j<L.length)(a:i<j):cd (L[i]'(Qx a b)) L[j]:=by
 unfold uk at h<;>grind[uk,List.pairwise_iff_getElem]
def aW(L:List aC)(x:aC):Nat:=L.findIdx λl=> !decide (cd l x)
theorem jg(L:List aC)(x:aC):aW L x<=L.length:=List.findIdx_le_length
theorem pf{x:aC}(a:k<aW L x):cd (L[k]'(P1 a (jg L x))) x:=by
 have:=List.not_of_lt_findIdx a;grind
theorem G3{x:aC}(h:aW L x<L.length):¬cd (L[aW L x]) x:=by
 have:=List.findIdx_getElem (w:=h);exact of_decide_eq_false (by rw[Bool.not_eq_true']at this;exact this)
theorem rn{x:aC}(a:i<=L.length)(b:∀(k:Nat)(h:k<L.length),k<i->cd L[k] x)(c:∀h:i<L.length,¬cd L[i] x):aW L x=i:=by
 unfold aW<;>grind
def bW(L:List aC)(x:aC):Bool:=if h:aW L x<L.length then decide (dT L[aW L x] x)else false
theorem fK{x:aC}(h:bW L x=true):∃a:aW L x<L.length,dT L[aW L x] x:=by
 unfold bW at h<;>grind
theorem G4{x:aC}(h:bW L x=false)(a:aW L x<L.length):cd x L[aW L x]:=by
 unfold bW at h;rw[dif_pos a]at h;have b:=of_decide_eq_false h;grind[of_decide_eq_false,G3,Bv,aW,absurd]
theorem J0(b:uk L){x:aC}(c:k<L.length)(h:dT L[k] x):aW L x=k∧bW L x=true:=by
 have e:aW L x=k:=rn Y (λj d a=>by have:=b.get c a;grind[cd,dT]) (λ_=>by grind[cd,dT])
 simp_all[bW,decide_eq_true]
theorem J1{x:aC}(h:∀(k:Nat)(a:k<L.length),¬dT L[k] x):bW L x=false:=by
 cases e:bW L x<;>grind[bW,fK,absurd]
theorem ju{x y:aC}(h:dT x y):aW L x=aW L y∧bW L x=bW L y:=by
 grind[decide,cd,dT,aW,bW]
def fZ(L:List aC)(x:aC):List aC:=if bW L x then L.set (aW L x) x else aP L (aW L x) x
theorem qi{x:aC}(h:bW L x=true):fZ L x=L.set (aW L x) x:=by rw[fZ,if_pos h]
theorem qj{x:aC}(h:bW L x=false):fZ L x=aP L (aW L x) x:=by simp_all[fZ]
def bZ(L:List aC)(x:aC):List Int:=if bW L x then(L.getD (aW L x) x).aq else []
theorem fk{x:aC}(h:bW L x=true)(a:aW L x<L.length):bZ L x=L[aW L x].aq:=by
 simp_all[bZ,List.getD_eq_getElem?_getD]
theorem iP{x:aC}(h:bW L x=false):bZ L x=[]:=by simp_all[bZ]
theorem bT(l:List α)(h:i<=l.length)(x:α):(aP l i x).length=l.length+1:=by grind[aP]
theorem qk{l:List α}(h:i<=l.length){x:α}(a:k<i):(aP l i x)[k]?=l[k]?:=by
 unfold aP<;>grind
theorem jP{l:List α}(h:i<=l.length){x:α}:(aP l i x)[i]?=some x:=by
 unfold aP<;>grind
theorem oz{l:List α}(h:i<=l.length){x:α}(a:i<=k):(aP l i x)[k+1]?=l[k]?:=by
 unfold aP<;>grind
theorem ul{l:List α}(h:i<=l.length)(x y:α):(aP l i x).set i y=aP l i y:=by
 unfold aP<;>simp_all
theorem wU{x:aC}:(fZ L x)[aW L x]?=some x:=by
 cases h:bW L x
 ·grind[qj,jP,jg]
 grind[fK,qi,List.getElem?_set_self]
theorem DV{x:aC}:aW (fZ L x) x=aW L x∧bW (fZ L x) x=true:=by
 have b:=wU (L:=L) (x:=x);obtain⟨c,d⟩:=PF.1 b
 have e:aW (fZ L x) x=aW L x:=by
  refine rn Y (λj f a=>?_) (λ_=>?_)
  ·have g:=pf (L:=L) (x:=x) a
   have i:(fZ L x)[j]?=L[j]?:=by
    cases h:bW L x;all_goals grind[qj,qk,jg,qi,List.getElem?_set_ne]
   grind
  grind[cd]
 refine⟨e,?_⟩;unfold bW;simp only[e,dif_pos c,d];exact decide_eq_true ⟨Z,Z,Z⟩
theorem DW{x y:aC}(h:dT x y):(fZ L x).set (aW L x) y=fZ L y:=by
 obtain⟨a,b⟩:=ju (L:=L) h;cases c:bW L x;all_goals grind[qj,ul,jg,qi,List.set_set]
def cR(L:List aC)(x:aC)(k:Nat):List aC:=if k<=aW L x then L.take k else if bW L x then(L.set (aW L x) x).take k else(aP L (aW L x) x).take (k+1)
theorem qo{l:List α}{x:α}(h:l[k]?=some x):l.take (k+1)=l.take k++[x]:=by
 obtain⟨a,rfl⟩:=PF.1 h<;>simp_all
theorem FH{x:aC}(a:k<aW L x):cR L x (k+1)=cR L x k++[L[k]'(P1 a (jg L x))]:=by
 have:=jg L x;rw[cR,if_pos Y,cR,if_pos Y];simp_all
theorem DX{x:aC}(b:k=aW L x)(a:bW L x=true):cR L x (k+1)=cR L x k++[x]:=by
 obtain⟨c,_⟩:=fK a;subst b;rw[cR,if_neg Y,if_pos a,cR,if_pos (Ph _),qo (x:=x) (QB c),List.take_set_of_le (Ph _)]
theorem HY{x:aC}(b:k=aW L x)(c:k<L.length)(d:bW L x=false):cR L x (k+1)=cR L x k++[x]++[L[k]]:=by
 subst b;have a:=jg L x;rw[cR,if_neg Y,if_neg (by grind),cR,if_pos (Ph _),qo (x:=L[aW L x]) (by simp_all[oz]),qo (jP a)]
 grind[aP,List.append_assoc,Nat.min_self]
theorem DY{x:aC}(b:aW L x<k)(c:k<L.length):cR L x (k+1)=cR L x k++[L[k]]:=by
 have a:=jg L x;rw[cR,if_neg (show¬k+1<=aW L x by omega),cR,if_neg (show¬k<=aW L x by omega)];cases d:bW L x
 ·simp only[Bool.false_eq_true,if_false]
  grind[qo,oz,List.getElem?_eq_getElem]
 simp only[if_true]
 grind[qo,List.getElem?_set_ne,List.getElem?_eq_getElem]
theorem DZ{x:aC}(a:aW L x<L.length):cR L x L.length=fZ L x:=by
 rw[cR,if_neg Y,fZ];split<;>grind[List.take_of_length_le,bT,jg]
theorem D0{x:aC}(b:¬aW L x<L.length):cR L x L.length++[x]=fZ L x:=by
 have a:=jg L x;have e:aW L x=L.length:=Y;have c:bW L x=false:=by unfold bW<;>grind
 simp_all[cR,qj,aP]
def jN(o t:Int)(b:Block):Bool:=decide (b.Order=o) && decide (b.Ty=t)
theorem ou{t:Int}{b:Block}:jN o t b=true↔b.Order=o∧b.Ty=t:=by simp[jN]
def qb(t:Int):Int:=if t=2 then 0 else 2
def qd(t:Int):Int:=if t=1 then 0 else 1
def sZ(o:Int)(n:Nat):Int:=if n<5 then o+n else 4-(((n-5) / 2:Nat):Int)
def LJ(t:Int)(n:Nat):Int:=if n<5 then t else if(n-5) % 2=0 then qb t else qd t
def iD(l:List Block)(o t:Int)(n:Nat):Bool:=decide (o<=sZ o n∧sZ o n<=4) && l.any (jN (sZ o n) (LJ t n))
theorem o8(h:j<5):sZ o j=o+j:=by unfold sZ<;>grind
theorem s8:sZ o (5+2*j)=4-(j:Int):=by unfold sZ<;>grind
theorem s9:sZ o (5+2*j+1)=4-(j:Int):=by unfold sZ<;>grind
theorem wF{t:Int}(h:j<5):LJ t j=t:=by unfold LJ<;>grind
theorem wG{t:Int}:LJ t (5+2*j)=qb t:=by unfold LJ<;>grind
theorem wH{t:Int}:LJ t (5+2*j+1)=qd t:=by unfold LJ<;>grind
theorem DH{t:Int}(h:j<5)(a:o+j<=4):iD l o t j=l.any (jN (o+j) t):=by
 unfold iD;rw[o8 h,wF h,decide_eq_true Y,QD]
theorem DI{t:Int}(a:o<=4-(j:Int)):iD l o t (5+2*j)=l.any (jN (4-(j:Int)) (qb t)):=by
 unfold iD;rw[s8,wG,decide_eq_true Y,QD]
theorem DJ{t:Int}(a:o<=4-(j:Int)):iD l o t (5+2*j+1)=l.any (jN (4-(j:Int)) (qd t)):=by
 unfold iD;rw[s9,wH,decide_eq_true Y,QD]
theorem wI{t:Int}{n:Nat}(h:¬(o<=sZ o n∧sZ o n<=4)):iD l o t n=false:=by
 unfold iD<;>grind
inductive gf(l:List Block)(o t:Int):Option (Nat×Bool)->Prop
 | hit {n k:Nat} (hn:n<15) (ht:iD l o t n=true) (hf:∀m,m<n->iD l o t m=false) (hk:k<l.length) (hp:jN (sZ o n) (LJ t n) l[k]=true) (hg:∀(j:Nat)(hj:j<l.length),j<k->jN (sZ o n) (LJ t n) l[j]=false):gf l o t (some (k,decide (5<=n)))
 | JR (hf:∀m,m<15->iD l o t m=false):gf l o t none
theorem gf.c7{t:Int}{u v:Option (Nat×Bool)}(a:gf l o t u)(b:gf l o t v):u=v:=by
 cases a with
 | @hit n k d e c f g h=>
   cases b<;>grind
 | JR c=>
   cases b<;>grind
theorem gf.ord{t:Int}{s:Bool}(a:gf l o t (some (k,s))):∃b:k<l.length,o<=l[k].Order∧l[k].Order<=4:=by
 cases a with
 | hit d c e b f g=>
   refine⟨b,?_⟩;unfold iD at c
   simp_all[Bool.and_eq_true,of_decide_eq_true,ou]
def Jq(f a t:Int)(x:Block):Block:=if f<=x.At∧x.At+pw x.Order<=a then⟨x.At,x.Order,t⟩else x
def ov(b:Block):Int:=if b.Order=4 then b.At+16 else b.At / 8*8+8
def fY(l:List Block)(b:Block)(t:Int):List Block:=if b.Order<2 then l else l.map (Jq (b.At / 8*8) (ov b) t)
def lL(z:ap)(b:Block):Nat:=((b.At-z.aE) / 8).toNat
def fb(z:ap)(b:Block)(t:Int):List Int:=if b.Order<2 then z.Types else if b.Order=4 then(z.Types.set (lL z b) t).set (lL z b+1) t else z.Types.set (lL z b) t
theorem CF(f a t:Int)(x:Block):(Jq f a t x).At=x.At∧(Jq f a t x).Order=x.Order:=by
 unfold Jq<;>grind
theorem Fy(l:List Block)(b:Block)(t:Int):(fY l b t).length=l.length:=by unfold fY<;>grind
theorem Fz{b:Block}{t:Int}(h:pN l):pN (fY l b t):=by
 unfold fY<;>grind[fY,pN,CF]
theorem FA{u:Int}{b:Block}{t:Int}(h:∀x∈l,eG f u x)(d:iu t):∀x∈fY l b t,eG f u x:=by
 unfold fY;split
 ·exact h
 intro x a;obtain⟨y,c,rfl⟩:=Pw.1 a;have e:=h y c;grind[eG,CF,Jq]
def mR(ty a q:Int):Block:=⟨a+pw (q-1),q-1,ty⟩
def pH(ty a q:Int)(l:List Block):List Block:=aP l (bB l (a+pw (q-1))) (mR ty a q)
def jO(ty a:Int):Nat->Int->List Block->List Block
 | 0,_,l=>l
 | f+1,q,l=>jO ty a f (q-1) (pH ty a q l)
def mS(z:ap)(t:Int)(st:Bool)(b:Block):Int:=if st=true∧2<=b.Order then t else b.Ty
def o9(z:ap)(o t:Int)(b:Block)(k:Nat)(st:Bool):ap:=
 ⟨z.aE,z.To,jO (mS z t st b) b.At (b.Order-o).toNat b.Order ((if st=true then fY z.ai b t else z.ai).eraseIdx k),if st=true then fb z b t else z.Types⟩
inductive gq(z:ap)(o t:Int):ap×Int×Int->Prop
 | bad (h:dZ z=false):gq z o t (.zero,0,8)
 | range (h:dZ z=true) (ho:¬(0<=o∧o<=4)):gq z o t (.zero,0,1)
 | kind (h:dZ z=true) (ho:0<=o∧o<=4) (ht:¬iu t):gq z o t (.zero,0,2)
 | room (h:dZ z=true) (ho:0<=o∧o<=4) (ht:iu t) (hp:gf z.ai o t none):gq z o t (.zero,0,6)
 | ok {k:Nat} {st:Bool} (h:dZ z=true) (ho:0<=o∧o<=4) (ht:iu t) (hk:k<z.ai.length) (hp:gf z.ai o t (some (k,st))):gq z o t (o9 z o t z.ai[k] k st,z.ai[k].At,0)
theorem gq.c7{t:Int}{u v:ap×Int×Int}(a:gq z o t u)(b:gq z o t v):u=v:=by
 cases a with
 | bad h=>cases b<;>grind
 | range h e=>cases b<;>grind
 | kind h e i=>cases b<;>grind
 | room h e i d=>cases b with
   | bad h'=>grind
   | range _ f=>omega
   | kind _ _ g=>grind
   | room=>rfl
   | ok _ _ _ _ c=>cases d.c7 c
 | ok h e i j d=>cases b with
   | bad h'=>grind
   | range _ f=>omega
   | kind _ _ g=>grind
   | room _ _ _ c=>cases d.c7 c
   | ok _ _ _ _ c=>cases d.c7 c;rfl
theorem j6{l:List α}{x y:α}:y∈aP l i x↔y=x∨y∈l:=by
 have e:l=l.take i++l.drop i:=(Pz i l).symm;unfold aP<;>grind
theorem HO{t:Int}{y:Block}(h:pN l)(hb:∀b∈l,eG f t b)(i:0<=y.Order∧y.Order<=4)(r:∀b∈l,b.At+pw b.Order<=y.At∨y.At+pw y.Order<=b.At):pN (aP l (bB l y.At) y):=by
 have e:l=l.take (bB l y.At)++l.drop (bB l y.At):=(Pz _ l).symm;have c:=h;unfold pN at c;rw[e,PN]at c;obtain⟨s,u,v⟩:=c
 have w:∀x∈l.take (bB l y.At),x.At+pw x.Order<=y.At:=λx d=>by
  obtain⟨j,g,rfl⟩:=Pg d;simp only[List.length_take]at g;rw[PY];have n:=om (l:=l) (a:=y.At) (k:=j) Y;have z:=bP i.1 i.2;grind
 have A:∀x∈l.drop (bB l y.At),y.At+pw y.Order<=x.At:=λx d=>by
  obtain⟨j,g,rfl⟩:=Pg d;simp only[List.length_drop]at g;rw[P8];have o:=DD (l:=l) (a:=y.At) Y
  have p:(l[bB l y.At]'Y).At<=(l[bB l y.At+j]'Y).At:=by
   rcases Ps j with rfl|q
   ·grind
   have:=je h (show bB l y.At+j<l.length by omega) (show bB l y.At<bB l y.At+j by omega);have:=bP (hb _ (Pf (show bB l y.At<l.length by omega))).1.1 (hb _ (Pf (show bB l y.At<l.length by omega))).1.2.1;omega
  have m:=Pf (show bB l y.At+j<l.length by omega);have:=bP (hb _ m).1.1 (hb _ m).1.2.1;grind
 unfold aP pN<;>grind
theorem wJ{t:Int}{q ty:Int}(h:AO f t l a q)(x:0<=f)(z:t<=256)(k:t % 16=0)(A:1<=q)(i:iu ty):AO f t (pH ty a q l) a (q-1)∧(∀b∈l,b.At≠a+pw (q-1)):=by
 obtain⟨m,n,p,r,B⟩:=h.fit
 have C:pw q=2*pw (q-1):=by
  have:=kG (o:=q-1) Y Y
  grind
 have s:a % pw (q-1)=0∧(a+pw (q-1)) % pw (q-1)=0∧1<=pw (q-1)∧a+pw (q-1)<t:=by
  rcases eE m n with⟨c,d⟩|⟨c,d⟩|⟨c,d⟩|⟨c,d⟩|⟨c,d⟩<;>grind
 obtain⟨m1,u,D,v⟩:=s
 have w:∀b∈l,b.At+pw b.Order<=a+pw (q-1)∨a+pw (q-1)+pw (q-1)<=b.At:=λb hb=>by
  rcases h.Lt b hb with g|g<;>omega
 have j:∀b∈l,b.At≠a+pw (q-1):=λb hb e=>by
  have:=bP (h.dm b hb).1.1 (h.dm b hb).1.2.1;grind
 refine⟨⟨?_,λb hb=>?_,⟨by omega,by omega,p,r,m1⟩,λb hb=>?_⟩,j⟩
 ·exact HO (y:=mR ty a q) h.pN h.dm ⟨by grind[mR],by grind[mR]⟩ w
 ·rcases j6.1 hb with rfl|hb
  ·exact⟨⟨by grind[mR],by grind[mR],by grind[mR],v,u⟩,i⟩
  exact h.dm b hb
 rcases j6.1 hb with rfl|hb
 ·grind[mR]
 rcases h.Lt b hb with g|g<;>omega
theorem Bn(ty a q:Int)(l:List Block):(pH ty a q l).length=l.length+1:=by
 have:=DC l (a+pw (q-1));grind[DC,pw,pH,aP]
theorem uf{t:Int}(d:pN l)(hb:∀b∈l,eG f t b)(a:k<l.length):AO f t (l.eraseIdx k) l[k].At l[k].Order:=by
 have e:∀b∈l.eraseIdx k,b∈l:=λb h=>PH h;refine⟨?_,λb h=>hb b (e b h),(hb _ (Pf a)).1,λb h=>?_⟩
 ·unfold pN at*<;>grind
 obtain⟨j,i,rfl⟩:=Pg h;have c:=P9 a;rw[Qf];split
 ·simp_all[je]
 rename_i g;exact .inr (je d Y Y)
theorem DK{t:Int}(a:5+2*j<=m)(b:4-(j:Int)<o):iD l o t m=false:=
 wI (by unfold sZ<;>grind)
theorem LK{b:Block}(a:2<=b.Order)(c:b.Order<=4)(d:b.At % pw b.Order=0):b.At / 8*8<=b.At∧b.At+pw b.Order<=ov b:=by
 unfold ov<;>grind[ov,eE]
def fJ(z:ap)(b:Block)(t:Int)(st:Bool):List Block:=if st=true then fY z.ai b t else z.ai
theorem qe(a:bV z){b:Block}{t:Int}(e:iu t)(st:Bool):(fJ z b t st).length=z.ai.length∧pN (fJ z b t st)∧∀x∈fJ z b t st,eG z.aE z.To x:=by
 have hb:∀x∈z.ai,eG z.aE z.To x:=λx c=>by
  obtain⟨i,d,rfl⟩:=Pg c;exact a.dm i d
 unfold fJ;split
 ·grind[Fy,Fz,mN,FA]
 exact⟨Z,mN a,hb⟩
theorem ri(a:bV z){t:Int}(c:iu t)(st:Bool)(b:k<z.ai.length):
 (fJ z z.ai[k] t st)[k]'(by grind[qe])=⟨z.ai[k].At,z.ai[k].Order,mS z t st z.ai[k]⟩:=by
 obtain⟨d,e,f,g,h⟩:=(a.dm k b).1;unfold fJ mS;cases st
 ·simp
 simp only[if_true,true_and];unfold fY;by_cases i:z.ai[k].Order<2;all_goals simp_all[if_neg,List.getElem_map,Jq,LK]
def fc(lo:Nat)(o:Int×Heap)(v:Value)(w:World):Prop:=∃s:fB,v= .tuple #[.agg (bg s).toArray,Iv o.1]∧ik w lo s o.2
theorem fc.zero(e:Int)(lo:Nat)(w:World):fc lo (e,⟨[],[],0,[],[]⟩) (.tuple #[.agg (bg .zero).toArray,Iv e]) w:=⟨.zero,Z,ik.zero w lo⟩
theorem dR.two{R:α->β->Prop}{a b:α}{c d:β}(e:R a c)(f:R b d):dR R [a,b] [c,d]:=dR.snoc (dR.snoc dR.nil e) f
theorem II{x y a b:Block}(h:kj x y)(c:a.At=x.At)(d:a.Order=x.Order)(e:b.At=y.At)(f:b.Order=y.Order):kj a b:=by
 unfold kj at*<;>grind
theorem IJ(a:bV z){b:Block}{t:Int}(st:Bool):DQ (fJ z b t st):=by
 have h:=DR a;unfold fJ;split<;>grind[fY,DQ,II,CF]
theorem ED{q:Int}(b:1<=q)(c:q<=4)(d:a % pw q=0):beside (a+pw (q-1)) (q-1)=a∧(a+pw (q-1)) % pw (q-1)=0:=by
 have e:pw q=2*pw (q-1):=by
  have:=kG (o:=q-1) Y Y
  grind
 unfold beside<;>grind[beside,eE]
theorem KE{t:Int}{q ty:Int}(h:AO f t l a q)(r:DQ l)(s:1<=q):DQ (pH ty a q l):=by
 obtain⟨G,u,H,I,v⟩:=h.fit;obtain⟨hb,J⟩:=ED s u v
 have K:pw q=2*pw (q-1):=by
  have:=kG (o:=q-1) Y Y
  grind
 have w:=bP (o:=q-1) Y Y
 have y:∀x∈l,x.At≠a:=λx c e=>by
  have:=bP (h.dm x c).1.1 (h.dm x c).1.2.1;rcases h.Lt x c with g|g<;>omega
 have e:l=l.take (bB l (a+pw (q-1)))++l.drop (bB l (a+pw (q-1))):=(Pz _ l).symm;have m:=r;unfold DQ at m;rw[e,PN]at m;obtain⟨L,M,N⟩:=m
 have O:∀x∈l.take (bB l (a+pw (q-1))),kj x (mR ty a q):=λx c=>by
  have b:=P5 c;obtain⟨j,n,rfl⟩:=Pg c;simp only[List.length_take]at n;rw[PY]at b⊢;have z:=om (l:=l) (a:=a+pw (q-1)) (k:=j) Y;refine⟨?_,λi=>?_⟩
  ·simp only[mR];rcases h.Lt _ b with g|g<;>omega
  obtain⟨_,_,i⟩:=i;simp only[mR,hb]at i;grind
 have P:∀x∈l.drop (bB l (a+pw (q-1))),kj (mR ty a q) x:=λx c=>by
  have b:=QP c;obtain⟨j,n,rfl⟩:=Pg c;simp only[List.length_drop]at n;rw[P8]at b⊢;have A:=DD (l:=l) (a:=a+pw (q-1)) Y
  have B:(l[bB l (a+pw (q-1))]'Y).At<=(l[bB l (a+pw (q-1))+j]'Y).At:=by
   rcases Ps j with rfl|C
   ·grind
   have:=je h.pN (show bB l (a+pw (q-1))+j<l.length by omega) (show bB l (a+pw (q-1))<bB l (a+pw (q-1))+j by omega);have:=bP (h.dm _ (Pf (show bB l (a+pw (q-1))<l.length by omega))).1.1 (h.dm _ (Pf (show bB l (a+pw (q-1))<l.length by omega))).1.2.1;omega
  have d:=(h.dm _ b).1;have D:=bP d.1 d.2.1;refine⟨?_,λi=>?_⟩
  ·simp only[mR];rcases h.Lt _ b with g|g<;>omega
  obtain⟨E,p,i⟩:=i;have F:=(pd d.1 E d.2.2.2.2).1;simp only[mR]at p i;rw[<-i,<-p,hb]at F;grind
 unfold pH aP DQ<;>grind
theorem BR{t ty:Int}(d:0<=f)(e:t<=256)(b:t % 16=0)(c:iu ty):∀(k:Nat)(q:Int)(l:List Block),(k:Int)<=q->AO f t l a q->DQ l->AO f t (jO ty a k q l) a (q-k)∧DQ (jO ty a k q l)
 | 0,q,l,_,h,hn=>by
   refine⟨?_,hn⟩;have:q-((0:Nat):Int)=q:=Y;rw[this];exact h
 | k+1,q,l,hk,h,hn=>by
   have g:1<=q:=Y;have:=BR d e b c k (q-1) (pH ty a q l) Y (wJ h d e b g c).1 (KE h hn g);rw[jO];grind
structure Mu(z z':ap):Prop where
 may:bV z'
 from_:z'.aE=z.aE
 kW:z'.To=z.To
theorem gq.j7{t:Int}{u:ap×Int×Int}(h:gq z o t u)(s:u.2.2=0):Mu z u.1∧(∃x∈z.ai,x.At=u.2.1)∧dZ z=true:=by
 cases h with
 | bad|range|kind|room=>simp at s
 | @ok k st p I d f w=>
   have c:=dj.1 p;obtain⟨y,J,A,K,B⟩:=c.ok;obtain⟨_,C,D⟩:=w.ord;obtain⟨L,E,F⟩:=qe c (b:=z.ai[k]) d st;have g:k<(fJ z z.ai[k] t st).length:=Y;have j:=ri c d st f;have l:=uf E F g;rw[j]at l;simp only at l;have G:DQ ((fJ z z.ai[k] t st).eraseIdx k):=(IJ c st).sublist (Qh _ _);have m:=c.dm k f;have n:iu (mS z t st z.ai[k]):=by unfold mS;split;exact d;exact m.2
   have H:=BR (ty:=mS z t st z.ai[k]) y A B n (z.ai[k].Order-o).toNat z.ai[k].Order _ Y l G;have e:(if st=true then fY z.ai z.ai[k] t else z.ai)=fJ z z.ai[k] t st:=Z;refine⟨⟨⟨c.ok,?_,?_,λi q=>?_,λi q=>?_⟩,Z,Z⟩,⟨z.ai[k],Pf f,Z⟩,p⟩
   ·simp only[o9];have r:=c.len;grind[fb]
   ·simp only[o9];intro v a;split at a
    ·unfold fb at a;split at a
     ·exact c.types v a
     split at a
     ·rcases Pu a with a|rfl
      ·rcases Pu a with a|rfl
       ·exact c.types v a
       omega
      omega
     rcases Pu a with a|rfl
     ·exact c.types v a
     omega
    exact c.types v a
   ·exact H.1.dm _ (Pf q)
   simp_all[DQ,List.pairwise_iff_getElem,o9]
variable {d:Nat} {op:Op} {o':Oper}
section
variable {P:Program}{n:Nat}{ops:Array Oper}{Q:Exit->Act->World->Prop}{fin dV f:Nat}{S2:World->Prop}{listed:Array Bool}{L:Env}{w:World}
theorem SF.two(i k:Nat){o:Oper}(s:ops[i]?=some o)(t:ops[k]?=some o')(v:Region.ready .any ops listed=[i,k])(x:(!Nat.beq i dV && !Nat.beq i fin)=true)(m:(!Nat.beq k dV && !Nat.beq k fin)=true)
 (h:SW P n ops (.fg (Fk P n ops Q fin dV S2 f (listed.setIfInBounds i true) w)) [o] L w) (h':SW P n ops (.fg (Fk P n ops Q fin dV S2 f (listed.setIfInBounds k true) w)) [o'] L w):SF P n ops Q fin dV S2 (f+1) listed L w:=
 ⟨λa u l=>⟨by grind,λj p=>by
  have c:=p;rw[v]at c;simp only[List.mem_cons,List.not_mem_nil,or_false]at c;rcases c with rfl|rfl
  ·obtain⟨q,n2⟩:=GP x;have b:j<ops.size:=(Pr.1 s).1;refine⟨b,nA (Q1:=Fk P n ops Q fin dV S2 f (listed.setIfInBounds j true) w) s (λe a w y h=>by cases e<;>first|exact h|grind) (λh=>h) (λz A d=>⟨λe=>absurd e q,λ_ e=>absurd e n2,λ_ _=>⟨d.1,kv f (λr g=>Ext.trans d.1 g) _ _ _ (d.2 (l.set p b))⟩⟩) (h.out a u)⟩
  obtain⟨q,n2⟩:=GP m;have b:j<ops.size:=(Pr.1 t).1;refine⟨b,nA (Q1:=Fk P n ops Q fin dV S2 f (listed.setIfInBounds j true) w) t (λe a w y h=>by cases e<;>first|exact h|grind) (λh=>h) (λz A d=>⟨λe=>absurd e q,λ_ e=>absurd e n2,λ_ _=>⟨d.1,kv f (λr g=>Ext.trans d.1 g) _ _ _ (d.2 (l.set p b))⟩⟩) (h'.out a u)⟩⟩⟩
theorem SF.Mx(k:Nat){o:Oper}(r:ops[fin]?=some o)(s:ops[k]?=some o')(u:Region.ready .any ops listed=[fin,k])(A:Nat.beq fin dV=false)(i:(!Nat.beq k dV && !Nat.beq k fin)=true)
 (h:SW P n ops (.fg (HE P n ops Q fin dV S2 f (listed.setIfInBounds fin true))) [o] L w) (h':SW P n ops (.fg (Fk P n ops Q fin dV S2 f (listed.setIfInBounds k true) w)) [o'] L w):SF P n ops Q fin dV S2 (f+1) listed L w:=
 ⟨λa t g=>⟨by grind,λj l=>by
  have c:=l;rw[u]at c;simp only[List.mem_cons,List.not_mem_nil,or_false]at c;rcases c with m|rfl
  ·have p:j≠dV:=λe=>by simp_all
   subst m;have b:j<ops.size:=(Pr.1 r).1;exact⟨b,nA (Q1:=HE P n ops Q j dV S2 f (listed.setIfInBounds j true)) r (λe a w v h=>by cases e<;>first|exact h|grind) (λh=>h) (λx y d=>⟨λe=>absurd e p,λ_ _=>⟨d.1,d.2 (g.set l b)⟩,λ_ n2=>absurd Z n2⟩) (h.out a t)⟩
  obtain⟨p,n2⟩:=GP i;have b:j<ops.size:=(Pr.1 s).1;refine⟨b,nA (Q1:=Fk P n ops Q fin dV S2 f (listed.setIfInBounds j true) w) s (λe a w v h=>by cases e<;>first|exact h|grind) (λh=>h) (λx y d=>⟨λe=>absurd e p,λ_ e=>absurd e n2,λ_ _=>⟨d.1,kv f (λz q=>Ext.trans d.1 q) _ _ _ (d.2 (g.set l b))⟩⟩) (h'.out a t)⟩⟩⟩
theorem SG.gm(i:Nat){pos:String}{v:Value}(l:Region.noSelect ops=true)(e:ops[i]?=some ⟨some d,op,T,pos,af,none⟩)(m:Region.free .any ops listed i=true)(u:(Region.ready .any ops listed).contains i=true)(o:(!Nat.beq i dV && !Nat.beq i fin)=true)(p:S2 w)
 (q:∀r,St P ⟨some d,op,T,pos,af,none⟩ L r v) (s:Nat.blt d n=true) (h:SG P n ops Q fin dV S2 f (listed.setIfInBounds i true) ((d,v)::L) w):SG P n ops Q fin dV S2 (f+1) listed L w:=
 ⟨λa k b=>by
  obtain⟨t,n2⟩:=GP o;have c:i∈Region.ready .any ops listed:=by grind
  have g:i<ops.size:=(Pr.1 e).1
  exact mK (T:=λ_=>True) e (Region.noSelect_spec l) t n2 (λ_ _ _ h=>(h:False).elim) (.inl λ_=>trivial) (.inl λ_ _=>trivial) f (λ_ _=>trivial) listed a w b (Region.free_spec e m) c (v:=v)
   (.inl ⟨by simp[Region.wanted],λj _=>(q j).out n a k j (Ext.refl j)⟩) p (h.out _ (k.put s v) (b.set c g))⟩
end
structure ff where
 Kind:Int
 ep:Int
 N:Int
 M:Int
 At:Int
 Flags:Int
 Name:ByteArray
theorem Jk(A:Option Addr)(n c:Nat)(l:List Int)(x y:Int)(w:World)(j:Sl w 1 aT A n l)(m:n*8<=140737488355328):
 aS prog 89 [.slice A n c,Iv x,Iv y] w λv o=>
  if 0<=x∧x<n then∃A c,v= .tuple #[.slice A n c,Iv 0]∧Own o w.heap.size 3 1 aT A n c (l.set x.toNat y)else v= .tuple #[.slice none 0 0,Iv 1]:=by
 refine Wj func89 ntmps89 ?_;have b:=Ext.refl w;have d:n<=2305843009213693952:=Y;by_cases f:0<=x∧x<n
 ·obtain⟨k,rfl⟩:=Pm f.1;have p:k<n:=Y;repeat'(first|refine Wz ?_|(refine Wc (oT _ _ _ _ _ _ d) λi a=>?_;have b:=b.trans a))
  refine Wk (eD _ _ _ _ _ (j.ext b) m) λv i a q=>?_;obtain⟨r,s,rfl,g⟩:=q;have e:=b.size;have b:=b.trans a;have t:=g.sl.base;refine Wz ?_;refine SW.j3 k g Z Z p λz h u=>?_;have b:=au b u e g.az;refine Wz ?_;refine ah.cf Z Z Z ⟨_,Z,b,?_⟩;rw[if_pos f];exact⟨r,s,Z,Own.low h e⟩
 repeat'(first|refine Wz ?_|(refine Wc (oT _ _ _ _ _ _ d) λi a=>?_;have b:=b.trans a))
 refine ah.cf Z Z Z ⟨_,Z,b,?_⟩;rw[if_neg f]
theorem El(A:Option Addr)(n c:Nat)(l:List Region)(w:World)(q:Sl w 2 eV A n l)(L:n<=9223372036854775807):
 aS prog 125 [.slice A n c] w λv _=>v= .bool (dv l):=by
 refine Wj func125 ntmps125 ?_;have d:=Ext.refl w;have M:=q.base;have G:=q.len;repeat'(first|refine Wz ?_|(refine CW.og rfl (λh=>?_) (λh=>?_)))
 ·refine ah.aF rfl rfl ⟨_,rfl,d,?_⟩;rw[ki (λh=>by have:=h.1;omega)]
 refine CW.loop (λk:Nat=>[(0,.slice A n c),(8,.slice A n c),(9,Iv (n:Int)),(10,Iv (k:Int))]) (λk E=>k<=n∧Ext w E∧∀(i:Nat)(h:i<l.length),i<k->(l[i]).ok∧∀(H:0<i),(l[i-1]'Y).aE+(l[i-1]'Y).ax<(l[i]).aE)
  (λk=>n-k) 0 ⟨rfl,rfl,rfl,rfl,trivial⟩ ⟨by omega,d,λi h F=>by omega⟩ ?_
 rintro k E ⟨N,d,B⟩;by_cases r:k<n
 ·have t:=q.lt r;have o:∀{m u:World}{b:Nat},Ext w m->w.heap.size<=b->m.grownBy u (some b)->Ext w u:=λI J s=>au I s (Ph _) (λk e=>by cases e;exact J);by_cases g:(l[k]).ok
  ·by_cases C:k=0
   ·subst C;repeat'(first|refine Wz ?_|refine Wo d ((q.all r)) ?_)
    refine SW.alloc Z λb m a hb x=>?_;have p:=d.up hb;have d:=d.trans a;refine Wz ?_;refine Wg x (gG.one (enc:=eV) _) λu f s=>?_;have d:=o d p s;repeat'(first|refine Wz ?_|refine fq ?_|refine SW.ba Z Z (λm a=>(pT g _)) ?_|(refine SW.br λm a=>?_;obtain⟨d,f⟩:=bk a d f))
    refine ah.again (0+1) ⟨Z,Z,Z,Z,trivial⟩ Y ⟨by omega,d,λi h F=>?_⟩;obtain rfl:i=0:=Y;exact⟨g,λH=>by omega⟩
   obtain⟨j,rfl⟩:∃j,k=j+1:=⟨k-1,by omega⟩;have z:j<n:=Y;have K:=(B j (q.lt z) Y).1;by_cases y:(l[j]'(q.lt z)).aE+(l[j]'(q.lt z)).ax<(l[j+1]).aE
   all_goals
    repeat'(first|refine Wz ?_|refine Wo d ((q.all r)) ?_)
    refine SW.alloc Z λb m a hb x=>?_;have p:=d.up hb;have d:=d.trans a;refine Wz ?_;refine Wg x (gG.one (enc:=eV) _) λu f s=>?_;have d:=o d p s;repeat'(first|refine Wz ?_|refine fq ?_|refine SW.st (aU (j) Z Z ig Y Y) Z ?_|refine Wo d ((q.all z)) ?_|refine SW.ba Z Z (λm a=>(pT g _)) ?_|refine SW.ba Z Z (λm a=>(wB K _)) ?_|(refine SW.br λm a=>?_;obtain⟨d,f⟩:=bk a d f))
   ·refine ah.again (j+1+1) ⟨Z,Z,Z,Z,trivial⟩ Y ⟨by omega,d,λi h F=>?_⟩;by_cases D:i=j+1
    ·subst D;exact⟨g,λ_=>y⟩
    exact B i h Y
   refine ah.aF Z Z ⟨_,Z,d,?_⟩;rw[ki (λh=>y ((h.2 (j+1) t).2 Y))]
  repeat'(first|refine Wz ?_|refine Wo d ((q.all r)) ?_)
  refine SW.alloc Z λb m a hb x=>?_;have p:=d.up hb;have d:=d.trans a;refine Wz ?_;refine Wg x (gG.one (enc:=eV) _) λu f s=>?_;have d:=o d p s;repeat'(first|refine Wz ?_|refine fq ?_|refine SW.ba Z Z (λm a=>(wz g _)) ?_|(refine SW.br λm a=>?_;obtain⟨d,f⟩:=bk a d f))
  refine ah.aF Z Z ⟨_,Z,d,?_⟩;rw[ki (λh=>g (h.2 k t).1)]
 refine Wz ?_;refine ah.aF Z Z ⟨_,Z,d,?_⟩;rw[oU ⟨by omega,λi h=>B i h Y⟩]
def ia(A:Option Addr)(n c:Nat)(B:Option Addr)(m d:Nat):List Value:=[.slice A n c,.slice B m d]
noncomputable def nJ(x y:List Region):Bool:=dv x && dv y
theorem BG(A:Option Addr)(n c:Nat)(B:Option Addr)(m d:Nat)(x y:List Region)(w:World)(o:Sl w 2 eV A n x)(p:Sl w 2 eV B m y)(q:n<=9223372036854775807)(r:m<=9223372036854775807):
 aS prog 56 [.agg (ia A n c B m d).toArray] w λv _=>v=Iv (if nJ x y then 0 else 8):=by
 refine Wj func56 ntmps56 ?_;refine Ww λb s e hb j=>?_;obtain⟨k,f⟩:=bq (dv x);obtain⟨l,g⟩:=bq (dv y);have t:∀a,Ext w a->aS prog 125 [.slice A n c] a λv _=>v= .bool k:=λa h=>by have:=El A n c x a (o.ext h) q;rwa[f]at this
 have u:∀a,Ext w a->aS prog 125 [.slice B m d] a λv _=>v= .bool l:=λa h=>by have:=El B m d y a (p.ext h) r;rwa[g]at this
 cases k<;>cases l
 all_goals
  repeat'(first|refine Wz ?_|(first|refine CW.bQ Z ?_|refine CW.bo Z ?_)|refine SW.want Z Z ?_|refine SW.skip Z Z Z Z ?_|((first|refine Wk (t _ e) ?_|refine Wk (u _ e) ?_);intro v s i z;subst z;obtain⟨e,j⟩:=bk i e j))
  refine ah.aF Z Z ⟨_,Z,e,?_⟩;simp[nJ,f,g]
theorem Em(A:Option Addr)(n c:Nat)(B:Option Addr)(m d:Nat)(x y:List Region)(w:World)(o:Sl w 2 eV A n x)(p:Sl w 2 eV B m y)(q:n<=9223372036854775807)(r:m<=9223372036854775807):
 aS prog 92 [.agg (ia A n c B m d).toArray] w λv _=>v= .bool (nJ x y):=by
 refine Wj func92 ntmps92 ?_;refine Ww λb s e hb j=>?_;obtain⟨k,f⟩:=bq (dv x);obtain⟨l,g⟩:=bq (dv y);have t:∀a,Ext w a->aS prog 96 [.slice A n c] a λv _=>v= .bool k:=λa h=>by have:=mL A n c x a (o.ext h) q;rwa[f]at this
 have u:∀a,Ext w a->aS prog 96 [.slice B m d] a λv _=>v= .bool l:=λa h=>by have:=mL B m d y a (p.ext h) r;rwa[g]at this
 cases k<;>cases l
 all_goals
  repeat'(first|refine Wz ?_|((first|refine Wk (t _ e) ?_|refine Wk (u _ e) ?_);intro v s i z;subst z;obtain⟨e,j⟩:=bk i e j))
  refine ah.aF Z Z ⟨_,Z,e,?_⟩;simp[nJ,f,g]
noncomputable def k9(z:ap)(p:Int):ap:=(eX z p 0).2
noncomputable def kO:Nat->ap->Int->ap
 | 0,z,_=>z
 | k+1,z,p=>kO k (k9 z p) (p+1)
theorem ss:∀(k:Nat)(z:ap)(p:Int),kO (k+1) z p=k9 (kO k z p) (p+k)
 | 0,z,p=>by simp[kO]
 | k+1,z,p=>by
   rw[kO,ss k,kO];grind
theorem xK{p:Int}(h:(eX z p o).1≠0):(eX z p o).2= .zero:=by
 cases a:dZ z
 ·rw[rc a]
 by_cases b:gL z.aE z.To p o
 ·cases c:gQ z.ai p o
  ·exfalso;obtain⟨⟨l,e,f⟩,d⟩:∃u,iO 5 z.ai p o=u:=⟨_,Z⟩;rw[sW a b c d Z]at h;grind
  grind[vX]
 grind[sV]
theorem xL{p:Int}(h:p<z.aE∨z.To<=p):k9 z p= .zero:=by
 unfold k9<;>grind[k9,dZ,rc,sV,gL]
theorem It(p:Int):k9 .zero p= .zero:=xL (by grind[ap.zero])
theorem fold_zero:∀(k:Nat)(p:Int),kO k .zero p= .zero
 | 0,_=>rfl
 | k+1,p=>by rw[kO,It,fold_zero k]
theorem xM:∀(k:Nat)(z:ap)(p:Int),(sX k z p).2=kO k z p
 | 0,_,_=>rfl
 | k+1,z,p=>by
   rw[sX,kO];split
   ·exact xM k _ _
   rename_i h;rw[k9,xK h,fold_zero]
theorem Eo:∀(k:Nat)(z:ap)(p:Int),p<=z.To->z.To<p+k->kO k z p= .zero
 | 0,z,p,h1,h2=>by omega
 | k+1,z,p,h1,h2=>by
   rw[kO];by_cases e:p=z.To
   ·rw[xL Y,fold_zero]
   by_cases h:(eX z p 0).1=0
   ·have:=((ld z p 0).2.2 h).2.1;exact Eo k _ _ (by rw[k9];omega) (by rw[k9];omega)
   rw[k9,xK h,fold_zero]
theorem BI(z:ap)(p:Int)(h:0<k):(oo z p (k:Int)).2=kO k z p:=by
 obtain⟨k,rfl⟩:∃m,k=m+1:=⟨k-1,by omega⟩;cases b:dZ z
 ·grind[GW,kO,k9,rc,fold_zero]
 by_cases a:kH z p ((k+1:Nat):Int)
 ·rw[GY b a,xM]
 rw[GX b a];unfold kH at a<;>grind[kH,kO,xL,fold_zero,Eo]
noncomputable def fa(l:List Region)(split:Int):Nat->ap×ap
 | 0=>((gn 0 split).2,(gn split 256).2)
 | p+1=>if dq l p then(if(p:Int)<split then(k9 (fa l split p).1 p,(fa l split p).2)else((fa l split p).1,k9 (fa l split p).2 p))else fa l split p
theorem uI{l:List Region}{split:Int}{p:Nat}:∀n:Nat,(∀i:Nat,i<n->dq l ((p+i:Nat):Int)=false)->fa l split (p+n)=fa l split p
 | 0,_=>rfl
 | n+1,h=>by
   rw[<-Nat.add_assoc,fa,h n Y,if_neg fy];exact uI n λi a=>h i Y
theorem Ep{l:List Region}{split:Int}{p:Nat}:∀n:Nat,(∀i:Nat,i<n->dq l ((p+i:Nat):Int)=true∧((p+i:Nat):Int)<split)->fa l split (p+n)=(kO n (fa l split p).1 p,(fa l split p).2)
 | 0,_=>rfl
 | n+1,h=>by
   rw[<-Nat.add_assoc,fa,(h n Y).1,if_pos Z,if_pos (h n Y).2,Ep n λi a=>h i Y,ss];simp
theorem BJ{l:List Region}{split:Int}{p:Nat}:∀n:Nat,(∀i:Nat,i<n->dq l ((p+i:Nat):Int)=true∧split<=((p+i:Nat):Int))->fa l split (p+n)=((fa l split p).1,kO n (fa l split p).2 p)
 | 0,_=>rfl
 | n+1,h=>by
   rw[<-Nat.add_assoc,fa,(h n Y).1,if_pos Z,if_neg (by grind),BJ n λi a=>h i Y,ss];simp
def dy(l:List Region)(k:Nat):Int:=match k with
 | 0=>0
 | k+1=>if h:k<l.length then l[k].aE+l[k].ax else 256
theorem rr{l:List Region}(h:g9 l):∀(j:Nat)(a:j<l.length)(i:Nat)(b:i<j),(l[i]'(Qx b a)).aE+(l[i]'(Qx b a)).ax<l[j].aE
 | 0,_,i,b=>by omega
 | j+1,a,i,b=>by
   have c:=(h.2 (j+1) a).2 Y;simp only[Nat.add_sub_cancel]at c;by_cases e:i=j
   ·subst e;exact c
   have f:=rr h j Y i Y;have d:=(h.2 j Y).1;unfold Region.ok at d;omega
theorem Iu{l:List Region}(a:k<l.length):dy l (k+1)=l[k].aE+l[k].ax:=by simp_all[dy]
theorem Kh{l:List Region}(h:g9 l)(a:k<l.length):0<=dy l k∧dy l k<=l[k].aE:=by
 have b:=(h.2 k a).1;unfold Region.ok at b;cases k with
 | zero=>grind[dy]
 | succ k=>
   have c:=(h.2 k Y).1;unfold Region.ok at c;have d:=rr h (k+1) a k Y;simp only[dy,dif_pos (show k<l.length by omega)];omega
theorem rR{l:List Region}(h:g9 l)(b:k<=l.length){p:Int}(c:dy l k<=p)(d:∀b:k<l.length,p<l[k].aE):dq l p=false:=by
 unfold dq;rw[PA];intro r f;obtain⟨j,a,rfl⟩:=Pg f;have g:=(h.2 j a).1;unfold Region.ok at g;simp only[Bool.and_eq_true,decide_eq_true_eq,not_and];intro q s;by_cases i:j<k
 ·obtain⟨m,rfl⟩:∃m,k=m+1:=⟨k-1,by omega⟩;simp only[dy,dif_pos (show m<l.length by omega)]at c;by_cases e:j=m
  ·grind
  have n:=rr h m Y j Y;have o:=(h.2 m Y).1
  grind[Region.ok]
 have n:=d Y;by_cases e:k=j
 ·grind
 have o:=rr h j a k Y;have t:=(h.2 k Y).1
 grind[Region.ok]
theorem Ki{l:List Region}(a:k<l.length){p:Int}(b:l[k].aE<=p)(c:p<l[k].aE+l[k].ax):dq l p=true:=by
 unfold dq<;>grind
def kg(r:Region)(split:Int):Int:=max 0 (min (r.aE+r.ax) split-r.aE)
noncomputable def lZ(l:List Region)(split:Int)(k:Nat):ap×ap:=fa l split (dy l k).toNat
noncomputable def su(z:ap)(f s:Int):ap:=if 0<s then(oo z f s).2 else z
theorem xN{s:Int}(h:0<s):(oo z f s).2=su z f s:=by rw[su,if_pos h]
theorem Er{s:Int}(h:¬0<s):z=su z f s:=by rw[su,if_neg h]
theorem FT{l:List Region}(h:g9 l){split:Int}(c:k<l.length):
 lZ l split (k+1)=(su (lZ l split k).1 l[k].aE (kg l[k] split),su (lZ l split k).2 (l[k].aE+kg l[k] split) (l[k].ax-kg l[k] split)):=by
 have d:=(h.2 k c).1;unfold Region.ok at d;have g:=Kh h c;have hb:0<=kg l[k] split∧kg l[k] split<=l[k].ax∧(0<kg l[k] split->l[k].aE+kg l[k] split<=split)∧(kg l[k] split<l[k].ax->split<=l[k].aE+kg l[k] split):=by grind[kg]
 obtain⟨b,a⟩:=bq (kg l[k] split);rw[a]at hb⊢;obtain⟨j,m,n,o⟩:=hb;unfold lZ
 have e:(dy l (k+1)).toNat=((dy l k).toNat+(l[k].aE-dy l k).toNat+b.toNat)+(l[k].ax-b).toNat:=by
  grind[Iu]
 have f:((dy l k).toNat+(l[k].aE-dy l k).toNat:Nat)=l[k].aE.toNat:=Y;rw[e,BJ (p:=(dy l k).toNat+(l[k].aE-dy l k).toNat+b.toNat) (l[k].ax-b).toNat,Ep (p:=(dy l k).toNat+(l[k].aE-dy l k).toNat) b.toNat,uI (p:=(dy l k).toNat) (l[k].aE-dy l k).toNat]
 ·rw[f];unfold su
  have q:kO b.toNat (fa l split (dy l k).toNat).1 (l[k].aE.toNat:Int)=if 0<b then(oo (fa l split (dy l k).toNat).1 l[k].aE b).2 else(fa l split (dy l k).toNat).1:=by
   split
   ·grind[BI,fa,dy,Int.toNat_of_nonneg]
   rw[show b.toNat=0 by omega];rfl
  have r:kO (l[k].ax-b).toNat (fa l split (dy l k).toNat).2 ((l[k].aE.toNat+b.toNat:Nat):Int)=if 0<l[k].ax-b then(oo (fa l split (dy l k).toNat).2 (l[k].aE+b) (l[k].ax-b)).2 else(fa l split (dy l k).toNat).2:=by
   split
   ·grind[BI,fa,dy,Int.toNat_of_nonneg]
   rw[show(l[k].ax-b).toNat=0 by omega];rfl
  grind
 ·intro i s;exact rR (k:=k) h Y Y (λ_=>by omega)
 all_goals grind[Ki]
theorem Iw{l:List Region}(h:g9 l)(split:Int):lZ l split l.length=fa l split 256:=by
 have c:0<=dy l l.length∧dy l l.length<=256:=by
  cases d:l.length with
  | zero=>simp[dy]
  | succ k=>
    have a:=(h.2 k Y).1;unfold Region.ok at a;simp only[dy,dif_pos (show k<l.length by omega)];grind
 unfold lZ;have:=uI (l:=l) (split:=split) (p:=(dy l l.length).toNat) (256-(dy l l.length).toNat) λi e=>rR (k:=l.length) h (Ph _) Y (λb=>absurd b (Nat.lt_irrefl _))
 grind
structure pp(z:ap):Prop where
 free:z.ai.length<=257
 types:z.Types.length<=32
 from_:0<=z.aE∧z.aE<=256
 kW:0<=z.To∧z.To<=256
theorem FU:pp .zero:=by constructor<;>simp[ap.zero]
theorem xO(h:pp z)(p:Int):pp (k9 z p):=by
 unfold k9;by_cases e:(eX z p 0).1=0
 ·obtain⟨a,b,c⟩:=ld z p 0;obtain⟨d,f,_⟩:=c e;exact⟨a,b,by rw[d];exact h.from_,by rw[f];exact h.kW⟩
 grind[xK,FU]
theorem BK{t:Int}(h:eu f t):pp (gn f t).2:=by
 rw[jd h];unfold eu at h;exact⟨by simp,by grind,by grind,by grind⟩
theorem Es{split:Int}:eu split 256↔eu 0 split:=by grind[eu]
theorem m6{l:List Region}{split:Int}(h:eu 0 split):∀p,pp (fa l split p).1∧pp (fa l split p).2
 | 0=>⟨BK h,BK (Es.2 h)⟩
 | p+1=>by
   have a:=m6 (l:=l) h p;unfold fa;split
   ·split
    ·exact⟨xO a.1 _,a.2⟩
    exact⟨a.1,xO a.2 _⟩
   exact a
def lC(split least cpus:Int):Prop:=eu 0 split∧(0<=least∧least<=256)∧(1<=cpus∧cpus<=4)
instance (a b c:Int):Decidable (lC a b c):=inferInstanceAs (Decidable (_∧_))
def sv(z:ap×ap)(least cpus:Int):Heap:=⟨[z.1,z.2],[least,least],cpus,[],[]⟩
noncomputable def fe(l:List Region)(split least cpus:Int):Int×Heap:=
 if dv l then(if lC split least cpus then(0,sv (fa l split 256) least cpus)else(1,⟨[],[],0,[],[]⟩))else(8,⟨[],[],0,[],[]⟩)
theorem m7{l:List Region}{b c:Int}(h:dv l=false):fe l a b c=(8,⟨[],[],0,[],[]⟩):=by simp[fe,h]
theorem ko{l:List Region}{b c:Int}(h:dv l=true)(d:¬lC a b c):fe l a b c=(1,⟨[],[],0,[],[]⟩):=by grind[fe]
theorem m8{l:List Region}{b c:Int}(h:dv l=true)(d:lC a b c):fe l a b c=(0,sv (fa l a 256) b c):=by grind[fe]
variable {OU:Oper}
section
variable {P:Program}{n:Nat}{ops:Array Oper}{Q:Exit->Act->World->Prop}{fin dV f:Nat}{S2:World->Prop}{listed:Array Bool}{L:Env}{w:World}
theorem SG.two(i k:Nat){o:Oper}(q:ops[i]?=some o)(r:ops[k]?=some o')(t:Region.ready .any ops listed=[i,k])(u:(!Nat.beq i dV && !Nat.beq i fin)=true)(l:(!Nat.beq k dV && !Nat.beq k fin)=true)
 (h:SW P n ops (.fg (HE P n ops Q fin dV S2 f (listed.setIfInBounds i true))) [o] L w) (h':SW P n ops (.fg (HE P n ops Q fin dV S2 f (listed.setIfInBounds k true))) [o'] L w):SG P n ops Q fin dV S2 (f+1) listed L w:=
 ⟨λa s d=>⟨by grind,λj m=>by
  have c:=m;rw[t]at c;simp only[List.mem_cons,List.not_mem_nil,or_false]at c;rcases c with rfl|rfl
  ·obtain⟨p,n2⟩:=GP u;have b:j<ops.size:=(Pr.1 q).1;exact⟨b,nA (Q1:=HE P n ops Q fin dV S2 f (listed.setIfInBounds j true)) q (λe a w v h=>by cases e<;>first|exact h|grind) (λh=>h) (λx y g=>⟨λe=>absurd e p,λ_ e=>absurd e n2,λ_ _=>⟨g.1,g.2 (d.set m b)⟩⟩) (h.out a s)⟩
  obtain⟨p,n2⟩:=GP l;have b:j<ops.size:=(Pr.1 r).1;exact⟨b,nA (Q1:=HE P n ops Q fin dV S2 f (listed.setIfInBounds j true)) r (λe a w v h=>by cases e<;>first|exact h|grind) (λh=>h) (λx y g=>⟨λe=>absurd e p,λ_ e=>absurd e n2,λ_ _=>⟨g.1,g.2 (d.set m b)⟩⟩) (h'.out a s)⟩⟩⟩
theorem SF.three(i k m:Nat){o:Oper}(v:ops[i]?=some o)(x:ops[k]?=some o')(y:ops[m]?=some OU)(C:Region.ready .any ops listed=[i,k,m])(D:(!Nat.beq i dV && !Nat.beq i fin)=true)(t:(!Nat.beq k dV && !Nat.beq k fin)=true)(p:(!Nat.beq m dV && !Nat.beq m fin)=true)
 (h:SW P n ops (.fg (Fk P n ops Q fin dV S2 f (listed.setIfInBounds i true) w)) [o] L w) (h':SW P n ops (.fg (Fk P n ops Q fin dV S2 f (listed.setIfInBounds k true) w)) [o'] L w) (c:SW P n ops (.fg (Fk P n ops Q fin dV S2 f (listed.setIfInBounds m true) w)) [OU] L w):SF P n ops Q fin dV S2 (f+1) listed L w:=
 ⟨λa u g=>⟨by grind,λj s=>by
  have l:=s;rw[C]at l;simp only[List.mem_cons,List.not_mem_nil,or_false]at l;rcases l with rfl|rfl|rfl
  ·obtain⟨q,n2⟩:=GP D;have b:j<ops.size:=(Pr.1 v).1;exact⟨b,nA (Q1:=Fk P n ops Q fin dV S2 f (listed.setIfInBounds j true) w) v (λe a w z h=>by cases e<;>first|exact h|grind) (λh=>h) (λA B d=>⟨λe=>absurd e q,λ_ e=>absurd e n2,λ_ _=>⟨d.1,kv f (λr c=>Ext.trans d.1 c) _ _ _ (d.2 (g.set s b))⟩⟩) (h.out a u)⟩
  ·obtain⟨q,n2⟩:=GP t;have b:j<ops.size:=(Pr.1 x).1;exact⟨b,nA (Q1:=Fk P n ops Q fin dV S2 f (listed.setIfInBounds j true) w) x (λe a w z h=>by cases e<;>first|exact h|grind) (λh=>h) (λA B d=>⟨λe=>absurd e q,λ_ e=>absurd e n2,λ_ _=>⟨d.1,kv f (λr c=>Ext.trans d.1 c) _ _ _ (d.2 (g.set s b))⟩⟩) (h'.out a u)⟩
  obtain⟨q,n2⟩:=GP p;have b:j<ops.size:=(Pr.1 y).1;exact⟨b,nA (Q1:=Fk P n ops Q fin dV S2 f (listed.setIfInBounds j true) w) y (λe a w z h=>by cases e<;>first|exact h|grind) (λh=>h) (λA B d=>⟨λe=>absurd e q,λ_ e=>absurd e n2,λ_ _=>⟨d.1,kv f (λr c=>Ext.trans d.1 c) _ _ _ (d.2 (g.set s b))⟩⟩) (c.out a u)⟩⟩⟩
end
end Go.Proofs.YtdlfabkacdgneaaGreatDoor
