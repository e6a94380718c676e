/- Part 8 of what kmemRuns_holds leans on. -/
import Derived.Test.YtdlfabkacdgneaaGreatDoorPackKmemRuns4
import Derived.Test.YtdlfabkacdgneaaGreatDoorPackKmemRuns5
import Derived.Test.YtdlfabkacdgneaaGreatDoorPackKmemRuns6
set_option maxHeartbeats 16000000
set_option linter.unusedVariables false
set_option linter.unusedSimpArgs false
set_option linter.defProp false
open Go.Proofs.Tryz
namespace Go.Proofs.YtdlfabkacdgneaaGreatDoor
open Go.RowKit
variable {a f:Int} {k' yk:IntKind} {l:List Block} {y:Operand} {ft t tt ty:TypeId}
theorem lI:prog.underlying 171=some (.int .u64):=by kernel_rfl
theorem wrap_u64{z:Int}(a:0<=z)(b:z<=9223372036854775807):IntKind.u64.wrap z=z:=by
 grind[IntKind.wrap,IntKind.bits,IntKind.signed]
section
variable {P:Program}{L:Env}{w:World}{d:Option Nat}{T:TypeId}{pos:String}{af:Array Edge}{g:Option (Nat×Bool)}
theorem lJ{x:Operand}{k:IntKind}{i:Int}(b:P.underlying ft=some (.int k))(c:P.underlying tt=some (.int k'))(e:cg L x=some (.int k i)):
 St P ⟨d,.convert ft tt x,T,pos,af,g⟩ L w (.int k' (k'.wrap i)):=
 ⟨λn a f j _=>by
  have h:=f.eval e;generalize a.eval=ρ at*;simp[go_sem,h,convert,run_underlying b,run_underlying c,Conv.intToInt]⟩
theorem vW{x:Operand}{i:Int}(c:cg L x=some (.int .u64 i))(e:cg L y=some (.int yk 1)):
 St P ⟨d,.binOp .shr t x y ty,T,pos,af,g⟩ L w (.int .u64 (i / 2)):=
 ⟨λn a b j _=>by
  have f:=b.eval c;have h:=b.eval e;generalize a.eval=ρ at*;simp[go_sem,f,h]⟩
end
def bx(l:List Block)(a:Int):Bool:=if h:bB l a<l.length then decide ((l[bB l a]).At=a)else false
theorem jr(A:Option Addr)(n c:Nat)(l:List Block)(a:Int)(w:World)(q:Sl w 3 aL A n l)(f:FuncId)(J:∀x∈l,∀r,Ext w r->aS prog f ([.agg (aL x).toArray,Iv a]++[]) r λv _=>v=Iv (x.At-a))
 (D:l.Pairwise λx y=>x.At<y.At) (O:n<=1000000000000000000) (P:Body prog f:=by exact j0):aS prog 148 [.slice A n c,Iv a,.func (.func f) #[] #[]] w λv _=>v= .tuple #[Iv (bB l a:Int),.bool (bx l a)]:=by
 refine Wj func148 ntmps148 ?_;have b:=Ext.refl w;have Q:=q.base;have M:=q.len;rw[Pq]at D;refine Wz ?_
 refine CW.loop (λs:Nat×Nat=>[(0,.slice A n c),(1,Iv a),(2,.func (.func f) #[] #[]),(8,Iv (n:Int)),(9,Iv (s.1:Int)),(10,Iv (s.2:Int))])
  (λs r=>s.1<=s.2∧s.2<=n∧Ext w r∧(∀(k:Nat)(h:k<l.length),k<s.1->l[k].At<a)∧(∀(k:Nat)(h:k<l.length),s.2<=k->a<=l[k].At)) (λs=>s.2-s.1) (0,n)
  ⟨rfl,rfl,rfl,rfl,rfl,rfl,trivial⟩ ⟨by omega,by omega,b,λk h h'=>by omega,λk h h'=>by omega⟩ ?_
 rintro⟨i,j⟩ r ⟨E,t,b,F,G⟩;simp only at E t F G⊢;by_cases N:i<j
 ·have K:(i+j) / 2<n:=Y;have d:=q.lt K;have g:=λu H=>J (l[(i+j) / 2]) (Pf d) u H;repeat'(first|refine Wz ?_|refine Wo b ((q.all K)) ?_|(refine SW.st ((lJ Tryz.underlying3 lI Z).eq (congrArg (Value.int .u64) (wrap_u64 Y Y))) Z ?_)|(refine SW.st ((lJ lI Tryz.underlying3 Z).eq (congrArg (Value.int .i64) (jF Y Y))) Z ?_)|(refine SW.st (vW Z Z) Z ?_))
  refine SW.nv (cap:=[]) Z Z Z (g _ b) λv u m I=>?_;subst I;have b:=b.trans m;by_cases B:l[(i+j) / 2].At<a
  ·refine Wz ?_;refine ah.again ((i+j) / 2+1,j) ⟨Z,Z,Z,Z,congrArg (λz=>some (Iv z)) Y,Z,trivial⟩ dD ⟨by simp only;omega,t,b,λk h h'=>?_,G⟩;simp only at h';by_cases e:k=(i+j) / 2
   ·subst e;exact B
   have:=D k ((i+j) / 2) h d Y;omega
  refine Wz ?_;refine ah.again (i,(i+j) / 2) ⟨Z,Z,Z,Z,Z,congrArg (λz=>some (Iv z)) Y,trivial⟩ dD ⟨by simp only;omega,by simp only;omega,b,F,λk h h'=>?_⟩;simp only at h';by_cases e:k=(i+j) / 2
  ·subst e;omega
  have:=D ((i+j) / 2) k d h Y;omega
 obtain rfl:i=j:=Y;have o:bB l a=i:=GR Y F (λh=>G i h Y);by_cases C:i<n
 ·have d:=q.lt C;have g:=λu H=>J (l[i]) (Pf d) u H;have p:bx l a=decide (l[i].At=a):=by unfold bx;simp only[o,d,dif_pos]
  rw[o,p];repeat'(first|refine Wz ?_|refine Wo b ((q.all C)) ?_)
  refine SW.nv (cap:=[]) Z Z Z (g _ b) λv u m I=>?_;subst I;have b:=b.trans m;by_cases L:l[i].At=a
  ·refine Wz ?_;refine ah.cf Z Z Z ⟨_,Z,b,?_⟩;rw[decide_eq_true L,decide_eq_true Y]
  refine Wz ?_;refine ah.cf Z Z Z ⟨_,Z,b,?_⟩;rw[decide_eq_false L,decide_eq_false Y]
 have p:bx l a=false:=by unfold bx;rw[dif_neg Y]
 rw[o,p];refine Wz ?_;exact ah.cf Z Z Z ⟨_,Z,b,Z⟩
theorem MN{t:Int}(h:pN l)(hb:∀b∈l,eG f t b):l.Pairwise λx y=>x.At<y.At:=by
 unfold pN at h;rw[Pq]at h⊢;intro i j c e a;have g:=h i j c e a;have d:=hb _ (Pf c);have:=bP d.1.1 d.1.2.1;omega
theorem CE(x:Block)(a:Int)(w:World)(e: -4000000000000000000<=x.At∧x.At<=4000000000000000000)(f: -4000000000000000000<=a∧a<=4000000000000000000):aS prog 226 ([.agg (aL x).toArray,Iv a]++[]) w λv _=>v=Iv (x.At-a):=by
 refine Wj func226 ntmps226 ?_;refine Ww λg h c b d=>?_;refine Wz ?_;exact ah.aF Z Z ⟨_,Z,c,Z⟩
theorem ue(r:cM)(l:List Block)(f t a:Int)(w:World)(k:Sl w 3 aL r.ai.A r.ai.n l)(m:pN l)(hb:∀b∈l,eG f t b)(q:0<=f)(s:t<=256)(n:r.ai.n<=1000000000000000000)(u: -1000<=a∧a<=1000):
 aS prog 197 [.agg (bu r).toArray,Iv a] w λv _=>v= .tuple #[Iv (bB l a:Int),.bool (bx l a)]:=by
 refine Wj func197 ntmps197 ?_;refine Ww λy g e j c=>?_
 have o:∀i,Ext w i->aS prog 148 [.slice r.ai.A r.ai.n r.ai.c,Iv a,.func (.func 226) #[] #[]] i λv _=>v= .tuple #[Iv (bB l a:Int),.bool (bx l a)]:=λi h=>
  jr _ _ _ _ _ _ (k.ext h) _ (λx p g _=>CE x a g (by have:=(hb x p).1;unfold gL at this;omega) Y) (MN m hb) n
 repeat'(first|refine Wz ?_|(refine Wc (o _ e) λg d=>?_;obtain⟨e,c⟩:=bk d e c))
 exact ah.cf Z Z Z ⟨_,Z,e,Z⟩
theorem pY(A:Option Addr)(n c:Nat)(l:List Block)(a o:Int)(w:World)(j:Sl w 3 aL A n l)(H:n*24<=140737488355328):
 aS prog 112 [.slice A n c,Iv a,Iv o] w λv m=>∃B c',v= .tuple #[.slice B (bJ l a o).length c',.bool (l.any (r9 a o))]∧Own m w.heap.size 129 3 aL B (bJ l a o).length c' (bJ l a o):=by
 refine Wj func112 ntmps112 ?_;have d:=Ext.refl w;have I:=j.base;have z:=j.len;refine Wz ?_
 refine CW.loop (λs:Nat×Option Addr×Nat=>[(0,.slice A n c),(1,Iv a),(2,Iv o),(8,.slice s.2.1 (bJ (l.take s.1) a o).length s.2.2),(9,.bool ((l.take s.1).any (r9 a o))),(10,Iv (s.1:Int))])
  (λs m=>s.1<=n∧Ext w m∧Own m w.heap.size 129 3 aL s.2.1 (bJ (l.take s.1) a o).length s.2.2 (bJ (l.take s.1) a o)) (λs=>n-s.1) (0,none,0) ⟨rfl,rfl,rfl,rfl,rfl,rfl,trivial⟩ ⟨by omega,d,Own.cq _ _ _ _ _ _⟩ ?_
 rintro⟨k,B,c'⟩ m ⟨C,d,f⟩;simp only at C f⊢;by_cases e:k<n
 ·have q:=j.lt e;have g:=Pk q;have x:(bJ (l.take k) a o).length<=k:=Pj (Ql _ _) (by simp;omega);cases i:r9 a o l[k]
  ·have p:bJ (l.take (k+1)) a o=bJ (l.take k) a o++[l[k]]:=by unfold bJ;rw[g,Qw];simp[i]
   have r:(l.take (k+1)).any (r9 a o)=(l.take k).any (r9 a o):=by rw[g,Re];simp[i]
   have D:¬(l[k].At=a∧l[k].Order=o):=λh=>by rw[jf.2 h]at i;cases i
   by_cases J:l[k].At=a
   all_goals
    repeat'(first|refine Wz ?_|refine Wo d ((j.all e)) ?_|refine Wn d (j.dp e Z) ?_)
    all_goals try omega
    refine SW.bz Z Z Z Z Z λb K t hb E=>?_;obtain⟨d,f⟩:=bk t d f;refine SW.append f (ay.la (enc:=aL) E) d.size Z Z Z Y Y λF c2 L u G=>?_;have d:=au d G (Ph _) f.az;refine Wz ?_;have y:(bJ (l.take (k+1)) a o).length=(bJ (l.take k) a o).length+1:=by rw[p];simp
    refine ah.again (k+1,F,c2) ⟨Z,Z,Z,by simp only;rw[y];rfl,by simp only;rw[r];rfl,Z,trivial⟩ dD ⟨by simp only;omega,d,?_⟩;simp only;rw[y,p];exact u
  have p:bJ (l.take (k+1)) a o=bJ (l.take k) a o:=by unfold bJ;rw[g,Qw];simp[i]
  have r:(l.take (k+1)).any (r9 a o)=true:=by rw[g,Re];simp[i]
  obtain⟨M,N⟩:=jf.1 i;repeat'(first|refine Wz ?_|refine Wn d (j.dp e Z) ?_)
  refine ah.again (k+1,B,c') ⟨Z,Z,Z,by simp only;rw[p];rfl,by simp only;rw[r];rfl,Z,trivial⟩ dD ⟨by simp only;omega,d,?_⟩;simp only;rw[p];exact f
 refine Wz ?_;have g:l.take k=l:=Pl Y;rw[g]at f;refine ah.cf Z Z Z ⟨_,Z,d,B,c',?_,f⟩;rw[g]
def JO(l:List Block)(a:Int):Nat:=l.findIdx λb=>decide (a<b.At)
theorem JP(h:∀x∈l,x.At≠a):JO l a=bB l a:=by
 unfold JO bB
 have:∀q:List Block,(∀x∈q,x.At≠a)->q.findIdx (λb=>decide (a<b.At))=q.findIdx (λb=>decide (a<=b.At)):=by
  intro q;induction q<;>grind
 grind
variable {w:World}
def us(y:cV)(x:aC):Prop:=y.ep=x.ep∧y.ap=x.ap∧y.Ty=x.Ty
theorem ML.key{r:cV}{l:aC}(h:ML w r l):us r l:=⟨h.cpu,h.fX,h.ty⟩
theorem uu(r:fB)(L:List aC)(g:List cV)(x:aC)(y:cV)(w:World)(l:vF w r.ak g L)(E:us y x)(N:r.ak.n<=1000000000000000000):
 aS prog 160 [.agg (bg r).toArray,.agg (fj y).toArray] w λv _=>v= .tuple #[Iv (aW L x:Int),.bool (bW L x)]:=by
 refine Wj func160 ntmps160 ?_;refine Ww λF j d G a=>?_;refine SW.box Z Z λH O A I c=>?_;obtain⟨d,a⟩:=bk A d a;obtain⟨P,Q⟩:=l.len;have R:=l.row.base;refine Wz ?_
 refine CW.loop (λi:Nat=>[(2,Pt F),(3,Pt H),(6,Iv (i:Int))])
  (λi f=>i<=r.ak.n∧Ext w f∧ay f F 34 (bg r)∧ay f H 100 (fj y)∧∀(k:Nat)(h:k<L.length),k<i->cd L[k] x) (λi=>r.ak.n-i) 0
  ⟨Z,Z,Z,trivial⟩ ⟨by omega,d,a,c,λk h h'=>by omega⟩ ?_
 rintro i f ⟨S,d,a,c,B⟩;by_cases m:i<r.ak.n
 ·have n:i<L.length:=Y;have o:i<g.length:=Y;have s:=l.each.get i o n;obtain⟨q,C⟩:=bq (decide (cd L[i] x));obtain⟨p,J⟩:=bq (decide (cd x L[i]))
  have K:∀f,aS prog 206 [.agg (fj g[i]).toArray,.agg (fj y).toArray] f λv _=>v= .bool q:=λf=>by
   have:=uq g[i] y L[i] x f s.key E;rwa[C]at this
  have M:∀f,aS prog 206 [.agg (fj y).toArray,.agg (fj g[i]).toArray] f λv _=>v= .bool p:=λf=>by
   have:=uq y g[i] x L[i] f E s.key;rwa[J]at this
  cases q
  ·have t:=of_decide_eq_false C;have z:aW L x=i:=rn Y B (λ_=>t)
   have D:bW L x= !p:=by
    unfold bW;simp only[z,dif_pos n,<-J];rcases Bv L[i] x with e|e|e
    ·exact absurd e t
    ·have:¬cd x L[i]:=by unfold cd dT at*;omega
     simp[e,this]
    have:=(mC e).2.1;simp[e,this]
   rw[z,D];cases p
   all_goals
    repeat'(first|refine Wz ?_|refine fq ?_|refine Wo d ((l.row.all m)) ?_|refine SW.ba Z Z (λj b=>(K _)) ?_|refine SW.ba Z Z (λj b=>(M _)) ?_|(refine SW.br λj b=>?_;obtain⟨d,a,c⟩:=aY b d a c))
    exact ah.cf Z Z Z ⟨_,Z,d,Z⟩
  have u:=of_decide_eq_true C;repeat'(first|refine Wz ?_|refine fq ?_|refine Wo d ((l.row.all m)) ?_|refine SW.ba Z Z (λj b=>(K _)) ?_|(refine SW.br λj b=>?_;obtain⟨d,a,c⟩:=aY b d a c))
  exact ah.again (i+1) ⟨Z,Z,Z,trivial⟩ Y ⟨by omega,d,a,c,λk h h'=>by
   by_cases e:k=i
   ·subst e;exact u
   exact B k h Y⟩
 have z:aW L x=i:=rn Y B (λh=>by omega);have D:bW L x=false:=by unfold bW;rw[dif_neg Y]
 rw[z,D];repeat'(first|refine Wz ?_|refine fq ?_|(refine SW.br λj b=>?_;obtain⟨d,a,c⟩:=aY b d a c))
 exact ah.cf Z Z Z ⟨_,Z,d,Z⟩
theorem qu(A:Option Addr)(n c:Nat)(l:List Block)(a:Int)(w:World)(h:Sl w 3 aL A n l)(f:FuncId)(q:Block->Int)(B:∀x∈l,∀k,Ext w k->aS prog f ([.agg (aL x).toArray,Iv a]++[]) k λv _=>v=Iv (q x))
 (r:∀x∈l,q x≠0) (H:n<=1000000000000000000) (I:Body prog f:=by exact j0):aS prog 148 [.slice A n c,Iv a,.func (.func f) #[] #[]] w λv _=>∃i:Nat,v= .tuple #[Iv (i:Int),.bool false]:=by
 refine Wj func148 ntmps148 ?_;have b:=Ext.refl w;have J:=h.base;have E:=h.len;refine Wz ?_
 refine CW.loop (λs:Nat×Nat=>[(0,.slice A n c),(1,Iv a),(2,.func (.func f) #[] #[]),(8,Iv (n:Int)),(9,Iv (s.1:Int)),(10,Iv (s.2:Int))])
  (λs k=>s.1<=s.2∧s.2<=n∧Ext w k) (λs=>s.2-s.1) (0,n)
  ⟨rfl,rfl,rfl,rfl,rfl,rfl,trivial⟩ ⟨by omega,by omega,b⟩ ?_
 rintro⟨i,j⟩ k ⟨t,m,b⟩;simp only at t m⊢;by_cases F:i<j
 ·have C:(i+j) / 2<n:=Y;have d:=h.lt C;have e:=λo u=>B (l[(i+j) / 2]) (Pf d) o u;repeat'(first|refine Wz ?_|refine Wo b ((h.all C)) ?_|(refine SW.st ((lJ Tryz.underlying3 lI Z).eq (congrArg (Value.int .u64) (wrap_u64 Y Y))) Z ?_)|(refine SW.st ((lJ lI Tryz.underlying3 Z).eq (congrArg (Value.int .i64) (jF Y Y))) Z ?_)|(refine SW.st (vW Z Z) Z ?_))
  refine SW.nv (cap:=[]) Z Z Z (e _ b) λv o g y=>?_;subst y;have b:=b.trans g;by_cases D:q l[(i+j) / 2]<0
  ·refine Wz ?_;exact ah.again ((i+j) / 2+1,j) ⟨Z,Z,Z,Z,congrArg (λz=>some (Iv z)) Y,Z,trivial⟩ dD ⟨by simp only;omega,m,b⟩
  refine Wz ?_;exact ah.again (i,(i+j) / 2) ⟨Z,Z,Z,Z,Z,congrArg (λz=>some (Iv z)) Y,trivial⟩ dD ⟨by simp only;omega,by simp only;omega,b⟩
 obtain rfl:i=j:=Y;by_cases p:i<n
 ·have d:=h.lt p;have e:=λo u=>B (l[i]) (Pf d) o u;have G:=r (l[i]) (Pf d);repeat'(first|refine Wz ?_|refine Wo b ((h.all p)) ?_)
  refine SW.nv (cap:=[]) Z Z Z (e _ b) λv o g y=>?_;subst y;have b:=b.trans g;refine Wz ?_;refine ah.cf Z Z Z ⟨_,Z,b,i,?_⟩;rw[decide_eq_false G]
 refine Wz ?_;exact ah.cf Z Z Z ⟨_,Z,b,i,Z⟩
theorem qv(x:Block)(a:Int)(w:World):aS prog 149 ([.agg (aL x).toArray,Iv a]++[]) w λv _=>v=Iv (IntKind.i64.wrap (x.At-a)):=by
 refine Wj func149 ntmps149 ?_;refine Ww λe f c b d=>?_;repeat'(first|refine Wz ?_|(refine SW.st (vU Z Z) Z ?_))
 exact ah.aF Z Z ⟨_,Z,c,Z⟩
theorem wrap_zero{z:Int}(a: -18446744073709551616<z)(b:z<18446744073709551616)(h:IntKind.i64.wrap z=0):z=0:=by
 grind[IntKind.wrap,IntKind.bits,IntKind.signed]
def G5(l:List Block)(a:Int)(v:Value):Prop:=(bx l a=true->v= .tuple #[Iv (bB l a:Int),.bool true])∧(bx l a=false->∃i:Nat,v= .tuple #[Iv (i:Int),.bool false])
theorem H7(r:fB)(l:List Block)(a:Int)(w:World)(g:Sl w 3 aL r.Live.A r.Live.n l)(m:l.Pairwise λx y=>x.At<y.At)(hb:∀b∈l,0<=b.At∧b.At<=255)(j:r.Live.n<=1000000000000000000)(u: -9223372036854775808<=a∧a<=9223372036854775807):
 aS prog 74 [.agg (bg r).toArray,Iv a] w λv _=>G5 l a v:=by
 refine Wj func74 ntmps74 ?_;refine Ww λz A c k n=>?_;refine Wz ?_;by_cases o: -1000000<=a∧a<=1000000
 ·refine Wc (jr _ _ _ _ a _ (g.ext c) _ (λx e f _=>by
   have:=qv x a f;have h:=hb x e;rwa[jF Y Y]at this) m j) λp d=>?_;have c:=c.trans d;refine Wz ?_;refine ah.cf Z Z Z ⟨_,Z,c,?_⟩;exact⟨λh=>by rw[h];rfl,λh=>⟨bB l a,by rw[h];rfl⟩⟩
 have q:bx l a=false:=by
  unfold bx;split
  ·rename_i h;have:=hb _ (Pf h);exact decide_eq_false Y
  rfl
 refine Wk (qu _ _ _ _ a _ (g.ext c) _ (λx=>IntKind.i64.wrap (x.At-a)) (λx e f _=>qv x a f) (λx e s=>by
  have h:=hb x e;have:=wrap_zero Y Y s;omega) j) λv p d t=>?_
 obtain⟨i,rfl⟩:=t;have c:=c.trans d;refine Wz ?_;refine ah.cf Z Z Z ⟨_,Z,c,?_⟩;exact⟨λh=>absurd (q.symm.trans h) fy,λ_=>⟨i,Z⟩⟩
theorem pn(r:fB)(L:List aC)(b:List cV)(x:aC)(w:World)(m:vF w r.ak b L)(H:uk L)(R:r.ak.n<=1000000000000000000)(I:∀l∈L,l.aq.length*8<=140737488355328):
 aS prog 115 [.agg (bg r).toArray,Iv x.ep,Iv x.ap,Iv x.Ty] w λv p=>∃A c,v= .slice A (bZ L x).length c∧Own p w.heap.size 3 1 aT A (bZ L x).length c (bZ L x):=by
 refine Wj func115 ntmps115 ?_;refine Ww λB S a C f=>?_;obtain⟨T,U⟩:=m.len;have V:=m.row.base;refine Wz ?_
 refine CW.loop (λi:Nat=>[(1,Iv x.ep),(2,Iv x.ap),(3,Iv x.Ty),(4,Pt B),(9,Iv (i:Int))])
  (λi p=>i<=r.ak.n∧Ext w p∧ay p B 34 (bg r)∧∀(k:Nat)(h:k<L.length),k<i->¬dT L[k] x) (λi=>r.ak.n-i) 0
  ⟨Z,Z,Z,Z,Z,trivial⟩ ⟨by omega,a,f,λk h h'=>by omega⟩ ?_
 rintro i p ⟨W,a,f,D⟩;by_cases g:i<r.ak.n
 ·have n:i<L.length:=Y;have q:i<b.length:=Y;have d:=m.each.get i q n;have e1:=d.cpu;have e2:=d.fX;have e3:=d.ty;have s:=d.bt.len;have J:=I _ (Pf n);have E:=m.row.dp g (j:=0) (u:=Iv b[i].ep) Z;have F:=m.row.dp g (j:=1) (u:=Iv b[i].ap) Z;have G:=m.row.dp g (j:=2) (u:=Iv b[i].Ty) Z;have K:=m.row.dp g (j:=3) (u:= .slice b[i].aq.A b[i].aq.n b[i].aq.c) Z;by_cases o:dT L[i] x
  ·obtain⟨k1,k2,k3⟩:=id o;obtain⟨M,N⟩:=J0 H n o
   have t:bZ L x=L[i].aq:=by
    rw[fk N Y];simp only[M]
   rw[t];repeat'(first|refine Wz ?_|refine Wn a E ?_|refine Wn a F ?_|refine Wn a G ?_|refine Wn a K ?_)
   all_goals try omega
   refine Wk (iM _ _ _ _ _ (d.bt.ext a) Y) λv w4 y O=>?_;obtain⟨X,P,rfl,z⟩:=O;have z:=z.low a.size;have a:=a.trans y;refine Wz ?_;refine ah.aF Z Z ⟨_,Z,a,X,P,by rw[s],by rw[s];exact z⟩
  have Q:¬(b[i].ep=x.ep∧b[i].ap=x.ap∧b[i].Ty=x.Ty):=by unfold dT at o;omega
  repeat'(first|refine Wz ?_|refine SW.dP Z Z Z (λh=>?_) (λh=>?_)|refine Wn a E ?_|refine Wn a F ?_|refine Wn a G ?_)
  all_goals try omega
  all_goals
   exact ah.again (i+1) ⟨Z,Z,Z,Z,Z,trivial⟩ Y ⟨by omega,a,f,λk h h'=>by
    by_cases e:k=i
    ·subst e;exact o
    exact D k h Y⟩
 have t:bZ L x=[]:=iP (J1 λk o=>D k o Y);rw[t];refine Wz ?_;exact ah.aF Z Z ⟨_,Z,a,none,0,Z,Own.cq _ _ _ _ _ _⟩
variable {cpu o:Int} {i j k:Nat} {z0 z1:ap}
theorem jh(h:fP l):l.Pairwise λx y=>x.At<y.At:=by
 have b:∀(d i:Nat)(a:i+d+1<l.length),(l[i]'Y).At<l[i+d+1].At:=by
  intro d;induction d with
  | zero=>intro i a;exact h.next i a
  | succ d c=>intro i a;exact Int.lt_trans (c i Y) (h.next (i+d+1) Y)
 rw[Pq];intro i j f a e;have:=b (j-i-1) i Y
 grind
theorem fR(h:bx l a=true):∃b:bB l a<l.length,l[bB l a].At=a:=by
 unfold bx at h<;>grind
theorem lg(b:l.Pairwise λx y=>x.At<y.At)(d:k<l.length)(h:l[k].At=a):bB l a=k∧bx l a=true:=by
 rw[Pq]at b;have e:bB l a=k:=GR Y (λj f c=>by grind) (λ_=>by omega)
 simp_all[bx,decide_eq_true]
theorem xq(h:∀(k:Nat)(b:k<l.length),l[k].At≠a):bx l a=false:=by
 unfold bx<;>grind
theorem D4(d:l.Pairwise λx y=>x.At<y.At)(n:k<l.length)(f:l[k].At=a)(g:l[k].Order=o):l.eraseIdx k=bJ l a o:=by
 rw[Pq]at d
 have h:∀(j:Nat)(b:j<l.length),j≠k->r9 a o l[j]=false:=λj b i=>by
  cases p:r9 a o l[j]<;>grind[r9,jf,Nat.lt_trichotomy,absurd]
 have e:l=l.take k++l[k]::l.drop (k+1):=by simp
 have q:∀x∈l.take k,r9 a o x=false:=λx c=>by
  obtain⟨j,b,rfl⟩:=Pg c<;>grind
 have r:∀x∈l.drop (k+1),r9 a o x=false:=λx c=>by
  obtain⟨j,b,rfl⟩:=Pg c<;>grind
 have m:r9 a o l[k]=true:=jf.2 ⟨f,g⟩;unfold bJ;rw[PV]
 conv=>rhs;rw[e]
 rw[Qw,List.filter_cons];simp only[m,Bool.not_true,Bool.false_eq_true,if_false]
 grind[List.filter_eq_self]
noncomputable def rO(z:ap)(a:Int):Int:=z.Types.getD ((a-z.aE) / 8).toNat 0
noncomputable def keyOf(b c:ap)(cpu a:Int):aC:=⟨cpu,if a<b.To then 0 else 1,if a<b.To then rO b a else rO c a,[]⟩
def kz(x:aC)(pg:List Int):aC:=⟨x.ep,x.ap,x.Ty,pg⟩
noncomputable def qq(h:Heap)(a c:ap)(b:Block)(d:List Block):Heap:=⟨[(eI (a,c) b).1,(eI (a,c) b).2],h.bY,h.bl,h.ak,d⟩
noncomputable def iq(h:Heap)(a b:ap)(x:aC)(pg:List Int)(c:List Block):Heap:=
 if 8<pg.length then⟨[(bp (a,b) ((pg.take 4).map bC)).1,(bp (a,b) ((pg.take 4).map bC)).2],h.bY,h.bl,fZ h.ak (kz x (pg.drop 4)),c⟩else⟨[a,b],h.bY,h.bl,fZ h.ak (kz x pg),c⟩
noncomputable def iQ(h:Heap)(cpu a:Int):Heap:=match h.aK with
 | [z0,z1]=>if 0<(h.Live.getD (bB h.Live a) ⟨0,0,0⟩).Order then qq h z0 z1 (h.Live.getD (bB h.Live a) ⟨0,0,0⟩) (h.Live.eraseIdx (bB h.Live a))else iq h z0 z1 (keyOf z0 z1 cpu a) (bZ h.ak (keyOf z0 z1 cpu a)++[a]) (h.Live.eraseIdx (bB h.Live a))
 | _=>⟨[],[],0,[],[]⟩
noncomputable def ee(h:Heap)(cpu a:Int):Int×Heap:=
 if gd h then(if 0<=cpu∧cpu<h.bl then(if bx h.Live a then(0,iQ h cpu a)else(4,⟨[],[],0,[],[]⟩))else(1,⟨[],[],0,[],[]⟩))else(8,⟨[],[],0,[],[]⟩)
theorem CP{h:Heap}(hb:gd h=false):ee h cpu a=(8,⟨[],[],0,[],[]⟩):=by simp[ee,hb]
theorem v7{h:Heap}(hb:gd h=true)(b:¬(0<=cpu∧cpu<h.bl)):ee h cpu a=(1,⟨[],[],0,[],[]⟩):=by simp_all[ee,if_neg]
theorem CQ{h:Heap}(hb:gd h=true)(b:0<=cpu∧cpu<h.bl)(c:bx h.Live a=false):ee h cpu a=(4,⟨[],[],0,[],[]⟩):=by simp_all[ee,Bool.false_eq_true]
theorem mi{h:Heap}(hb:gd h=true)(b:0<=cpu∧cpu<h.bl)(c:bx h.Live a=true):ee h cpu a=(0,iQ h cpu a):=by simp_all[ee]
theorem mU{h:Heap}(b:h.aK=[z0,z1])(c:k<h.Live.length)(e:bB h.Live a=k)(d:0<h.Live[k].Order):iQ h cpu a=qq h z0 z1 h.Live[k] (h.Live.eraseIdx k):=by
 simp_all[List.getD_eq_getElem?_getD,iQ]
theorem mV{h:Heap}(b:h.aK=[z0,z1])(c:k<h.Live.length)(e:bB h.Live a=k)(d:¬0<h.Live[k].Order):iQ h cpu a=iq h z0 z1 (keyOf z0 z1 cpu a) (bZ h.ak (keyOf z0 z1 cpu a)++[a]) (h.Live.eraseIdx k):=by
 simp_all[List.getD_eq_getElem?_getD,iQ,if_neg]
structure iE(h:Heap)(z0 z1:ap):Prop where
 d:me h z0 z1
 iy:uk h.ak
 live:fP h.Live
 lists:∀l∈h.ak,1<=l.aq.length∧l.aq.length<=8
 all:(bh (some []) (z0.ai++z1.ai++aM h.ak++h.Live)).isSome=true
 cpus:1<=h.bl∧h.bl<=4
 count:h.ak.length<=256
theorem By{m:List Block}(h:∀x∈l,x∈m)(b:gQ m a o=false):gQ l a o=false:=by
 unfold gQ at*<;>grind
theorem nG.sub{m:List Block}{b:Block}(h:nG m b)(a:∀x∈l,x∈m):nG l b:=⟨h.ord,h.at_,h.al,⟨h.fits.1,h.fits.2.1,By a h.fits.2.2⟩,λx c=>h.Nu x (a x c)⟩
theorem iE.next{h:Heap}(f:iE h z0 z1)(d:k<h.Live.length):nG (z0.ai++z1.ai) h.Live[k]:=by
 have a:=f.all;have e:z0.ai++z1.ai++aM h.ak++h.Live=(z0.ai++z1.ai++aM h.ak++h.Live.take k)++h.Live[k]::h.Live.drop (k+1):=by simp
 rw[e]at a;have c:=pe a;have g:=f.live.each k d;have i:∀x∈z0.ai++z1.ai,x∈z0.ai++z1.ai++aM h.ak++h.Live.take k:=λx b=>PU _ (PU _ b);obtain⟨j,m,l,n⟩:=g;refine⟨j,by omega,l,⟨c.1,c.2.1,By i c.2.2⟩,λx b=>?_⟩;rcases Px.1 b with b|b
 ·exact ky f.d.kD x b
 exact ky f.d.j8 x b
theorem iE.D5{h:Heap}(f:iE h z0 z1)(d:i<h.ak.length)(g:j<h.ak[i].aq.length):nG (z0.ai++z1.ai++(h.ak[i].aq.take j).map bC) (bC h.ak[i].aq[j]):=by
 obtain⟨k,b⟩:=th d g;have e:=f.d.next k;rw[b]at e;refine e.sub λx a=>?_;rcases Px.1 a with a|a
 ·grind
 refine List.mem_append_right _ ?_;obtain⟨p,l,rfl⟩:=Pw.1 a;obtain⟨m,n,rfl⟩:=Pg l;simp only[List.length_take]at n;rw[PY];obtain⟨o,c⟩:=th d (show m<h.ak[i].aq.length by omega);rw[<-c];exact PG.2 ⟨iG h.ak i+m,by omega,Z⟩
theorem iE.inv{h:Heap}(f:iE h z0 z1)(a:i<h.ak.length):∀j,j<=h.ak[i].aq.length->oy (bp (z0,z1) ((h.ak[i].aq.take j).map bC)) (z0.ai++z1.ai++(h.ak[i].aq.take j).map bC)
 | 0,_=>by simpa[bp]using f.d.start
 | j+1,hj=>by
   have b:=(f.inv a j Y).back (f.D5 a (show j<_ by omega))
   have e:(h.ak[i].aq.take (j+1)).map bC=(h.ak[i].aq.take j).map bC++[bC h.ak[i].aq[j]]:=by
    grind[List.take_succ_eq_append_getElem]
   rw[e,<-Po,kK];exact b.1
theorem fC{h:Heap}(d:bf h):∃b c,iE h b c:=by
 obtain⟨b,c,o,p,q,r,s,t,m,n⟩:=d.bA;have f:me h b c:=⟨o,p,q,r,s,t,gp n⟩
 have g:∀l∈h.ak,1<=l.aq.length∧l.aq.length<=8:=λl g=>by
  obtain⟨i,u,rfl⟩:=Pg g;exact(m.head i u).2.2.2
 refine⟨b,c,f,CN m,d.live,g,n,d.cpus,?_⟩
 have j:∀k,k<=h.ak.length->k<=iG h.ak k:=by
  intro k;induction k<;>grind[List.getElem_mem,tg]
 have v:=j _ (Ph _);rw[v3]at v
 have hb:(aM h.ak).length<=256:=by
  obtain⟨bs,a⟩:=PM.1 f.all;have w:=wY f.pw a;have e:=lO a;grind
 omega
variable {most per size:Int} {c:aO} {s:aj} {acc NS ws:List Int}
theorem J5{x y:Int}(h1:0<=x)(h2:x<=64)(h3:0<=y)(h4:y<=64):0<=x*y∧x*y<=4096:=
 ⟨Qm h1 h3,by have:=Int.mul_le_mul h2 h4 h3 (by omega:(0:Int)<=64);omega⟩
def fG(size per t a:Int):Bool:=decide (0<=a-t*16) && decide (a-t*16<per*size) && decide ((a-t*16) % size=0)
theorem xr{t:Int}(c:1<=size)(b:(k:Int)<per)(h:a=16*t+k*size):fG size per t a=true:=by
 have e:a-t*16=k*size:=Y;unfold fG;rw[e,decide_eq_true (Qm Y Y),decide_eq_true (Int.mul_lt_mul_of_pos_right b Y),decide_eq_true (Int.mul_emod_left _ _)]
 rfl
theorem H4{t:Int}(d:1<=size)(h:∀k:Nat,(k:Int)<per->a≠16*t+k*size):fG size per t a=false:=by
 cases e:fG size per t a
 ·rfl
 exfalso;unfold fG at e;simp only[Bool.and_eq_true,decide_eq_true_eq]at e;obtain⟨⟨b,c⟩,f⟩:=e;have g:(a-t*16) / size<per:=QI Y c;have i:0<=(a-t*16) / size:=Qt b Y;have j:=PZ (a-t*16) size;grind[Int.mul_ediv_add_emod,Int.eq_ofNat_of_zero_le,Int.mul_comm]
def bK(ws:List Int)(size per:Int)(x:Slab)(b:List Int):Prop:=eH ws per x.bR [] (some b)∧(b.length:Int)=x.ai∧∀a∈b,fG size per x.At a=true
theorem eH.mem{l:List Int}{x:Int}{r:Option (List Int)}(h:eH l most x acc r):(∀a∈acc,0<=a∧a<(l.length:Int))->∀b,r=some b->∀a∈b,0<=a∧a<(l.length:Int):=by
 induction h with
 | done b=>grind
 | bad=>grind
 | @step k b r d f g h c=>
   intro i o e;refine c (λa j=>?_) o e
   grind
theorem bK.c7{x:Slab}{a:List Int}(h:bK ws size per x a)(h':bK ws size per x NS):a=NS:=by
 have:=h.1.c7 h'.1;grind
def lU(l:List Block)(a:Int):Int:=if bx l a then(l.getD (bB l a) ⟨0,0,0⟩).Order else-1
theorem ur(h:bx l a=true)(b:bB l a<l.length):lU l a=l[bB l a].Order:=by
 unfold lU<;>grind
theorem so(h:bx l a=false):lU l a= -1:=by
 unfold lU<;>grind
structure pi(s:aj)(c:aO)(i:Nat)(h:i<c.ae.length):Prop where
 live:lU s.Heap.Live c.ae[i].At=c.Order
 next:0<i->(c.ae[i-1]'Y).At<c.ae[i].At
 chain:∃out,bK s.Words c.ax c.bd c.ae[i] out
def sq(t:Int)(x:Slab):Bool:=decide (x.At=t)
def qs(c:aO)(i:Nat)(h:i<c.ao.length):Prop:=c.ao[i]= -1∨(c.ao[i]∉c.ao.take i∧c.ae.any (sq c.ao[i])=true)
structure dr(s:aj)(c:aO):Prop where
 lay:cJ c.ax=(c.Order,c.bd,0)
 names:0<c.Names.length
 aD:(c.ao.length:Int)=s.Heap.bl
 av:∀(i:Nat)(h:i<c.ae.length),pi s c i h
 ns:∀(i:Nat)(h:i<c.ao.length),qs c i h
noncomputable def lh(s:aj)(c:aO):Bool:= @decide (dr s c) (Classical.propDecidable _)
theorem qt(a:dr s c):lh s c=true:=by unfold lh<;>grind
theorem iR(a:¬dr s c):lh s c=false:=by unfold lh<;>grind
theorem xt:lh s c=true↔dr s c:=by
 by_cases a:dr s c<;>grind[qt,iR]
theorem bM{x n:Int}(h:cJ x=(o,n,0)):(1<=x∧x<=64)∧(0<=o∧o<=2)∧(1<=n∧n<=64):=by
 unfold cJ at h;split at h
 ·rename_i a;have b:64 / x<=64:=QE _ Y;have c:1<=64 / x:=by rw[Int.le_ediv_iff_mul_le Y];omega
  have d:16 / x<=16:=QE _ Y;have e:32 / x<=32:=QE _ Y
  grind
 grind
def aR(cs:List aO):List ByteArray:=cs.flatMap λc=>c.Names
def aG(cs:List aO):List Int:=cs.flatMap λc=>c.ae.map λx=>x.At
structure pj(acc l:List ByteArray):Prop where
 each:∀(k:Nat)(h:k<l.length),dW l[k]=true∧l[k]∉acc++l.take k∧(0<k->cu (l[k-1]'Y) l[k]=true)
def rp(a:List Int)(l:List Slab):Prop:=∀(k:Nat)(h:k<l.length),l[k].At∉a++(l.take k).map λx=>x.At
structure pk(s:aj)(i:Nat)(h:i<s.ab.length):Prop where
 may:dr s s.ab[i]
 size:∀(j:Nat)(hj:j<i),(s.ab[j]'Y).ax≠s.ab[i].ax
 names:pj (aR (s.ab.take i)) s.ab[i].Names
 av:rp (aG (s.ab.take i)) s.ab[i].ae
structure aA(s:aj):Prop where
 words:s.Words.length=4096
 heap:bf s.Heap
 most:s.ab.length<=20
 each:∀(i:Nat)(h:i<s.ab.length),pk s i h
noncomputable def ef(s:aj):Bool:= @decide (aA s) (Classical.propDecidable _)
theorem lV(a:aA s):ef s=true:=by unfold ef<;>grind
theorem mW(a:¬aA s):ef s=false:=by unfold ef<;>grind
theorem dg:ef s=true↔aA s:=by
 by_cases a:aA s<;>grind[lV,mW]
theorem lW(cs:List aO)(i:Nat)(h:i<cs.length):aR (cs.take (i+1))=aR (cs.take i)++cs[i].Names:=by
 grind[aR,List.take_succ_eq_append_getElem]
theorem lX(cs:List aO)(i:Nat)(h:i<cs.length):aG (cs.take (i+1))=aG (cs.take i)++cs[i].ae.map λx=>x.At:=by
 grind[aG,List.take_succ_eq_append_getElem]
theorem J6{z:Int}(a: -18446744073709551616<z)(b:z< -9223372036854775808):IntKind.i64.wrap z=z+18446744073709551616:=by
 grind[IntKind.wrap,IntKind.bits,IntKind.signed]
theorem xu(r:da)(t a:Int)(w:World)(i:1<=r.ax∧r.ax<=64)(j:1<=r.bd∧r.bd<=64)(k:0<=t∧t<=255)(l: -9223372036854775808<=a∧a<=9223372036854775807):
 aS prog 170 [.agg (cr r).toArray,Iv t,Iv a] w λv _=>v= .bool (fG r.ax r.bd t a):=by
 refine Wj func170 ntmps170 ?_;refine Ww λm n b f h=>?_;have o:=J5 (x:=r.bd) (y:=r.ax) Y Y Y Y;unfold fG;by_cases c:a-t*16< -9223372036854775808
 ·have e:=J6 (z:=a-t*16) Y c;rw[decide_eq_false (show¬0<=a-t*16 by omega)];repeat'(first|refine Wz ?_|(refine SW.st ((vU Z Z).eq (congrArg (Value.int .i64) e)) Z ?_))
  all_goals try omega
  exact ah.aF Z Z ⟨_,Z,b,Z⟩
 by_cases d:0<=a-t*16
 ·have e:(a-t*16).tmod r.ax=(a-t*16) % r.ax:=Pv d;rw[decide_eq_true d];by_cases g:a-t*16<r.bd*r.ax
  ·rw[decide_eq_true g];refine Wz ?_;all_goals try omega
   refine ah.aF Z Z ⟨_,Z,b,?_⟩;rw[e];rfl
  rw[decide_eq_false g];refine Wz ?_;all_goals try omega
  exact ah.aF Z Z ⟨_,Z,b,Z⟩
 rw[decide_eq_false d];refine Wz ?_;all_goals try omega
 exact ah.aF Z Z ⟨_,Z,b,Z⟩
theorem tj(r:da)(t a:Int)(w:World)(g:1<=r.ax∧r.ax<=64)(o:1<=r.bd∧r.bd<=64)(p:0<=t∧t<=255):
 aS prog 190 [.agg (cr r).toArray,Iv t,Iv a] w λv _=>v= .bool (fG r.ax r.bd t a):=by
 refine Wj func190 ntmps190 ?_;refine Ww λj q c l b=>?_;refine Wz ?_
 refine CW.loop (λk:Nat=>[(1,Iv t),(2,Iv a),(3,Pt j),(7,Iv (k:Int))]) (λk d=>(k:Int)<=r.bd∧Ext w d∧ay d j 58 (cr r)∧∀i:Nat,i<k->a≠16*t+i*r.ax) (λk=>r.bd.toNat-k) 0
  ⟨Z,Z,Z,Z,trivial⟩ ⟨by omega,c,b,λi h=>by omega⟩ ?_
 rintro k d ⟨s,c,b,m⟩;by_cases f:(k:Int)<r.bd
 ·have u:=J5 (x:=(k:Int)) (y:=r.ax) Y Y Y Y;by_cases n:a=16*t+k*r.ax
  ·rw[xr g.1 f n];refine Wz ?_;all_goals try omega
   exact ah.aF Z Z ⟨_,Z,c,Z⟩
  refine Wz ?_;all_goals try omega
  exact ah.again (k+1) ⟨Z,Z,Z,Z,trivial⟩ Y ⟨by omega,c,b,λi h=>by
   by_cases e:i=k
   ·subst e;exact n
   exact m i Y⟩
 rw[H4 g.1 (λi h=>m i Y)];refine Wz ?_;exact ah.aF Z Z ⟨_,Z,c,Z⟩
theorem FJ(a:Int)(d e:Nat)(q:da)(x:Slab)(w:World)(i:ay w d 58 (cr q))(j:ay w e 60 (bG x))
 (f:1<=q.ax∧q.ax<=64) (g:1<=q.bd∧q.bd<=64) (h:0<=x.At∧x.At<=255) (k:0<=a∧a<9223372036854775807):
 aS prog 217 ([Iv a]++[Pt d,Pt e]) w λv _=>v= .bool (!fG q.ax q.bd x.At a):=by
 refine Wj func217 ntmps217 ?_;have c:=Ext.refl w;repeat'(first|refine Wz ?_|(refine Wc (xu q x.At a _ f g h Y) λl b=>?_;have c:=c.trans b))
 exact ah.aF rfl rfl ⟨_,rfl,c,rfl⟩
def lP(lo:Nat)(ws:List Int)(size per:Int)(x:Slab)(v:Value)(w:World):Prop:=
 (∃a A k,bK ws size per x a∧v= .tuple #[.slice A a.length k,.bool true]∧Own w lo 3 1 aT A a.length k a∧a.length<=17592186044416)∨
 ((∀a,¬bK ws size per x a)∧v= .tuple #[.slice none 0 0,.bool false])
theorem Bz(r:cc)(q:da)(x:Slab)(ws:List Int)(w:World)(K:Sl w 1 aT r.Words.A r.Words.n ws)(R:r.Words.n*8<=140737488355328)
 (S:1<=q.ax∧q.ax<=64) (T:1<=q.bd∧q.bd<=64) (U:0<=x.At∧x.At<=255):
 aS prog 171 [.agg (ar r).toArray,.agg (cr q).toArray,.agg (bG x).toArray] w λv m=>lP w.heap.size ws q.ax q.bd x v m:=by
 refine Wj func171 ntmps171 ?_;refine Ww λb3 L b M c=>?_;refine SW.box Z Z λy w2 B N f=>?_;obtain⟨b,c⟩:=bk B b c;refine SW.box Z Z λz w3 C O j=>?_;obtain⟨b,c,f⟩:=aY C b c f;refine Wz ?_;have D:=b.size;refine Wk (FF _ _ _ _ _ _ _ (K.ext b) R) λv P E F=>?_;obtain⟨G,n,Q⟩:=F;obtain⟨b,c,f,j⟩:=cG E b c f j;have V:=K.len;rcases G with _|d
 ·subst Q;refine Wz ?_;refine ah.cf Z Z Z ⟨_,Z,b,.inr ⟨λo h=>?_,Z⟩⟩;have:=n.c7 h.1;cases this
 obtain⟨A,k,rfl,l,p⟩:=Q;have l:=l.low D;by_cases g:(d.length:Int)=x.ai
 ·have W:∀m,Ext P m->aS prog 141 [.slice A d.length k,.func (.func 217) #[] [Pt y,Pt z].toArray] m λv _=>v= .bool (d.any λa=> !fG q.ax q.bd x.At a):=λm H=>
   iJ _ _ _ _ _ (l.sl.ext H) _ [Pt y,Pt z] (λa=> !fG q.ax q.bd x.At a) (λx=>Iv x) (λx=>Z)
    (λa s L t=>by
      have X:=n.mem fy d Z a s;exact FJ a y z q x L ((f.ext H).ext t) ((j.ext H).ext t) S T U ⟨X.1,by omega⟩) Y
  have I:=Ext.refl P;repeat'(first|refine Wz ?_|(refine SW.st (gH (vs:=[Pt y,Pt z]) Z) Z ?_))
  refine Wk (W _ I) λv w5 J F=>?_;obtain⟨b,l⟩:=bk J b l;subst F;cases i:d.any λa=> !fG q.ax q.bd x.At a
  ·refine Wz ?_;refine ah.cf Z Z Z ⟨_,Z,b,.inl ⟨d,A,k,⟨n,g,λa s=>?_⟩,Z,l,p⟩⟩;rw[PA]at i;simpa using i a s
  refine Wz ?_;refine ah.cf Z Z Z ⟨_,Z,b,.inr ⟨λo h=>?_,Z⟩⟩;obtain⟨a,s,u⟩:=Pn.1 i;have e:=n.c7 h.1;injection e with e
  subst e;rw[h.2.2 a s]at u;cases u
 refine Wz ?_;all_goals try omega
 refine ah.cf Z Z Z ⟨_,Z,b,.inr ⟨λo h=>?_,Z⟩⟩;have e:=n.c7 h.1;injection e with e
 subst e;exact g h.2.1
theorem xv(r:cc)(q:da)(x:Slab)(ws:List Int)(w:World)(I:Sl w 1 aT r.Words.A r.Words.n ws)(Q:r.Words.n*8<=140737488355328)
 (R:1<=q.ax∧q.ax<=64) (S:1<=q.bd∧q.bd<=64) (T:0<=x.At∧x.At<=255):
 aS prog 191 [.agg (ar r).toArray,.agg (cr q).toArray,.agg (bG x).toArray] w λv n=>lP w.heap.size ws q.ax q.bd x v n:=by
 refine Wj func191 ntmps191 ?_;refine Ww λb3 y f J g=>?_;refine SW.box Z Z λK w2 C L c=>?_;obtain⟨f,g⟩:=bk C f g;refine SW.box Z Z λM w3 D N d=>?_;obtain⟨f,g,c⟩:=aY D f g c;refine Wz ?_;have E:=f.size;refine Wk (CM _ _ _ _ _ _ _ (I.ext f) Q) λv w4 F U=>?_;obtain⟨G,z,O⟩:=U;obtain⟨f,g,c,d⟩:=cG F f g c d;have V:=I.len;rcases G with _|b
 ·subst O;refine Wz ?_;refine ah.cf Z Z Z ⟨_,Z,f,.inr ⟨λo h=>?_,Z⟩⟩;have:=z.c7 h.1;cases this
 obtain⟨A,k,rfl,m,t⟩:=O;have m:=m.low E;by_cases p:(b.length:Int)=x.ai
 ·refine Wz ?_;all_goals try omega
  refine CW.loop (λj:Nat=>[(4,Pt K),(5,Pt M),(8,.slice A b.length k),(10,Iv (j:Int))]) (λj n=>j<=b.length∧Ext w n∧Own n w.heap.size 3 1 aT A b.length k b∧ay n K 58 (cr q)∧ay n M 60 (bG x)∧∀(i:Nat)(h:i<b.length),i<j->fG q.ax q.bd x.At b[i]=true) (λj=>b.length-j) 0
   ⟨Z,Z,Z,Z,trivial⟩ ⟨by omega,f,m,c,d,λi h h'=>by omega⟩ ?_
  rintro j n ⟨hj,f,m,c,d,P⟩;have H:=m.sl.base;by_cases s:j<b.length
  ·have B:∀n,aS prog 190 [.agg (cr q).toArray,Iv x.At,Iv b[j]] n λv _=>v= .bool (fG q.ax q.bd x.At b[j]):=λn=>tj q x.At b[j] n R S T;cases u:fG q.ax q.bd x.At b[j]
   ·rw[u]at B;repeat'(first|refine Wz ?_|(first|refine CW.bQ Z ?_|(apply CW.dF mixed;(·kernel_rfl);rotate_left;intro y l;obtain⟨f,m,c,d⟩:=cG l f m c d;rotate_right))|refine Wl (m.sl.one s Z) ?_|refine SW.ba Z Z (λy l=>(B _)) ?_|exact SW.br Z)
    refine ah.cf Z Z Z ⟨_,Z,f,.inr ⟨λo h=>?_,Z⟩⟩;have e:=z.c7 h.1;injection e with e
    subst e;rw[h.2.2 _ (Pf s)]at u;cases u
   rw[u]at B;repeat'(first|refine Wz ?_|(first|refine CW.bo Z ?_|(apply CW.dF mixed;(·kernel_rfl);rotate_left;intro y l;obtain⟨f,m,c,d⟩:=cG l f m c d;rotate_right))|refine Wl (m.sl.one s Z) ?_|refine SW.ba Z Z (λy l=>(B _)) ?_|exact SW.br Z)
   exact ah.again (j+1) ⟨Z,Z,Z,Z,trivial⟩ Y ⟨by omega,f,m,c,d,λi h h'=>by
    by_cases e:i=j
    ·subst e;exact u
    exact P i h Y⟩
  refine Wz ?_;refine ah.cf Z Z Z ⟨_,Z,f,.inl ⟨b,A,k,⟨z,p,λa W=>?_⟩,Z,m,t⟩⟩;obtain⟨i,X,rfl⟩:=Pg W;exact P i X Y
 refine Wz ?_;all_goals try omega
 refine ah.cf Z Z Z ⟨_,Z,f,.inr ⟨λo h=>?_,Z⟩⟩;have e:=z.c7 h.1;injection e with e
 subst e;exact p h.2.1
theorem vc(x:Block)(a:Int)(w:World):aS prog 198 ([.agg (aL x).toArray,Iv a]++[]) w λv _=>v=Iv (IntKind.i64.wrap (x.At-a)):=by
 refine Wj func198 ntmps198 ?_;refine Ww λe f c b d=>?_;repeat'(first|refine Wz ?_|(refine SW.st (vU Z Z) Z ?_))
 exact ah.aF Z Z ⟨_,Z,c,Z⟩
theorem D6(A:Option Addr)(n c:Nat)(l:List Block)(a:Int)(w:World)(j:Sl w 3 aL A n l)(m:l.Pairwise λx y=>x.At<y.At)(hb:∀b∈l,0<=b.At∧b.At<=255)(k:n<=1000000000000000000)(s: -9223372036854775808<=a∧a<=9223372036854775807):
 aS prog 148 [.slice A n c,Iv a,.func (.func 198) #[] #[]] w λv _=>G5 l a v:=by
 by_cases o: -1000000<=a∧a<=1000000
 ·refine(jr _ _ _ _ a _ j _ (λx d e _=>by
   have:=vc x a e;have h:=hb x d;rwa[jF Y Y]at this) m k).mono λv p f g=>?_
  subst g;exact⟨λh=>by rw[h],λh=>⟨bB l a,by rw[h]⟩⟩
 have q:bx l a=false:=by
  unfold bx;split
  ·rename_i h;have:=hb _ (Pf h);exact decide_eq_false Y
  rfl
 refine(qu _ _ _ _ a _ j _ (λx=>IntKind.i64.wrap (x.At-a)) (λx d e _=>vc x a e) (λx d r=>by
  have h:=hb x d;have:=wrap_zero Y Y r;omega) k).mono λv p f g=>?_
 obtain⟨i,rfl⟩:=g;exact⟨λh=>absurd (q.symm.trans h) fy,λ_=>⟨i,Z⟩⟩
theorem H9(x:Slab)(c:Nat)(t:Int)(w:World)(b:ay w c 3 [Iv t]):
 aS prog 227 ([.agg (bG x).toArray]++[Pt c]) w λv _=>v= .bool (sq t x):=by
 refine Wj func227 ntmps227 ?_;refine Ww λg h d e f=>?_;have b:=b.ext d;have a:=b.cell (i:=0) (v:=Iv t) Z;rw[add_zero]at a;repeat'(first|refine Wz ?_|refine Wl a ?_)
 exact ah.aF Z Z ⟨_,Z,d,Z⟩
theorem D7(q:da)(l:List Slab)(t:Int)(w:World)(k:Sl w 3 bG q.ae.A q.ae.n l)(m:q.ae.n<=9223372036854775807):
 aS prog 199 [.agg (cr q).toArray,Iv t] w λv _=>v=Iv (idxOf (sq t) l):=by
 refine Wj func199 ntmps199 ?_;refine Ww λn h a i b=>?_;refine SW.JJ Z Z Z λc o d j e=>?_;obtain⟨a,b⟩:=bk d a b;repeat'(first|refine Wz ?_|(refine SW.st (gH (vs:=[Pt c]) Z) Z ?_))
 refine Wc (jG _ _ _ _ _ (k.ext a) _ [Pt c] (sq t) (λx=> .agg (bG x).toArray) (λx=>Z) (λx _ h f=>H9 x c t h (e.ext f)) m) λp g=>?_;have a:=a.trans g;refine Wz ?_;exact ah.aF Z Z ⟨_,Z,a,Z⟩
theorem rq{x:Int}{f:FuncId}{n e:Int}(h:aS prog f [Iv x] w λv _=>v=lB x)(a:cJ x=(o,n,e)):aS prog f [Iv x] w λv _=>v= .tuple #[Iv o,Iv n,Iv e]:=by
 refine h.mono λv c _ b=>?_;rw[b,lB,a]
theorem Ia(r:cc)(s:aj)(q:da)(c:aO)(w:World)(N:mB w r s)(A:DO w q c)(hs:s.small)(O:c.small)(hH:bf s.Heap)(zd:∀x∈c.ae,-9223372036854775808<=x.At∧x.At<=9223372036854775807):
 aS prog 129 [.agg (ar r).toArray,.agg (cr q).toArray] w λv _=>v= .bool (lh s c):=by
 refine Wj func129 ntmps129 ?_;refine Ww λb2 G f zo p=>?_;refine SW.box Z Z λb3 w2 ze zp d=>?_;obtain⟨f,p⟩:=bk ze f p;obtain⟨o,n,e,hE⟩:∃o n e,cJ c.ax=(o,n,e):=⟨_,_,_,Z⟩;have eS:=A.size;have eP:=A.per;have eO:=A.order;have n1:=A.names.len;have n2:=A.av.len;have n3:=A.aD.len;have m1:=O.names;have m2:=O.av;have m3:=O.aD;have eC:=N.heap.cpus;have wl:=N.words.len;have m4:=hs.words;have zt:=N.heap.live.len;have m5:=hs.heap.live;have zq:=A.cap;have cL:∀y,aS prog 68 [Iv q.ax] y λv _=>v= .tuple #[Iv o,Iv n,Iv e]:=λy=>rq (wO q.ax y) (by rw[eS];exact hE);rcases(show¬(e=0∧c.Order=o∧c.bd=n∧0<c.Names.length∧(c.ao.length:Int)=s.Heap.bl)∨(e=0∧c.Order=o∧c.bd=n∧0<c.Names.length∧(c.ao.length:Int)=s.Heap.bl)by omega)with S|⟨h1,h2,h3,h4,h5⟩
 ·have hF:lh s c=false:=iR λD=>S (by
   have:=D.lay;rw[hE]at this;simp only[Prod.mk.injEq]at this;exact⟨this.2.2,this.1.symm,this.2.1.symm,D.names,D.aD⟩)
  rw[hF];rcases(show e≠0∨(e=0∧c.Order≠o)∨(e=0∧c.Order=o∧c.bd≠n)∨(e=0∧c.Order=o∧c.bd=n∧c.Names.length=0)∨(e=0∧c.Order=o∧c.bd=n∧0<c.Names.length∧(c.ao.length:Int)≠s.Heap.bl)by omega)with g|g|g|g|g
  all_goals
   repeat'(first|refine Wz ?_|(refine Wc (cL _) λG l=>?_;obtain⟨f,p,d⟩:=aY l f p d))
   all_goals try omega
   exact ah.aF Z Z ⟨_,Z,f,Z⟩
 subst h1;have T:cJ c.ax=(c.Order,c.bd,0):=by rw[hE,h2,h3]
 obtain⟨l1,l2,l3⟩:=bM hE;have zf:=jh hH.live
 have U:∀b∈s.Heap.Live,0<=b.At∧b.At<=255:=λb hb=>by
  obtain⟨i,hi,rfl⟩:=Pg hb;exact(hH.live.each i hi).2.1
 repeat'(first|refine Wz ?_|(refine Wc (cL _) λG l=>?_;obtain⟨f,p,d⟩:=aY l f p d))
 all_goals try omega
 refine CW.loop (λk:Nat=>[(2,Pt b2),(3,Pt b3),(5,Iv o),(53,.slice q.ae.A q.ae.n q.ae.c),(54,Iv (q.ae.n:Int)),(55,Iv (k:Int))])
  (λk y=>k<=q.ae.n∧Ext w y∧ay y b2 37 (ar r)∧ay y b3 58 (cr q)∧∀(i:Nat)(h:i<c.ae.length),i<k->pi s c i h) (λk=>q.ae.n-k) 0
  ⟨Z,Z,Z,Z,Z,Z,trivial⟩ ⟨by omega,f,p,d,λi h h'=>by omega⟩ ?_
 rintro k y ⟨hk,f,p,d,P⟩;have hA:=A.av.base;by_cases H:k<q.ae.n
 ·have B:k<c.ae.length:=Y;repeat'(first|refine Wz ?_|refine Wo f ((A.av.all H)) ?_)
  refine SW.alloc Z λb9 G l L t=>?_;refine Wz ?_;refine Wg t (gG.one (enc:=bG) _) λw2 M hg=>?_;have V:=l.own L hg;have zr:=f.up L;obtain⟨f,p,d⟩:=aY V f p d;have t:=M;refine Wz ?_;refine Wk (D6 _ _ _ _ _ _ (N.heap.live.ext f) zf U Y (zd _ (Pf B))) λv w4 zg Q=>?_;obtain⟨f,p,d,t⟩:=cG zg f p d t;cases E:bx s.Heap.Live c.ae[k].At
  ·obtain⟨j,rfl⟩:=Q.2 E
   have hF:lh s c=false:=iR λD=>by
    have:=(D.av k B).live;rw[so E]at this;omega
   rw[hF];repeat'(first|refine Wz ?_|refine fq ?_|refine SW.skip Z Z Z Z ?_|(refine SW.br λG l=>?_;obtain⟨f,p,d,t⟩:=cG l f p d t))
   exact ah.aF Z Z ⟨_,Z,f,Z⟩
  have zh:=Q.1 E;subst zh;obtain⟨R,zi⟩:=fR E;have W:=ur E R;obtain⟨m,em⟩:=bq (bB s.Heap.Live c.ae[k].At);simp only[em]at R zi W Q⊢;have zj:m<r.Heap.Live.n:=Y;have zu:=N.heap.live.base;have gO:=N.heap.live.dp zj (j:=1) (u:=Iv s.Heap.Live[m].Order) Z
  have ht:0<=c.ae[k].At∧c.ae[k].At<=255:=by
   have:=U _ (Pf R);omega
  have hS:1<=q.ax∧q.ax<=64:=Y;have hP:1<=q.bd∧q.bd<=64:=Y;by_cases X:s.Heap.Live[m].Order=o
  ·by_cases I:0<k->(c.ae[k-1]'Y).At<c.ae[k].At
   ·rcases Ps k with J|J
    all_goals
     first
     | (have gP:=A.av.dp (show k-1<q.ae.n by omega) (j:=0) (u:=Iv (c.ae[k-1]'Y).At) Z
        have zs:=I J)
     | skip
    all_goals
     repeat'(first|refine Wz ?_|refine fq ?_|refine SW.want Z Z ?_|refine SW.st (aU (k-1) Z Z ig Y Y) Z ?_|refine Wn f gO ?_|refine Wn f gP ?_|(refine SW.br λG l=>?_;obtain⟨f,p,d,t⟩:=cG l f p d t))
     all_goals try omega
     refine Wk (Bz r q c.ae[k] s.Words _ (N.words.ext f) Y hS hP ht) λv w5 zk za=>?_;obtain⟨f,p,d⟩:=aY zk f p d;rw[eS,eP]at za;rcases za with⟨zl,A5,c5,hC,rfl,_,_⟩|⟨zm,rfl⟩
     ·repeat'(first|refine Wz ?_|(refine CW.bo Z ?_))
      exact ah.again (k+1) ⟨Z,Z,Z,Z,Z,Z,trivial⟩ Y ⟨by omega,f,p,d,λi h h'=>by
       by_cases ei:i=k
       ·subst ei;exact⟨by omega,I,⟨zl,hC⟩⟩
       exact P i h Y⟩
     rw[iR λD=>(D.av k B).chain.elim zm];repeat'(first|refine Wz ?_|(refine CW.bQ Z ?_))
     exact ah.aF Z Z ⟨_,Z,f,Z⟩
   have J:0<k:=by
    rcases Ps k with h|h
    ·exact absurd (λh'=>by omega) I
    exact h
   have zn:¬(c.ae[k-1]'Y).At<c.ae[k].At:=λh=>I λ_=>h;have gP:=A.av.dp (show k-1<q.ae.n by omega) (j:=0) (u:=Iv (c.ae[k-1]'Y).At) Z;rw[iR λD=>zn ((D.av k B).next J)];repeat'(first|refine Wz ?_|refine fq ?_|refine SW.want Z Z ?_|refine SW.st (aU (k-1) Z Z ig Y Y) Z ?_|refine Wn f gO ?_|refine Wn f gP ?_|(refine SW.br λG l=>?_;obtain⟨f,p,d,t⟩:=cG l f p d t))
   all_goals try omega
   exact ah.aF Z Z ⟨_,Z,f,Z⟩
  rw[iR λD=>X (by have:=(D.av k B).live;omega)];repeat'(first|refine Wz ?_|refine fq ?_|refine SW.want Z Z ?_|refine Wn f gO ?_|(refine SW.br λG l=>?_;obtain⟨f,p,d,t⟩:=cG l f p d t))
  all_goals try omega
  exact ah.aF Z Z ⟨_,Z,f,Z⟩
 have zb:∀(i:Nat)(h:i<c.ae.length),pi s c i h:=λi h=>P i h Y;refine Wz ?_
 refine CW.loop (λk:Nat=>[(3,Pt b3),(109,.slice q.ao.A q.ao.n q.ao.c),(110,Iv (q.ao.n:Int)),(111,Iv (k:Int))])
  (λk y=>k<=q.ao.n∧Ext w y∧ay y b3 58 (cr q)∧∀(i:Nat)(h:i<c.ao.length),i<k->qs c i h) (λk=>q.ao.n-k) 0
  ⟨Z,Z,Z,Z,trivial⟩ ⟨by omega,f,d,λi h h'=>by omega⟩ ?_
 rintro k y ⟨hk,f,d,P⟩;have hA:=A.aD.base;by_cases H:k<q.ao.n
 ·have B:k<c.ao.length:=Y;obtain⟨a,ea⟩:=bq (c.ao[k]);have gA:=A.aD.one H (u:=Iv a) (by rw[<-ea];rfl);by_cases ha:a= -1
  ·repeat'(first|refine Wz ?_|refine Wn f gA ?_)
   exact ah.again (k+1) ⟨Z,Z,Z,Z,trivial⟩ Y ⟨by omega,f,d,λi h h'=>by
    by_cases ei:i=k
    ·subst ei;exact .inl Y
    exact P i h Y⟩
  have cN:∀y,Ext w y->aS prog 172 [.slice q.ao.A k q.ao.c,Iv a] y λv _=>v= .bool (decide (a∈c.ao.take k)):=λy hx=>hU _ _ _ _ _ _ ((A.aD.ext hx).pre (show k<=q.ao.n by omega)) Y;obtain⟨z,hz⟩:=bq (idxOf (sq a) c.ae);have K:=iN (sq a) c.ae;rw[hz]at K
  have cF:∀y,Ext w y->aS prog 199 [.agg (cr q).toArray,Iv a] y λv _=>v=Iv z:=λy hx=>by
   have:=D7 q c.ae a y (A.av.ext hx) Y;rwa[hz]at this
  have F:(a∈c.ao.take k∨¬0<=z)->lh s c=false:=λh=>iR λD=>by
   rcases D.ns k B with g|⟨g1,g2⟩
   ·omega
   rw[ea]at g1 g2;rcases h with h|h
   ·exact g1 h
   rw[g2]at K;exact h (of_decide_eq_true K)
  by_cases C:a∈c.ao.take k
  ·rw[decide_eq_true C]at cN;rw[F (.inl C)];repeat'(first|refine Wz ?_|refine Wn f gA ?_|(refine Wc (cN _ f) λG l=>?_;obtain⟨f,d⟩:=bk l f d)|(refine SW.st (gl (k:=k) Z Z Y) Z ?_))
   all_goals try omega
   exact ah.aF Z Z ⟨_,Z,f,Z⟩
  rw[decide_eq_false C]at cN;by_cases zc:0<=z
  ·repeat'(first|refine Wz ?_|refine Wn f gA ?_|((first|refine Wk (cN _ f) ?_|refine Wk (cF _ f) ?_);intro v G l Q;subst Q;obtain⟨f,d⟩:=bk l f d)|(refine SW.st (gl (k:=k) Z Z Y) Z ?_))
   all_goals try omega
   exact ah.again (k+1) ⟨Z,Z,Z,Z,trivial⟩ Y ⟨by omega,f,d,λi h h'=>by
    by_cases ei:i=k
    ·subst ei;exact .inr ⟨by rw[ea];exact C,by rw[ea,<-K];exact decide_eq_true zc⟩
    exact P i h Y⟩
  rw[F (.inr zc)];repeat'(first|refine Wz ?_|refine Wn f gA ?_|((first|refine Wk (cN _ f) ?_|refine Wk (cF _ f) ?_);intro v G l Q;subst Q;obtain⟨f,d⟩:=bk l f d)|(refine SW.st (gl (k:=k) Z Z Y) Z ?_))
  all_goals try omega
  exact ah.aF Z Z ⟨_,Z,f,Z⟩
 rw[qt ⟨T,h4,h5,zb,λi h=>P i h Y⟩];refine Wz ?_;exact ah.aF Z Z ⟨_,Z,f,Z⟩
theorem nT(A:Option Addr)(n c:Nat)(l:List Block)(x:Block)(w:World)(D:Sl w 3 aL A n l)(L:(n+1)*24<=140737488355328):
 aS prog 108 [.slice A n c,.agg (aL x).toArray] w λv G=>∃B c',v= .slice B (n+1) c'∧Own G w.heap.size 129 3 aL B (n+1) c' (aP l (JO l x.At) x):=by
 refine Wj func108 ntmps108 ?_;refine Ww λE F d H a=>?_;have q:=H;have u:∀m,m<=n->(m+1)*24<=140737488355328:=λm h=>Pj (PC 24 (Nat.succ_le_succ h)) L;have L:n<=1000000000000000000:=by have:=u n (Ph _);omega
 have hA:=D.base;have R:=D.len;obtain⟨g,z⟩:=bq (JO l x.At);have S:g<=l.length:=by rw[<-z];exact List.findIdx_le_length
 have M:∀h:g<l.length,x.At<l[g].At:=λh=>by
  subst z;have:=List.findIdx_getElem (w:=h);exact of_decide_eq_true this
 have N:∀(j:Nat)(h:j<g),(l[j]'Y).At<=x.At:=λj h=>by
  subst z;have:=List.not_of_lt_findIdx h;simpa using this
 rw[z];refine Wz ?_
 refine CW.loop (λs:Nat×Option Addr×Nat=>[(0,.slice A n c),(3,Pt E),(5,.slice s.2.1 (if g<s.1 then s.1+1 else s.1) s.2.2),(6,.bool (decide (g<s.1))),(7,Iv (s.1:Int))])
  (λs G=>s.1<=n∧Ext w G∧ay G E 129 (aL x)∧Own G (E+1) 129 3 aL s.2.1 (if g<s.1 then s.1+1 else s.1) s.2.2 (if g<s.1 then aP (l.take s.1) (g) x else l.take s.1)) (λs=>n-s.1) (0,none,0)
  ⟨Z,Z,Z,Z,Z,trivial⟩ ⟨by omega,d,a,by simpa using Own.cq _ _ _ _ _ _⟩ ?_
 rintro⟨k,B,c'⟩ G ⟨T,d,a,f⟩;simp only at T f⊢;have U:E+1<=G.heap.size:=a.lt;by_cases y:k<n
 ·have I:=D.lt y;have O:=Pk I;by_cases r:g<k
  ·rw[if_pos r,if_pos r]at f;rw[if_pos r,decide_eq_true r];repeat'(first|refine Wz ?_|refine fq ?_|refine SW.skip Z Z Z Z ?_|refine Wo d ((D.all y)) ?_|(refine SW.br λF t=>?_;obtain⟨d,a,f⟩:=aY t d a f))
   refine SW.bz Z Z Z Z Z λb F p hb C=>?_;obtain⟨d,a,f⟩:=aY p d a f;refine SW.append f (ay.la (enc:=aL) C) (by have:=a.lt;omega) Z Z Z (u _ Y) Y λJ c2 P o i=>?_;have d:=au d i (Pj q (PW _)) f.az;have a:=a.grown i (λe=>by have:=f.az E e.symm;omega);refine Wz ?_;refine ah.again (k+1,J,c2) ⟨Z,Z,by simp only;rw[if_pos (show g<k+1 by omega)];rfl,by simp only;rw[decide_eq_true (show g<k+1 by omega)];rfl,Z,trivial⟩ dD ⟨by simp only;omega,d,a,?_⟩;simp only;rw[if_pos Y,if_pos Y]
   have e:aP (l.take (k+1)) (g) x=aP (l.take k) (g) x++[l[k]]:=by
    unfold aP;rw[O,PQ (by simp;omega),QS (by simp;omega)];simp only[List.append_assoc]
   rw[e];exact o
  rw[if_neg r,if_neg r]at f;rw[if_neg r,decide_eq_false r];by_cases K:g=k
  ·have V:x.At<l[k].At:=by subst K;exact M I
   repeat'(first|refine Wz ?_|refine fq ?_|refine SW.want Z Z ?_|refine Wn d (D.dp y Z) ?_|(refine SW.br λF t=>?_;obtain⟨d,a,f⟩:=aY t d a f))
   refine SW.bz Z Z Z Z Z λb F p hb C=>?_;obtain⟨d,a,f⟩:=aY p d a f;refine SW.append f (ay.la (enc:=aL) C) (by have:=a.lt;omega) Z Z Z (u _ Y) Y λJ c2 P o i=>?_;have d:=au d i (Pj q (PW _)) f.az;have a:=a.grown i (λe=>by have:=f.az E e.symm;omega);repeat'(first|refine Wz ?_|refine Wo d ((D.all y)) ?_)
   refine SW.bz Z Z Z Z Z λb F p hb C=>?_;obtain⟨d,a,o⟩:=aY p d a o;refine SW.append o (ay.la (enc:=aL) C) (by have:=a.lt;omega) Z Z Z (u _ Y) Y λW X w3 Q i=>?_;have d:=au d i (Pj q (PW _)) o.az;have a:=a.grown i (λe=>by have:=o.az E e.symm;omega);refine Wz ?_;refine ah.again (k+1,W,X) ⟨Z,Z,by simp only;rw[if_pos (show g<k+1 by omega)];rfl,by simp only;rw[decide_eq_true (show g<k+1 by omega)];rfl,Z,trivial⟩ dD ⟨by simp only;omega,d,a,?_⟩;simp only;rw[if_pos Y,if_pos Y]
   have e:aP (l.take (k+1)) (g) x=l.take k++[x]++[l[k]]:=by
    unfold aP;rw[K,O,PQ (by simp;omega),QS (by simp;omega),Pl (by simp;omega),QA (by simp;omega)];simp
   rw[e];exact Q
  have za:l[k].At<=x.At:=N k Y;repeat'(first|refine Wz ?_|refine fq ?_|refine SW.want Z Z ?_|refine Wo d ((D.all y)) ?_|refine Wn d (D.dp y Z) ?_|(refine SW.br λF t=>?_;obtain⟨d,a,f⟩:=aY t d a f))
  refine SW.bz Z Z Z Z Z λb F p hb C=>?_;obtain⟨d,a,f⟩:=aY p d a f;refine SW.append f (ay.la (enc:=aL) C) (by have:=a.lt;omega) Z Z Z (u _ Y) Y λJ c2 P o i=>?_;have d:=au d i (Pj q (PW _)) f.az;have a:=a.grown i (λe=>by have:=f.az E e.symm;omega);refine Wz ?_;refine ah.again (k+1,J,c2) ⟨Z,Z,by simp only;rw[if_neg (show¬g<k+1 by omega)];rfl,by simp only;rw[decide_eq_false (show¬g<k+1 by omega)];rfl,Z,trivial⟩ dD ⟨by simp only;omega,d,a,?_⟩;simp only;rw[if_neg Y,if_neg Y,O];exact o
 obtain rfl:k=n:=Y;rw[Pl Y]at f;by_cases r:g<k
 ·rw[if_pos r,if_pos r]at f;rw[if_pos r,decide_eq_true r];repeat'(first|refine Wz ?_|(refine CW.bo Z ?_))
  exact ah.aF Z Z ⟨_,Z,d,_,_,Z,f.low Y⟩
 rw[if_neg r,if_neg r]at f;rw[if_neg r,decide_eq_false r];repeat'(first|refine Wz ?_|(refine CW.bQ Z ?_))
 refine SW.bz Z Z Z Z Z λb F p hb C=>?_;obtain⟨d,a,f⟩:=aY p d a f;refine SW.append f (ay.la (enc:=aL) C) (by have:=a.lt;omega) Z Z Z (u _ Y) Y λJ c2 P o i=>?_;have d:=au d i (Pj q (PW _)) f.az;refine Wz ?_;refine ah.aF Z Z ⟨_,Z,d,_,_,Z,?_⟩
 have e:aP l (g) x=l++[x]:=by
  unfold aP;rw[Pl Y,QA Y];simp
 rw[e];exact o.low Y
theorem HL(a o:Int)(h:Nat)(x:Block)(w:World)(f:ay w h 129 (aL ⟨a,o,0⟩))(l:0<=o∧o<=4)(m:0<=a∧a<=256)(n:0<=x.At∧x.At<=256)(p:0<=x.Order∧x.Order<=4):
 aS prog 196 ([.agg (aL x).toArray]++[Pt h]) w λv _=>v= .bool (decide (x.At<a+pw o) && decide (a<x.At+pw x.Order)):=by
 refine Wj func196 ntmps196 ?_;refine Ww λq g d i c=>?_;have f:=f.ext d;have j:∀e,aS prog 195 [.agg (aL ⟨a,o,0⟩).toArray] e λv _=>v=Iv (a+pw o):=λe=>ol ⟨a,o,0⟩ e l m;have c2:∀e,aS prog 195 [.agg (aL x).toArray] e λv _=>v=Iv (x.At+pw x.Order):=λe=>ol x e p n;by_cases k:x.At<a+pw o
 ·repeat'(first|refine Wz ?_|refine fq ?_|refine SW.ba Z Z (λg b=>(j _)) ?_|refine SW.ba Z Z (λg b=>(c2 _)) ?_|(refine SW.br λg b=>?_;obtain⟨d,c,f⟩:=aY b d c f))
  exact ah.aF Z Z ⟨_,Z,d,by simp[k]⟩
 repeat'(first|refine Wz ?_|refine fq ?_|refine SW.ba Z Z (λg b=>(j _)) ?_|(refine SW.br λg b=>?_;obtain⟨d,c,f⟩:=aY b d c f))
 exact ah.aF Z Z ⟨_,Z,d,by simp[k]⟩
theorem o6(r:cM)(z:ap)(w:World)(l:vD w r z)(u:r.ai.n*24<=140737488355328)(x:r.Types.n*8<=140737488355328):
 aS prog 181 [.agg (bu r).toArray] w λv y=>∃s,v= .agg (bu s).toArray∧fv y w.heap.size s z:=by
 refine Wj func181 ntmps181 ?_;refine Ww λb A c hb f=>?_;refine SW.alloc Z λD E m i d=>?_;have p:=c.up i;obtain⟨c,f⟩:=bk m c f;refine Wz ?_;refine CW.any 10 mixed (cy bm) Z λA j B=>?_;obtain⟨c,f,d⟩:=aY j c f d;refine Wa ?_;refine SA.bD 6 ?_;refine Wk (oW _ _ _ _ _ (l.free.ext c) u) λv C e n=>?_;obtain⟨X,q,rfl,h⟩:=n;have h:=h.low c.size;obtain⟨c,f,d⟩:=aY e c f d;refine SW.nil (ah.sa e ?_);refine SA.bD 9 ?_;refine Wk (iM _ _ _ _ _ (l.types.ext c) x) λv C e n=>?_;obtain⟨a,t,rfl,k⟩:=n;have k:=k.low c.size;obtain⟨c,f,d,h⟩:=cG e c f d h;refine SW.nil (ah.sa e ?_);refine SA.fH ?_;refine Wz ?_;refine Wh d (ck ⟨r.aE,r.To,⟨X,r.ai.n,q⟩,⟨a,r.Types.n,t⟩⟩) λF g o=>?_;obtain⟨c,h,k⟩:=aY g c h k;refine Wz ?_;exact ah.nu Z Z o Z ⟨_,Z,c,⟨r.aE,r.To,⟨X,r.ai.n,q⟩,⟨a,r.Types.n,t⟩⟩,Z,⟨l.from_,l.kW,h,k⟩⟩
variable {a':Int} {z:ap}
structure Fw(z:ap)(a o:Int)(f:Nat)(l:List Block)(a' o':Int):Prop where
 ok:AO z.aE z.To l a' o'
 eq:iO 5 z.ai a o=iO f l a' o'
 fuel:5<=(f:Int)+o'
 len:l.length<=z.ai.length
theorem Fw.stop{f:Nat}{b:Int}(h:Fw z a o f l a' b)(c:¬b<4∨l.any (r9 (beside a' b) b)=false):iO 5 z.ai a o=(l,a',b):=by
 rw[h.eq];cases f with
 | zero=>rfl
 | succ f=>
   simp only[iO];grind
theorem Fw.next{f:Nat}{b:Int}(h:Fw z a o f l a' b)(d:0<=z.aE)(e:b<4)(c:l.any (r9 (beside a' b) b)=true):∃i,Fw z a o i (bJ l (beside a' b) b) (min a' (beside a' b)) (b+1):=by
 have j:=h.fuel;obtain⟨g,rfl⟩:∃g,f=g+1:=⟨f-1,by omega⟩;refine⟨g,h.ok.step d e c,?_,by omega,Pj (Ql _ _) h.len⟩;rw[h.eq]
 simp_all[iO]
theorem oq(r:cM)(z:ap)(a o:Int)(w:World)(hr:vD w r z)(hf:(r.ai.n+1)*24<=140737488355328)(ht:r.Types.n*8<=140737488355328)(h1: -9223372036854775808<=r.aE∧r.aE<=9223372036854775807)(h2: -9223372036854775808<=r.To∧r.To<=9223372036854775807):
 aS prog 128 [.agg (bu r).toArray,Iv a,Iv o] w (oY w.heap.size (eX z a o)):=by
 refine Wj func128 ntmps128 ?_;refine Ww λb3 C n zk j=>?_;refine SW.alloc Z λb6 w2 zr zl b=>?_;have zF:=n.up zl;have ze:b3≠b6:=by have:=j.lt;omega
 obtain⟨n,j⟩:=bk zr n j;have eF:=hr.from_;have eT:=hr.kW;have zs:=hr.free.len;have zG:=hr.types.len;obtain⟨q,hq⟩:=bq (dZ z)
 have c1:∀D,Ext w D->aS prog 127 [.agg (bu r).toArray] D λv _=>v=Iv (if q then 0 else 8):=λD h=>by
  have:=km r z D (hr.ext h) Y Y h1 h2;rwa[hq]at this
 cases q
 ·simp only[Bool.false_eq_true,if_false]at c1;rw[rc hq];repeat'(first|refine Wz ?_|(refine Wc (c1 _ n) λC m=>?_;obtain⟨n,j,b⟩:=aY m n j b))
  refine Wh b (ck .zero) λw5 g U=>?_;have n:=jc g n;refine Wz ?_;exact ah.a9 Z Z Z U Z ⟨_,Z,n,.zero,Z,fv.zero _ _⟩
 simp only[if_true]at c1;have hz:=dj.1 hq;obtain⟨o1,o2,o3,o4,o5⟩:=hz.ok;repeat'(first|refine Wz ?_|(refine Wc (c1 _ n) λC m=>?_;obtain⟨n,j,b⟩:=aY m n j b))
 refine Wr (gG.one (enc:=aL) ⟨a,o,0⟩) λN w2 zb zm d=>?_;have Q:=n.up zm;obtain⟨n,j,b⟩:=aY zb n j b
 have cF:∀D,aS prog 194 [.agg (bu r).toArray,.agg (aL ⟨a,o,0⟩).toArray] D λv _=>v= .bool (decide (gL z.aE z.To a o)):=λD=>by
  have:=rb r ⟨a,o,0⟩ D Y;rwa[eF,eT]at this
 by_cases J:gL z.aE z.To a o
 ·rw[decide_eq_true J]at cF;obtain⟨f1,f2,f3,f4,f5⟩:=id J
  have cC:∀D,Ext w D->ay D N 129 (aL ⟨a,o,0⟩)->aS prog 175 [.slice r.ai.A r.ai.n r.ai.c,.func (.func 196) #[] [Pt N].toArray] D λv _=>v= .bool (gQ z.ai a o):=λD hx h9=>
   k6 _ _ _ _ _ (hr.free.ext hx) _ [Pt N] (λx=>decide (x.At<a+pw o) && decide (a<x.At+pw x.Order)) (λx=> .agg (aL x).toArray) (λx=>Z)
    (λx zt C zu=>by
      obtain⟨i,hi,rfl⟩:=Pg zt;obtain⟨g1,g2,g3,g4,g5⟩:=(hz.dm i hi).1;exact HL a o N _ C (h9.ext zu) ⟨f1,f2⟩ ⟨by omega,by omega⟩ ⟨by omega,by omega⟩ ⟨g1,g2⟩) Y
  cases X:gQ z.ai a o
  ·rw[X]at cC;have zf:=sS (f:=0) (t:=0) hz J X;repeat'(first|refine Wz ?_|(refine CW.bo Z ?_)|((first|refine Wk (cF _) ?_|refine Wk (cC _ n d) ?_);intro v C m hv;subst hv;obtain⟨n,j,b,d⟩:=cG m n j b d)|(refine SW.st (gH (vs:=[Pt N]) Z) Z ?_))
   have zd:N+1<=_:=d.lt;refine Wk (ra r z _ (hr.ext n) Y ht) λv w4 zv hv=>?_;obtain⟨s,rfl,hs,e1,e2⟩:=hv;have hs:=hs.low zd;obtain⟨n,j,b,d⟩:=cG zv n j b d;skip;refine Wg j (ck s) λw5 R E=>?_;have O:=j.gr E;have n:=n.own zk E;(have d:=d.aQ O Z);have y:=hs.free.aQ O Z;have B:=hs.types.aQ O Z;have b:=b.grown E (by simpa using ze.symm);have j:=R;have es:s.ai.n=z.ai.length:=by rw[e1,zs]
   have zw:s=⟨s.aE,s.To,⟨s.ai.A,z.ai.length,s.ai.c⟩,s.Types⟩:=by rw[<-es]
   have sF:=hs.from_;have sT:=hs.kW;rw[es]at y;rw[zw]at j;refine Wz ?_
   obtain⟨K,hK⟩:∃K:Env->World->Prop,K=λL' D=>∃l P F A c,eA L' [(3,Pt b3),(6,Pt b6),(9,Pt N)]∧Ext w D∧ay D b3 98 [Iv s.aE,Iv s.To,.slice A l.length c,.slice s.Types.A s.Types.n s.Types.c]∧ay D b6 98 (bu .zero)∧ay D N 129 [Iv P,Iv F,Iv 0]∧
    Own D (N+1) 129 3 aL A l.length c l∧Own D (N+1) 3 1 aT s.Types.A s.Types.n s.Types.c z.Types∧AO z.aE z.To l P F∧iO 5 z.ai a o=(l,P,F)∧l.length<=z.ai.length:=⟨_,Z⟩
   refine CW.vE K ?_ ?_
   ·refine CW.loop (λu:Nat×List Block×Int×Int×Option Addr×Nat=>[(3,Pt b3),(6,Pt b6),(9,Pt N)])
     (λu D=>Ext w D∧ay D b3 98 [Iv s.aE,Iv s.To,.slice u.2.2.2.2.1 u.2.1.length u.2.2.2.2.2,.slice s.Types.A s.Types.n s.Types.c]∧ay D b6 98 (bu .zero)∧ay D N 129 [Iv u.2.2.1,Iv u.2.2.2.1,Iv 0]∧
       Own D (N+1) 129 3 aL u.2.2.2.2.1 u.2.1.length u.2.2.2.2.2 u.2.1∧Own D (N+1) 3 1 aT s.Types.A s.Types.n s.Types.c z.Types∧Fw z a o u.1 u.2.1 u.2.2.1 u.2.2.2.1) (λu=>(5-u.2.2.2.1).toNat) (5,z.ai,a,o,s.ai.A,s.ai.c)
     ⟨Z,Z,Z,trivial⟩ ⟨n,j,b,d,y,B,⟨zf,Z,by simp only;omega,Ph _⟩⟩ ?_
    rintro⟨f,l,P,F,A,c⟩ D ⟨n,j,b,d,y,B,M⟩;simp only at j d y M⊢;obtain⟨k1,k2,k3,k4,k5⟩:=M.ok.fit;have zn:=M.len;have hp:=bP k1 k2;by_cases V:F<4
    ·obtain⟨m1,m2,m3⟩:=sb Y k1 V k5;generalize G:beside P F=p at m1 m2 m3;have zc:=HI M.ok.pN M.ok.dm p F
     have cD:∀C,Ext D C->aS prog 197 [.agg (bu ⟨s.aE,s.To,⟨A,l.length,c⟩,s.Types⟩).toArray,Iv p] C λv _=>v= .tuple #[Iv (bB l p:Int),.bool (bx l p)]:=λC hx=>
      ue ⟨s.aE,s.To,⟨A,l.length,c⟩,s.Types⟩ l z.aE z.To p C (y.sl.ext hx) M.ok.pN M.ok.dm o1 Y dD ⟨by omega,by omega⟩
     by_cases I:bB l p<l.length∧(∀h:bB l p<l.length,(l[bB l p]).At=p∧(l[bB l p]).Order=F)
     ·obtain⟨I,hh⟩:=I;obtain⟨S,za⟩:=hh I;have W:bx l p=true:=by unfold bx;rw[dif_pos I];exact decide_eq_true S
      have zg:ub l p F=true:=by unfold ub;rw[dif_pos I];exact decide_eq_true ⟨S,za⟩
      rw[zg]at zc;rw[W]at cD;have zx:=rM M.ok.pN M.ok.dm I S za;have hA:=y.sl.base;generalize zh:bB l p=lb at*;have zH:∀x,x=beside P F->x=p:=λx e=>e.trans G;refine Wz ?_;(apply CW.dF mixed;(·kernel_rfl);rotate_left;intro C m;obtain⟨n,j,b,d,y,B⟩:=fi m n j b d y B;rotate_right);repeat'(first|refine Wz ?_|refine SW.ba Z Z (λC m=>(cD _ m)) ?_|(refine SW.st (fO (r:=pw F) Z Z Y Y (by simp[pw]) Y Y) Z ?_)|(refine SW.st ((mz P F Z Z Z Z ⟨by omega,by omega,k1,V,k5⟩).eq (congrArg (Value.int .i64) G)) Z ?_)|exact SW.br Z)
      (apply CW.dF mixed;(·kernel_rfl);rotate_left;intro C m;obtain⟨n,j,b,d,y,B⟩:=fi m n j b d y B;rotate_right);repeat'(first|refine Wz ?_|refine SW.want Z Z ?_|refine Wl (y.sl.dp I Z) ?_|exact SW.br Z)
      refine CW.any 8 mixed (cy bm) Z λC m zy=>?_;obtain⟨n,j,b,d,y,B⟩:=fi m n j b d y B;refine Wa ?_;refine Wu 7 zy Z (aJ Z (y.sl.dp I Z)) ?_;refine SA.fH ?_;repeat'(first|refine Wz ?_|(refine SW.st (Cx Z Z) Z ?_))
      refine Wb (i:=0) d λw5 H E=>?_;have O:=d.gr E;have n:=n.own Q E;have y:=y.grown E (.inr (λe=>by have:=y.az _ e;omega));obtain⟨j,b,B⟩:=aY O j b B;have d:=H;refine Wz ?_;refine Wb (i:=1) d λw5 H E=>?_;have O:=d.gr E;have n:=n.own Q E;have y:=y.grown E (.inr (λe=>by have:=y.az _ e;omega));obtain⟨j,b,B⟩:=aY O j b B;have d:=H;refine Wz ?_;refine SW.cm Z Z (oZ dB A l.length c _ l _ y lb I Y (by have:=d.lt;omega)) λv w6 hv=>?_;obtain⟨rfl,L,E⟩:=hv;have O:=y.gr E;have n:=au n E (Pj Q (PW _)) y.az;have d:=d.grown E (λe=>by have:=y.az _ e.symm;omega);obtain⟨j,b,B⟩:=aY O j b B;have T:l.length-1=(l.eraseIdx lb).length:=by rw[P9 I]
      rw[T]at L;rw[T];refine Wz ?_;refine We (i:=2) j λw7 g R=>?_;obtain⟨n,b,d,L,B⟩:=dz g n b d L B;refine Wz ?_;obtain⟨f',zo⟩:=M.next o1 V (by rw[G];exact zc)
      rw[G,<-zx]at zo;refine ah.again (f',l.eraseIdx lb,min P p,F+1,A,c) ⟨Z,Z,Z,trivial⟩ dD ⟨n,R,b,?_,L,B,zo⟩;rw[S]at d;exact d
     have zg:ub l p F=false:=by
      unfold ub;by_cases h:bB l p<l.length
      ·rw[dif_pos h];exact decide_eq_false (λhh=>I ⟨h,λ_=>hh⟩)
      rw[dif_neg h]
     rw[zg]at zc;have zz:=M.stop (.inr (by rw[G];exact zc))
     have zi:∀C,Ext w C->ay C b3 98 [Iv s.aE,Iv s.To,.slice A l.length c,.slice s.Types.A s.Types.n s.Types.c]->ay C b6 98 (bu .zero)->ay C N 129 [Iv P,Iv F,Iv 0]->Own C (N+1) 129 3 aL A l.length c l->Own C (N+1) 3 1 aT s.Types.A s.Types.n s.Types.c z.Types->∀L',eA L' [(3,Pt b3),(6,Pt b6),(9,Pt N)]->K L' C:=λC x1 x2 x3 x4 x5 x6 L' x7=>by
      rw[hK];exact⟨l,P,F,A,c,x7,x1,x2,x3,x4,x5,x6,M.ok,zz,M.len⟩
     by_cases T:bB l p<l.length
     ·have hA:=y.sl.base;by_cases S:(l[bB l p]).At=p
      ·have za:¬(l[bB l p]).Order=F:=λh=>I ⟨T,λ_=>⟨S,h⟩⟩;have W:bx l p=true:=by unfold bx;rw[dif_pos T];exact decide_eq_true S
       rw[W]at cD;generalize zh:bB l p=lb at*;repeat'(first|refine Wz ?_|refine fq ?_|refine SW.want Z Z ?_|refine Wl (y.sl.dp T Z) ?_|refine SW.ba Z Z (λC m=>(cD _ m)) ?_|(refine SW.st (fO (r:=pw F) Z Z Y Y (by simp[pw]) Y Y) Z ?_)|(refine SW.st ((mz P F Z Z Z Z ⟨by omega,by omega,k1,V,k5⟩).eq (congrArg (Value.int .i64) G)) Z ?_)|(refine SW.br λC m=>?_;obtain⟨n,j,b,d,y,B⟩:=fi m n j b d y B))
       exact ah.fW (K:=K) (zi _ n j b d y B _ ⟨Z,Z,Z,trivial⟩)
      have W:bx l p=false:=by unfold bx;rw[dif_pos T];exact decide_eq_false S
      rw[W]at cD;generalize zh:bB l p=lb at*;repeat'(first|refine Wz ?_|refine fq ?_|refine SW.skip Z Z Z Z ?_|refine SW.ba Z Z (λC m=>(cD _ m)) ?_|(refine SW.st (fO (r:=pw F) Z Z Y Y (by simp[pw]) Y Y) Z ?_)|(refine SW.st ((mz P F Z Z Z Z ⟨by omega,by omega,k1,V,k5⟩).eq (congrArg (Value.int .i64) G)) Z ?_)|(refine SW.br λC m=>?_;obtain⟨n,j,b,d,y,B⟩:=fi m n j b d y B))
      exact ah.fW (K:=K) (zi _ n j b d y B _ ⟨Z,Z,Z,trivial⟩)
     have W:bx l p=false:=by unfold bx;rw[dif_neg T]
     rw[W]at cD;generalize zh:bB l p=lb at*;repeat'(first|refine Wz ?_|refine fq ?_|refine SW.skip Z Z Z Z ?_|refine SW.ba Z Z (λC m=>(cD _ m)) ?_|(refine SW.st (fO (r:=pw F) Z Z Y Y (by simp[pw]) Y Y) Z ?_)|(refine SW.st ((mz P F Z Z Z Z ⟨by omega,by omega,k1,V,k5⟩).eq (congrArg (Value.int .i64) G)) Z ?_)|(refine SW.br λC m=>?_;obtain⟨n,j,b,d,y,B⟩:=fi m n j b d y B))
     exact ah.fW (K:=K) (zi _ n j b d y B _ ⟨Z,Z,Z,trivial⟩)
    refine Wz ?_;exact ah.fW (K:=K) (by rw[hK];exact⟨l,P,F,A,c,⟨Z,Z,Z,trivial⟩,n,j,b,d,y,B,M.ok,M.stop (.inl V),M.len⟩)
   subst hK;rintro L' D ⟨l,P,F,A,c,zp,n,j,b,d,y,B,M,zj,zn⟩;refine ah.sub zp ?_;obtain⟨k1,k2,k3,k4,k5⟩:=M.fit;obtain⟨k,hk,zA⟩:=vV hz k3 k4;have zB:k<s.Types.n:=Y;have zC:=sW hq J X zj (t:=z.Types[k]) (by rw[hk];simp[List.getD_eq_getElem?_getD,List.getElem?_eq_getElem zA]);rw[zC];have zq:l.length<=1000000000000000000:=Y;have hA:=B.sl.base;have zI:s.aE=z.aE:=sF;repeat'(first|refine Wz ?_|refine SW.st (aU (k) Z Z ig Y Y) Z ?_|refine Wl (B.sl.one zB Z) ?_)
   refine Wb (i:=2) d λw5 H E=>?_;have O:=d.gr E;have n:=n.own Q E;have y:=y.grown E (.inr (λe=>by have:=y.az _ e;omega));obtain⟨j,b,B⟩:=aY O j b B;have d:=H;repeat'(first|refine Wz ?_|(refine Wc (ue ⟨s.aE,s.To,⟨A,l.length,c⟩,s.Types⟩ l z.aE z.To P _ y.sl M.pN M.dm o1 Y zq ⟨by omega,by omega⟩) λC m=>?_;obtain⟨n,j,b,d,y,B⟩:=fi m n j b d y B))
   have zD:=y.lt_size;refine SW.bz Z Z Z Z Z λvb w6 zb zJ zE=>?_;obtain⟨n,j,b,d,y,B⟩:=fi zb n j b d y B;skip;refine SW.cm Z Z (nC iB A l.length c _ l _ y (bB l P) (DC l P) ⟨P,F,z.Types[k]⟩ vb zE (λe=>by have:=zD _ e;omega) (Pj (PC 24 Y) hf) (by have:=d.lt;omega)) λv w7 hv=>?_;obtain⟨A2,c2,rfl,L,E,_⟩:=hv;have O:=y.gr E;have n:=au n E (Pj Q (PW _)) y.az;have d:=d.grown E (λe=>by have:=y.az _ e.symm;omega);obtain⟨j,b,B⟩:=aY O j b B;refine Wz ?_;refine We (i:=2) j λw8 g R=>?_;obtain⟨n,b,d,L,B⟩:=dz g n b d L B;refine Wz ?_;refine Wh b (ck ⟨s.aE,s.To,⟨A2,l.length+1,c2⟩,s.Types⟩) λw9 g U=>?_;obtain⟨n,L,B⟩:=aY g n L B;refine Wz ?_;exact ah.a9 Z Z Z U Z ⟨_,Z,n,⟨s.aE,s.To,⟨A2,l.length+1,c2⟩,s.Types⟩,Z,sF,sT,L.low Y,B.low Y⟩
  rw[X]at cC;rw[vX hq J X];repeat'(first|refine Wz ?_|(refine CW.bo Z ?_)|((first|refine Wk (cF _) ?_|refine Wk (cC _ n d) ?_);intro v C m hv;subst hv;obtain⟨n,j,b,d⟩:=cG m n j b d)|(refine SW.st (gH (vs:=[Pt N]) Z) Z ?_))
  refine Wh b (ck .zero) λw5 g U=>?_;have n:=jc g n;refine Wz ?_;exact ah.a9 Z Z Z U Z ⟨_,Z,n,.zero,Z,fv.zero _ _⟩
 rw[decide_eq_false J]at cF;rw[sV hq J];repeat'(first|refine Wz ?_|(refine CW.bQ Z ?_)|(refine Wc (cF _) λC m=>?_;obtain⟨n,j,b,d⟩:=cG m n j b d))
 refine Wh b (ck .zero) λw5 g U=>?_;have n:=jc g n;refine Wz ?_;exact ah.a9 Z Z Z U Z ⟨_,Z,n,.zero,Z,fv.zero _ _⟩
variable {lo:Nat}
theorem rP(r:fB)(l:List Block)(a:Int)(w:World)(f:Sl w 3 aL r.Live.A r.Live.n l)(z:l.Pairwise λx y=>x.At<y.At)(E:r.Live.n<=1000000000000000000):
 aS prog 111 [.agg (bg r).toArray,Iv a] w λv _=>v=Iv (lU l a):=by
 refine Wj func111 ntmps111 ?_;refine Ww λn F b o c=>?_;have A:=f.len;refine Wz ?_
 refine CW.loop (λk:Nat=>[(1,Iv a),(2,Pt n),(5,Iv (k:Int))]) (λk g=>k<=r.Live.n∧Ext w g∧ay g n 34 (bg r)∧∀(i:Nat)(h:i<l.length),i<k->l[i].At≠a) (λk=>r.Live.n-k) 0
  ⟨Z,Z,Z,trivial⟩ ⟨by omega,b,c,λi h h'=>by omega⟩ ?_
 rintro k g ⟨G,b,c,p⟩;have H:=f.base;by_cases d:k<r.Live.n
 ·have m:k<l.length:=Y;have q:=f.dp d (j:=0) (u:=Iv l[k].At) Z;have B:=f.dp d (j:=1) (u:=Iv l[k].Order) Z;by_cases s:l[k].At=a
  ·obtain⟨C,D⟩:=lg z m s;have t:=ur D Y;simp only[C]at t;rw[t];repeat'(first|refine Wz ?_|refine Wn b q ?_|refine Wn b B ?_)
   exact ah.aF Z Z ⟨_,Z,b,Z⟩
  repeat'(first|refine Wz ?_|refine Wn b q ?_)
  exact ah.again (k+1) ⟨Z,Z,Z,trivial⟩ Y ⟨by omega,b,c,λi h h'=>by
   by_cases e:i=k
   ·subst e;exact s
   exact p i h Y⟩
 rw[so (xq λi h=>p i h Y)];refine Wz ?_;exact ah.aF Z Z ⟨_,Z,b,Z⟩
theorem sr(q:da)(l:List Slab)(t:Int)(w:World)(c:Sl w 3 bG q.ae.A q.ae.n l)(y:q.ae.n<=1000000000000000000):
 aS prog 188 [.agg (cr q).toArray,Iv t] w λv _=>v=Iv (idxOf (sq t) l):=by
 refine Wj func188 ntmps188 ?_;refine Ww λn z b o a=>?_;have s:=c.len;refine Wz ?_
 refine CW.loop (λk:Nat=>[(1,Iv t),(2,Pt n),(5,Iv (k:Int))]) (λk d=>k<=q.ae.n∧Ext w d∧ay d n 58 (cr q)∧∀(i:Nat)(h:i<l.length),i<k->sq t l[i]=false) (λk=>q.ae.n-k) 0
  ⟨Z,Z,Z,trivial⟩ ⟨by omega,b,a,λi h h'=>by omega⟩ ?_
 rintro k d ⟨A,b,a,f⟩;have B:=c.base;by_cases g:k<q.ae.n
 ·have m:k<l.length:=Y;have p:=c.dp g (j:=0) (u:=Iv l[k].At) Z;by_cases r:l[k].At=t
  ·rw[jA m (show sq t l[k]=true from decide_eq_true r) (λj x h=>f j x h)];repeat'(first|refine Wz ?_|refine Wn b p ?_)
   exact ah.aF Z Z ⟨_,Z,b,Z⟩
  repeat'(first|refine Wz ?_|refine Wn b p ?_)
  exact ah.again (k+1) ⟨Z,Z,Z,trivial⟩ Y ⟨by omega,b,a,λi h h'=>by
   by_cases e:i=k
   ·subst e;exact decide_eq_false r
   exact f i h Y⟩
 rw[(iv λi h=>f i h Y).1];refine Wz ?_;exact ah.aF Z Z ⟨_,Z,b,Z⟩
theorem lP.bool{x:Slab}{v:Value}(h:lP lo ws size per x v w):∃A n c b,v= .tuple #[.slice A n c,.bool b]∧(b=true↔∃a,bK ws size per x a):=by
 rcases h with⟨a,e,f,g,rfl,_,_⟩|⟨d,rfl⟩<;>grind
theorem CY(r:cc)(s:aj)(q:da)(c:aO)(w:World)(L:mB w r s)(t:DO w q c)(hs:s.small)(F:c.small)(hH:bf s.Heap):
 aS prog 182 [.agg (ar r).toArray,.agg (cr q).toArray] w λv _=>v= .bool (lh s c):=by
 refine Wj func182 ntmps182 ?_;refine Ww λb2 x l zf m=>?_;refine SW.box Z Z λJ w2 X zg f=>?_;obtain⟨l,m⟩:=bk X l m;obtain⟨o,n,e,W⟩:∃o n e,cJ c.ax=(o,n,e):=⟨_,_,_,Z⟩;have eS:=t.size;have eP:=t.per;have eO:=t.order;have n1:=t.names.len;have n2:=t.av.len;have n3:=t.aD.len;have m1:=F.names;have m2:=F.av;have m3:=F.aD;have eC:=L.heap.cpus;have wl:=L.words.len;have m4:=hs.words;have zi:=L.heap.live.len;have m5:=hs.heap.live;have cL:∀p,aS prog 102 [Iv q.ax] p λv _=>v= .tuple #[Iv o,Iv n,Iv e]:=λp=>rq (td q.ax p) (by rw[eS];exact W);rcases(show¬(e=0∧c.Order=o∧c.bd=n∧0<c.Names.length∧(c.ao.length:Int)=s.Heap.bl)∨(e=0∧c.Order=o∧c.bd=n∧0<c.Names.length∧(c.ao.length:Int)=s.Heap.bl)by omega)with M|⟨h1,h2,h3,h4,h5⟩
 ·have hF:lh s c=false:=iR λy=>M (by
   have:=y.lay;rw[W]at this;simp only[Prod.mk.injEq]at this;exact⟨this.2.2,this.1.symm,this.2.1.symm,y.names,y.aD⟩)
  rw[hF];rcases(show e≠0∨(e=0∧c.Order≠o)∨(e=0∧c.Order=o∧c.bd≠n)∨(e=0∧c.Order=o∧c.bd=n∧c.Names.length=0)∨(e=0∧c.Order=o∧c.bd=n∧0<c.Names.length∧(c.ao.length:Int)≠s.Heap.bl)by omega)with g|g|g|g|g
  all_goals
   repeat'(first|refine Wz ?_|(refine Wc (cL _) λx d=>?_;obtain⟨l,m,f⟩:=aY d l m f))
   all_goals try omega
   exact ah.aF Z Z ⟨_,Z,l,Z⟩
 subst h1;have N:cJ c.ax=(c.Order,c.bd,0):=by rw[W,h2,h3]
 obtain⟨l1,l2,l3⟩:=bM W;have za:=jh hH.live
 have zb:∀b∈s.Heap.Live,0<=b.At∧b.At<=255:=λb hb=>by
  obtain⟨i,hi,rfl⟩:=Pg hb;exact(hH.live.each i hi).2.1
 repeat'(first|refine Wz ?_|(refine Wc (cL _) λx d=>?_;obtain⟨l,m,f⟩:=aY d l m f))
 all_goals try omega
 refine CW.loop (λk:Nat=>[(2,Pt b2),(3,Pt J),(5,Iv o),(8,Iv (k:Int))])
  (λk p=>k<=q.ae.n∧Ext w p∧ay p b2 37 (ar r)∧ay p J 58 (cr q)∧∀(i:Nat)(h:i<c.ae.length),i<k->pi s c i h) (λk=>q.ae.n-k) 0
  ⟨Z,Z,Z,Z,trivial⟩ ⟨by omega,l,m,f,λi h h'=>by omega⟩ ?_
 rintro k p ⟨hk,l,m,f,G⟩;have hA:=t.av.base;by_cases B:k<q.ae.n
 ·have A:k<c.ae.length:=Y;have g0:=t.av.dp B (j:=0) (u:=Iv c.ae[k].At) Z;obtain⟨z,O⟩:=bq (lU s.Heap.Live c.ae[k].At)
  have cO:∀p,Ext w p->aS prog 111 [.agg (bg r.Heap).toArray,Iv c.ae[k].At] p λv _=>v=Iv z:=λp K=>by
   have:=rP r.Heap s.Heap.Live c.ae[k].At p (L.heap.live.ext K) za Y;rwa[O]at this
  by_cases P:z=o
  ·have H:bx s.Heap.Live c.ae[k].At=true:=by
    cases H:bx s.Heap.Live c.ae[k].At
    ·rw[so H]at O;omega
    rfl
   obtain⟨zc,zj⟩:=fR H
   have ht:0<=c.ae[k].At∧c.ae[k].At<=255:=by
    have:=zb _ (Pf zc);omega
   have hS:1<=q.ax∧q.ax<=64:=Y;have hP:1<=q.bd∧q.bd<=64:=Y;by_cases C:0<k->(c.ae[k-1]'Y).At<c.ae[k].At
   ·rcases Ps k with D|D
    all_goals
     first
     | (have gP:=t.av.dp (show k-1<q.ae.n by omega) (j:=0) (u:=Iv (c.ae[k-1]'Y).At) Z
        have zh:=C D)
     | skip
    all_goals
     refine Wz ?_;(apply CW.dF mixed;(·kernel_rfl);rotate_left;intro x d;obtain⟨l,m,f⟩:=aY d l m f;rotate_right);repeat'(first|refine Wz ?_|refine SW.st (aU (k-1) Z Z ig Y Y) Z ?_|refine Wm ((e7 m)) ?_|refine Wn l g0 ?_|refine Wn l gP ?_|refine SW.ba Z Z (λx d=>(cO _ (l.trans d))) ?_|exact SW.br Z)
     all_goals try omega
     refine CW.any 12 mixed (cy bm) Z λx d zd=>?_;obtain⟨l,m,f⟩:=aY d l m f;refine Wa ?_;refine Wu 6 zd Z (g7 l Z Z ((t.av.all B))) ?_;refine SA.bD 7 ?_;refine Wk (xv r q c.ae[k] s.Words _ (L.words.ext l) Y hS hP ht) λv w5 Q R=>?_;obtain⟨l,m,f⟩:=aY Q l m f;rw[eS,eP]at R;obtain⟨A5,n5,c5,bb,rfl,hb⟩:=lP.bool R;refine SW.nil (ah.sa Q ?_);refine Wa ?_;refine SA.fH ?_;cases bb
     ·rw[iR λy=>by simpa using hb.2 (y.av k A).chain];repeat'(first|refine Wz ?_|(refine CW.bQ Z ?_))
      exact ah.aF Z Z ⟨_,Z,l,Z⟩
     repeat'(first|refine Wz ?_|(refine CW.bo Z ?_))
     exact ah.again (k+1) ⟨Z,Z,Z,Z,trivial⟩ Y ⟨by omega,l,m,f,λi h h'=>by
      by_cases I:i=k
      ·subst I;exact⟨by omega,C,hb.1 Z⟩
      exact G i h Y⟩
   have D:0<k:=by
    rcases Ps k with h|h
    ·exact absurd (λh'=>by omega) C
    exact h
   have ze:¬(c.ae[k-1]'Y).At<c.ae[k].At:=λh=>C λ_=>h;have gP:=t.av.dp (show k-1<q.ae.n by omega) (j:=0) (u:=Iv (c.ae[k-1]'Y).At) Z;rw[iR λy=>ze ((y.av k A).next D)];repeat'(first|refine Wz ?_|refine fq ?_|refine SW.st (aU (k-1) Z Z ig Y Y) Z ?_|refine Wm ((e7 m)) ?_|refine Wn l g0 ?_|refine Wn l gP ?_|refine SW.ba Z Z (λx d=>(cO _ (l.trans d))) ?_|(refine SW.br λx d=>?_;obtain⟨l,m,f⟩:=aY d l m f))
   all_goals try omega
   exact ah.aF Z Z ⟨_,Z,l,Z⟩
  rw[iR λy=>P (by have:=(y.av k A).live;omega)];repeat'(first|refine Wz ?_|refine fq ?_|refine Wm ((e7 m)) ?_|refine Wn l g0 ?_|refine SW.ba Z Z (λx d=>(cO _ (l.trans d))) ?_|(refine SW.br λx d=>?_;obtain⟨l,m,f⟩:=aY d l m f))
  all_goals try omega
  exact ah.aF Z Z ⟨_,Z,l,Z⟩
 have S:∀(i:Nat)(h:i<c.ae.length),pi s c i h:=λi h=>G i h Y;refine Wz ?_
 refine CW.loop (λk:Nat=>[(3,Pt J),(11,Iv (k:Int))])
  (λk p=>k<=q.ao.n∧Ext w p∧ay p J 58 (cr q)∧∀(i:Nat)(h:i<c.ao.length),i<k->qs c i h) (λk=>q.ao.n-k) 0
  ⟨Z,Z,trivial⟩ ⟨by omega,l,f,λi h h'=>by omega⟩ ?_
 rintro k p ⟨hk,l,f,G⟩;have hA:=t.aD.base;by_cases B:k<q.ao.n
 ·have A:k<c.ao.length:=Y;obtain⟨a,T⟩:=bq (c.ao[k]);have U:=t.aD.one B (u:=Iv a) (by rw[<-T];rfl);by_cases ha:a= -1
  ·repeat'(first|refine Wz ?_|refine Wn l U ?_)
   exact ah.again (k+1) ⟨Z,Z,trivial⟩ Y ⟨by omega,l,f,λi h h'=>by
    by_cases I:i=k
    ·subst I;exact .inl Y
    exact G i h Y⟩
  obtain⟨z,O⟩:=bq (idxOf (sq a) c.ae);have E:=iN (sq a) c.ae;rw[O]at E
  have cF:∀p,Ext w p->aS prog 188 [.agg (cr q).toArray,Iv a] p λv _=>v=Iv z:=λp K=>by
   have:=sr q c.ae a p (t.av.ext K) Y;rwa[O]at this
  by_cases V:0<=z
  ·repeat'(first|refine Wz ?_|refine fq ?_|refine Wn l U ?_|refine SW.ba Z Z (λx d=>(cF _ (l.trans d))) ?_|(refine SW.br λx d=>?_;obtain⟨l,f⟩:=bk d l f))
   all_goals try omega
   refine CW.loop (λj:Nat=>[(3,Pt J),(11,Iv (k:Int)),(12,Iv (j:Int))])
    (λj p=>j<=k∧Ext w p∧ay p J 58 (cr q)∧∀(i:Nat)(h:i<c.ao.length),i<j->c.ao[i]≠a) (λj=>k-j) 0
    ⟨Z,Z,Z,trivial⟩ ⟨by omega,l,f,λi h h'=>by omega⟩ ?_
   rintro j p ⟨hj,l,f,hJ⟩;by_cases zk:j<k
   ·have gJ:=t.aD.one (show j<q.ao.n by omega) (u:=Iv (c.ao[j]'Y)) Z;by_cases K:(c.ao[j]'Y)=a
    ·rw[iR λy=>by
      rcases y.ns k A with g|⟨g1,g2⟩
      ·omega
      rw[T]at g1;exact g1 (PG.2 ⟨j,by omega,K⟩)]
     repeat'(first|refine Wz ?_|refine fq ?_|refine Wn l U ?_|refine Wn l gJ ?_|(refine SW.br λx d=>?_;obtain⟨l,f⟩:=bk d l f))
     all_goals try omega
     exact ah.aF Z Z ⟨_,Z,l,Z⟩
    repeat'(first|refine Wz ?_|refine fq ?_|refine Wn l U ?_|refine Wn l gJ ?_|(refine SW.br λx d=>?_;obtain⟨l,f⟩:=bk d l f))
    all_goals try omega
    exact ah.again (j+1) ⟨Z,Z,Z,trivial⟩ Y ⟨by omega,l,f,λi h h'=>by
     by_cases I:i=j
     ·subst I;exact K
     exact hJ i h Y⟩
   refine Wz ?_
   exact ah.again (k+1) ⟨Z,Z,trivial⟩ Y ⟨by omega,l,f,λi h h'=>by
    by_cases I:i=k
    ·subst I;refine .inr ⟨?_,by rw[T,<-E];exact decide_eq_true V⟩;rw[T];intro y;obtain⟨i',zl,e'⟩:=PG.1 y;exact hJ i' Y Y e'
    exact G i h Y⟩
  rw[iR λy=>by
   rcases y.ns k A with g|⟨g1,g2⟩
   ·omega
   rw[T]at g2;rw[g2]at E;exact V (of_decide_eq_true E)]
  repeat'(first|refine Wz ?_|refine fq ?_|refine Wn l U ?_|refine SW.ba Z Z (λx d=>(cF _ (l.trans d))) ?_|(refine SW.br λx d=>?_;obtain⟨l,f⟩:=bk d l f))
  all_goals try omega
  exact ah.aF Z Z ⟨_,Z,l,Z⟩
 rw[qt ⟨N,h4,h5,S,λi h=>G i h Y⟩];refine Wz ?_;exact ah.aF Z Z ⟨_,Z,l,Z⟩
open Go.RowKit Go.Maps
variable {n:ByteArray} {b:Nat}
def rF(s:ByteArray):Lit:= .string s.data.toList
def vJ(z:Int):Lit:= .int .i64 z
def vK(l:List ByteArray)(n:ByteArray):Bool:=l.any λm=>decide (m=n)
theorem dx{l:List ByteArray}:vK l n=true↔n∈l:=by
 unfold vK<;>grind
theorem J7(l:List ByteArray)(n:ByteArray):((l.map rF).any λy=>y.sameKey (rF n))=vK l n:=by
 rw[QO,Pn,dx];constructor
 ·rintro⟨y,a,b⟩;obtain⟨m,c,rfl⟩:=Pw.1 a;have:=WideAt.sameKey_eq b;simp only[rF,Lit.string.injEq]at this
  have e:m=n:=by
   cases m<;>simp_all
  grind
 intro h;exact⟨rF n,Pw.2 ⟨n,h,Z⟩,WideAt.sameKey_self trivial⟩
theorem J8(l:List Int)(n:Int):((l.map vJ).any λy=>y.sameKey (vJ n))=decide (n∈l):=by
 rw[QO,Pn,decide_eq_true_iff];constructor
 ·rintro⟨y,a,b⟩;obtain⟨m,c,rfl⟩:=Pw.1 a;have:=WideAt.sameKey_eq b;grind[WideAt.sameKey_eq,vJ,Lit.int.injEq]
 intro h;exact⟨vJ n,Pw.2 ⟨n,h,Z⟩,WideAt.sameKey_self trivial⟩
theorem CR:prog.underlying 9=some .string:=by kernel_rfl
theorem CS:prog.underlying 3=some (.int .i64):=by kernel_rfl
theorem qw:prog.underlying 4=some .bool:=by kernel_rfl
theorem xz:prog.underlying 163=some (.map 9 4):=by kernel_rfl
theorem D8:prog.underlying 164=some (.map 3 4):=by kernel_rfl
theorem BA(w:World):(zeroValue 4).run prog w= .ok (.bool false) w:=by
 obtain⟨a,b,c,e,d⟩:=eB prog 4 (z:= .bool false) (sz:=1) (bytes:=1);simp[zeroValue,typeInfo,b,c]
theorem uv(s:ByteArray)(h:s.size<=140737488351232):Go.keyOf prog 9 (.string s)=some (rF s):=by
 simp[Go.keyOf,mapKey,rF];unfold maxLen;omega
theorem keyOf_int{z:Int}(h: -9223372036854775808<=z∧z<=9223372036854775807):Go.keyOf prog 3 (.int .i64 z)=some (vJ z):=keyOf_int_mk CS (by
 have a:IntKind.i64.min= -9223372036854775808:=by decide
 have b:IntKind.i64.max=9223372036854775807:=by decide
 simp[Lit.wf,a,b];omega)
section
variable {L:Env}{w:World}{d:Option Nat}{T:TypeId}{pos:String}{af:Array Edge}{g:Option (Nat×Bool)}
theorem tm{l:List ByteArray}{m x:Operand}(a:oA w prog 9 4 b (l.map rF))(c:n.size<=140737488351232)(e:cg L m=some (.map (some b)))(f:cg L x=some (.string n)):
 St prog ⟨d,.lookup 163 m x false,T,pos,af,g⟩ L w (.bool (vK l n)):=
 (xy a (string_keyed CR) xz qw BA e f (uv n c)).eq (by rw[J7])
theorem D9{l:List Int}{n:Int}{m x:Operand}(a:oA w prog 3 4 b (l.map vJ))(c: -9223372036854775808<=n∧n<=9223372036854775807)(e:cg L m=some (.map (some b)))(f:cg L x=some (Iv n)):
 St prog ⟨d,.lookup 164 m x false,T,pos,af,g⟩ L w (.bool (decide (n∈l))):=
 (xy a (int_keyed CS) D8 qw BA e f (keyOf_int c)).eq (by rw[J8])
end
theorem Ic(d:da)(a:Nat)(q:da)(w:World)(b:ay w a 58 (cr q)):
 aS prog 131 ([.agg (cr d).toArray]++[Pt a]) w λv _=>v= .bool (decide (d.ax=q.ax)):=by
 refine Wj func131 ntmps131 ?_;refine Ww λg h c e f=>?_;have b:=b.ext c;refine Wz ?_;exact ah.aF Z Z ⟨_,Z,c,Z⟩
structure aj.bU(s:aj):Prop where
 small:s.small
 bA:∀z∈s.Heap.aK,ew z
 av:∀c∈s.ab,∀x∈c.ae,-9223372036854775808<=x.At∧x.At<=9223372036854775807
 names:∀c∈s.ab,∀n∈c.Names,n.size<=140737488351232
theorem xA(cs:List aO)(h:∀c∈cs,c.small):(aR cs).length<=cs.length*8796093022208:=by
 induction cs with
 | nil=>simp[aR]
 | cons c r a=>
   have b:=(h c fy).names
   grind[aR,List.length_append,List.length_cons]
theorem xB(cs:List aO)(h:∀c∈cs,c.small):(aG cs).length<=cs.length*8796093022208:=by
 induction cs with
 | nil=>simp[aG]
 | cons c r a=>
   have b:=(h c fy).av
   grind[aG,List.length_append,List.length_cons,List.length_map]
theorem lj(r:cc)(s:aj)(w:World)(hr:mB w r s)(hf:s.bU):
 aS prog 61 [.agg (ar r).toArray] w λv _=>v=Iv (if ef s then 0 else 8):=by
 refine Wj func61 ntmps61 ?_;refine Ww λb1 E b zF a=>?_;obtain⟨cs,P⟩:=hr.aV;obtain⟨z1,z2⟩:=P.len;have wl:=hr.words.len;have hs:=hf.small;have m3:=hs.aV;have zG:=P.cap;obtain⟨q,hq⟩:=bq (gd s.Heap)
 have c1:∀o,Ext w o->aS prog 70 [.agg (bg r.Heap).toArray] o λv _=>v=Iv (if q then 0 else 8):=λo Q=>by
  have:=ph r.Heap s.Heap o (hr.heap.ext Q) hs.heap hf.bA;rwa[hq]at this
 by_cases F:s.Words.length=4096∧q=true∧s.ab.length<=20
 ·obtain⟨g1,g2,g3⟩:=F;subst g2;have hH:=ch.1 hq;simp only[if_true]at c1;repeat'(first|refine Wz ?_|refine Wm ((e7 a)) ?_|(refine Wk (c1 _ b) ?_;intro v E f t;subst t;obtain⟨b,a⟩:=bk f b a))
  all_goals try omega
  refine SW.makeMap 9 4 Z λbN w3 zw zd m=>?_;have zn:=b.up zd;have zo:=a.lt;obtain⟨b,a⟩:=bk zw b a;refine SW.makeMap 3 4 Z λbS w4 zx ze n=>?_;have zy:=b.up ze;have zp:=m.lt;obtain⟨b,a,m⟩:=aY zx b a m;have zf:b1≠bN:=Y;have zq:b1≠bS:=Y;have R:bN≠bS:=Y;refine Wz ?_
  refine CW.loop (λk:Nat=>[(1,Pt b1),(3,.map (some bN)),(4,.map (some bS)),(30,.slice r.ab.A r.ab.n r.ab.c),(31,Iv (r.ab.n:Int)),(32,Iv (k:Int))])
   (λk o=>k<=r.ab.n∧Ext w o∧ay o b1 37 (ar r)∧oA o prog 9 4 bN ((aR (s.ab.take k)).map rF)∧oA o prog 3 4 bS ((aG (s.ab.take k)).map vJ)∧∀(i:Nat)(h:i<s.ab.length),i<k->pk s i h) (λk=>r.ab.n-k) 0
   ⟨Z,Z,Z,Z,Z,Z,trivial⟩ ⟨by omega,b,a,m,n,λi h h'=>by omega⟩ ?_
  rintro k o ⟨hk,b,a,m,n,hI⟩;have hA:=P.row.base;by_cases zz:k<r.ab.n
  ·have zA:k<cs.length:=Y;have z:k<s.ab.length:=Y;have A:=P.each.get k zA z;have sm:=hs.each _ (Pf z);have fS:=hf.av _ (Pf z);have fN:=hf.names _ (Pf z);have q1:=A.names.len;have q2:=A.av.len;have q4:=sm.names;have q5:=sm.av;have bn:=xA (s.ab.take k) (λc P=>hs.each c (P5 P));have bs:=xB (s.ab.take k) (λc P=>hs.each c (P5 P));rw[P3]at bn bs;repeat'(first|refine Wz ?_|refine Wo b ((P.row.all zz)) ?_)
   have zr:=m.lt;have zs:=n.lt;refine SW.alloc Z λb6 E f zg l=>?_;refine Wz ?_;refine Wg l (ox _) λw2 zh B=>?_;have S:=f.own zg B;have zH:=b.up zg;obtain⟨b,a,m,n⟩:=cG S b a m n;have l:=zh;have zi:bN≠b6:=Y;have zI:bS≠b6:=Y;obtain⟨qc,zk⟩:=bq (lh s s.ab[k])
   have cC:∀o,Ext w o->aS prog 129 [.agg (ar r).toArray,.agg (cr cs[k]).toArray] o λv _=>v= .bool qc:=λo Q=>by
    have:=Ia r s cs[k] s.ab[k] o (hr.ext Q) (A.ext Q) hs sm hH fS;rwa[zk]at this
   cases qc
   ·have hF:ef s=false:=mW λN=>by
     have:=qt (N.each k z).may;rw[zk]at this;cases this
    rw[hF];repeat'(first|refine Wz ?_|refine SW.skip Z Z Z Z ?_|(refine Wk (cC _ b) ?_;intro v E f t;subst t;obtain⟨b,a,l,m,n⟩:=dz f b a l m n))
    exact ah.aF Z Z ⟨_,Z,b,Z⟩
   have zB:=xt.1 zk;obtain⟨y,hy⟩:=bq (((cs.take k).any λd=>decide (d.ax=cs[k].ax)))
   have cD:∀o,Ext w o->ay o b6 58 (cr cs[k])->aS prog 130 [.slice r.ab.A k r.ab.c,.func (.func 131) #[] [Pt b6].toArray] o λv _=>v= .bool y:=λo Q h6=>by
    have:=lN r.ab.A k r.ab.c (cs.take k) o ((P.row.ext Q).pre (show k<=r.ab.n by omega)) 131 [Pt b6] (λd=>decide (d.ax=cs[k].ax)) (λd=> .agg (cr d).toArray) (λx=>Z)
     (λx _ E zC=>Ic x b6 cs[k] E (h6.ext zC)) Y
    rwa[hy]at this
   cases y
   ·have zD:∀(j:Nat)(hj:j<k),(s.ab[j]'Y).ax≠s.ab[k].ax:=λj hj e=>by
     rw[PA]at hy;refine hy cs[j] (PG.2 ⟨j,by omega,Z⟩) ?_;have e1:=(P.each.get j Y Y).size;have e2:=A.size;exact decide_eq_true (by rw[e1,e2];exact e)
    repeat'(first|refine Wz ?_|refine SW.want Z Z ?_|((first|refine Wk (cC _ b) ?_|refine Wk (cD _ b l) ?_);intro v E f t;subst t;obtain⟨b,a,l,m,n⟩:=dz f b a l m n)|(refine SW.st (gl (k:=k) Z Z Y) Z ?_)|(refine SW.st (gH (vs:=[Pt b6]) Z) Z ?_))
    obtain⟨p,K⟩:=bq (aR (s.ab.take k));rw[K]at m bn;obtain⟨C,L⟩:=bq (aG (s.ab.take k));rw[L]at n bs
    refine CW.loop (λj:Nat=>[(1,Pt b1),(3,.map (some bN)),(4,.map (some bS)),(6,Pt b6),(30,.slice r.ab.A r.ab.n r.ab.c),(31,Iv (r.ab.n:Int)),(32,Iv (k:Int)),(50,.slice cs[k].Names.A cs[k].Names.n cs[k].Names.c),(51,Iv (cs[k].Names.n:Int)),(52,Iv (j:Int))])
     (λj o=>j<=cs[k].Names.n∧Ext w o∧ay o b1 37 (ar r)∧ay o b6 58 (cr cs[k])∧oA o prog 9 4 bN ((p++s.ab[k].Names.take j).map rF)∧oA o prog 3 4 bS (C.map vJ)∧
       ∀(i:Nat)(h:i<s.ab[k].Names.length),i<j->dW s.ab[k].Names[i]=true∧s.ab[k].Names[i]∉p++s.ab[k].Names.take i∧(0<i->cu (s.ab[k].Names[i-1]'Y) s.ab[k].Names[i]=true)) (λj=>cs[k].Names.n-j) 0
     ⟨Z,Z,Z,Z,Z,Z,Z,Z,Z,Z,trivial⟩ ⟨by omega,b,a,l,by simpa using m,n,λi h h'=>by omega⟩ ?_
    rintro j o ⟨hj,b,a,l,m,n,hJ⟩;have zt:=A.names.base;by_cases zb:j<cs[k].Names.n
    ·have D:j<s.ab[k].Names.length:=Y;obtain⟨G,O⟩:=bq (s.ab[k].Names[j]);have gN:=A.names.one zb (u:= .string G) (by rw[<-O];rfl);have H:G.size<=140737488351232:=by rw[<-O];exact fN _ (Pf D)
     obtain⟨qn,zl⟩:=bq (dW G);obtain⟨qh,I⟩:=bq (vK (p++s.ab[k].Names.take j) G)
     have T:∀o,aS prog 62 [.string G] o λv _=>v= .bool qn:=λo=>by
      have:=DP G o H;rwa[zl]at this
     have J:(qn=false∨qh=true∨∃U:0<j,cu (s.ab[k].Names[j-1]'Y) G=false)->ef s=false:=λh=>mW λN=>by
      have h1:=(N.each k z).names.each j D;rw[O,K]at h1;rcases h with h|h|⟨U,h⟩
      ·rw[zl,h]at h1;exact absurd h1.1 fy
      ·exact h1.2.1 (dx.1 (by rw[I,h]))
      rw[h1.2.2 U]at h;cases h
     cases qn
     ·rw[J (.inl Z)];repeat'(first|refine Wz ?_|refine SW.skip Z Z Z Z ?_|refine Wn b gN ?_|(refine Wk (T _) ?_;intro v E f t;subst t;obtain⟨b,a,l,m,n⟩:=dz f b a l m n))
      exact ah.aF Z Z ⟨_,Z,b,Z⟩
     cases qh
     ·have go:∀(V:0<j->cu (s.ab[k].Names[j-1]'Y) G=true)(i:Nat)(h:i<s.ab[k].Names.length),i<j+1->dW s.ab[k].Names[i]=true∧s.ab[k].Names[i]∉p++s.ab[k].Names.take i∧(0<i->cu (s.ab[k].Names[i-1]'Y) s.ab[k].Names[i]=true):=λV i h h'=>by
       by_cases ei:i=j
       ·subst ei;rw[O];exact⟨zl,(λN=>by rw[dx.2 N]at I;cases I),V⟩
       exact hJ i h Y
      rcases Ps j with U|U
      ·repeat'(first|refine Wz ?_|refine SW.want Z Z ?_|refine Wn b gN ?_|(refine Wk (T _) ?_;intro v E f t;subst t;obtain⟨b,a,l,m,n⟩:=dz f b a l m n)|(refine SW.st ((tm m H Z Z).eq (congrArg Value.bool I)) Z ?_))
       all_goals try omega
       refine SW.FK m (string_keyed CR) xz qw (by simp only[List.length_map,List.length_append,List.length_take];unfold maxLen;omega) Z Z Z (uv G H) trivial λw5 W B=>?_;have b:=b.own zn B;have a:=a.grown B (by simpa using zf);have l:=l.grown B (by simpa using zi.symm);have n:=n.grown B (by simpa using R.symm);have eN:(p++s.ab[k].Names.take j).map rF++[rF G]=(p++s.ab[k].Names.take (j+1)).map rF:=by rw[Pk D,O];simp
       rw[eN]at W;refine Wz ?_;exact ah.again (j+1) ⟨Z,Z,Z,Z,Z,Z,Z,Z,Z,Z,trivial⟩ Y ⟨by omega,b,a,l,W,n,go (λh=>by omega)⟩
      obtain⟨ql,zc⟩:=bq ((!cu (s.ab[k].Names[j-1]'Y) G));have gP:=A.names.one (show j-1<cs[k].Names.n by omega) (u:= .string (s.ab[k].Names[j-1]'Y)) Z;cases ql
      ·repeat'(first|refine Wz ?_|refine SW.want Z Z ?_|refine SW.st (aU (j-1) Z Z ig Y Y) Z ?_|refine Wn b gN ?_|refine Wn b gP ?_|(refine Wk (T _) ?_;intro v E f t;subst t;obtain⟨b,a,l,m,n⟩:=dz f b a l m n)|(refine SW.st ((tm m H Z Z).eq (congrArg Value.bool I)) Z ?_)|(refine SW.st ((DM Z Z).eq (congrArg Value.bool zc)) Z ?_))
       all_goals try omega
       refine SW.FK m (string_keyed CR) xz qw (by simp only[List.length_map,List.length_append,List.length_take];unfold maxLen;omega) Z Z Z (uv G H) trivial λw5 W B=>?_;have b:=b.own zn B;have a:=a.grown B (by simpa using zf);have l:=l.grown B (by simpa using zi.symm);have n:=n.grown B (by simpa using R.symm);have eN:(p++s.ab[k].Names.take j).map rF++[rF G]=(p++s.ab[k].Names.take (j+1)).map rF:=by rw[Pk D,O];simp
       rw[eN]at W;refine Wz ?_;exact ah.again (j+1) ⟨Z,Z,Z,Z,Z,Z,Z,Z,Z,Z,trivial⟩ Y ⟨by omega,b,a,l,W,n,go (λ_=>by simpa using zc)⟩
      rw[J (.inr (.inr ⟨U,by simpa using zc⟩))];repeat'(first|refine Wz ?_|refine SW.want Z Z ?_|refine SW.st (aU (j-1) Z Z ig Y Y) Z ?_|refine Wn b gN ?_|refine Wn b gP ?_|(refine Wk (T _) ?_;intro v E f t;subst t;obtain⟨b,a,l,m,n⟩:=dz f b a l m n)|(refine SW.st ((tm m H Z Z).eq (congrArg Value.bool I)) Z ?_)|(refine SW.st ((DM Z Z).eq (congrArg Value.bool zc)) Z ?_))
      all_goals try omega
      exact ah.aF Z Z ⟨_,Z,b,Z⟩
     rw[J (.inr (.inl Z))];repeat'(first|refine Wz ?_|refine SW.want Z Z ?_|refine Wn b gN ?_|(refine Wk (T _) ?_;intro v E f t;subst t;obtain⟨b,a,l,m,n⟩:=dz f b a l m n)|(refine SW.st ((tm m H Z Z).eq (congrArg Value.bool I)) Z ?_))
     exact ah.aF Z Z ⟨_,Z,b,Z⟩
    have zu:pj (aR (s.ab.take k)) s.ab[k].Names:=⟨λi h=>by rw[K];exact hJ i h Y⟩;rw[Pl Y]at m;refine Wz ?_
    refine CW.loop (λj:Nat=>[(1,Pt b1),(3,.map (some bN)),(4,.map (some bS)),(30,.slice r.ab.A r.ab.n r.ab.c),(31,Iv (r.ab.n:Int)),(32,Iv (k:Int)),(83,.slice cs[k].ae.A cs[k].ae.n cs[k].ae.c),(84,Iv (cs[k].ae.n:Int)),(85,Iv (j:Int))])
     (λj o=>j<=cs[k].ae.n∧Ext w o∧ay o b1 37 (ar r)∧oA o prog 9 4 bN ((p++s.ab[k].Names).map rF)∧oA o prog 3 4 bS ((C++(s.ab[k].ae.take j).map λx=>x.At).map vJ)∧
       ∀(i:Nat)(h:i<s.ab[k].ae.length),i<j->s.ab[k].ae[i].At∉C++(s.ab[k].ae.take i).map λx=>x.At) (λj=>cs[k].ae.n-j) 0
     ⟨Z,Z,Z,Z,Z,Z,Z,Z,Z,trivial⟩ ⟨by omega,b,a,m,by simpa using n,λi h h'=>by omega⟩ ?_
    rintro j o ⟨hj,b,a,m,n,hJ⟩;have zt:=A.av.base;by_cases zb:j<cs[k].ae.n
    ·have D:j<s.ab[k].ae.length:=Y;obtain⟨x,Q⟩:=bq (s.ab[k].ae[j]);have gS:=A.av.all zb;rw[Q]at gS;have fx: -9223372036854775808<=x.At∧x.At<=9223372036854775807:=by rw[<-Q];exact fS _ (Pf D)
     repeat'(first|refine Wz ?_|refine Wo b gS ?_)
     refine SW.alloc Z λzJ E f X zj=>?_;skip;refine Wg zj (gG.one (enc:=bG) _) λw2 za B=>?_;have S:=f.own X B;have zE:=b.up X;obtain⟨b,a,m,n⟩:=cG S b a m n;have zj:=za;by_cases M:x.At∈C++(s.ab[k].ae.take j).map λx=>x.At
     ·have zm:=decide_eq_true M
      rw[mW λN=>by
       have:=(N.each k z).av j D;rw[Q,L]at this;exact this M]
      repeat'(first|refine Wz ?_|(refine SW.st ((D9 n fx Z Z).eq (congrArg Value.bool zm)) Z ?_))
      exact ah.aF Z Z ⟨_,Z,b,Z⟩
     have zm:=decide_eq_false M;repeat'(first|refine Wz ?_|(refine SW.st ((D9 n fx Z Z).eq (congrArg Value.bool zm)) Z ?_))
     refine SW.FK n (int_keyed CS) D8 qw (by simp only[List.length_map,List.length_append,List.length_take];unfold maxLen;omega) Z Z Z (keyOf_int fx) trivial λw5 zv B=>?_;have b:=b.own zy B;have a:=a.grown B (by simpa using zq);have m:=m.grown B (by simpa using R);have eN:(C++(s.ab[k].ae.take j).map λx=>x.At).map vJ++[vJ x.At]=(C++(s.ab[k].ae.take (j+1)).map λx=>x.At).map vJ:=by rw[Pk D,Q];simp
     rw[eN]at zv;refine Wz ?_
     exact ah.again (j+1) ⟨Z,Z,Z,Z,Z,Z,Z,Z,Z,trivial⟩ Y ⟨by omega,b,a,m,zv,λi h h'=>by
      by_cases ei:i=j
      ·subst ei;rw[Q];exact M
      exact hJ i h Y⟩
    rw[Pl Y,<-L,<-lX s.ab k z]at n;rw[<-K,<-lW s.ab k z]at m;refine Wz ?_
    exact ah.again (k+1) ⟨Z,Z,Z,Z,Z,Z,trivial⟩ Y ⟨by omega,b,a,m,n,λi h h'=>by
     by_cases ei:i=k
     ·subst ei;exact⟨zB,zD,zu,λi h=>by rw[L];exact hJ i h Y⟩
     exact hI i h Y⟩
   have hF:ef s=false:=mW λN=>by
    obtain⟨d,hd,he⟩:=Pn.1 hy;obtain⟨j,hj,rfl⟩:=PG.1 hd;have e1:=(P.each.get j Y Y).size;have e2:=A.size;have:=of_decide_eq_true he;exact(N.each k z).size j Y (by rw[<-e1,<-e2];exact this)
   rw[hF];repeat'(first|refine Wz ?_|refine SW.want Z Z ?_|((first|refine Wk (cC _ b) ?_|refine Wk (cD _ b l) ?_);intro v E f t;subst t;obtain⟨b,a,l,m,n⟩:=dz f b a l m n)|(refine SW.st (gl (k:=k) Z Z Y) Z ?_)|(refine SW.st (gH (vs:=[Pt b6]) Z) Z ?_))
   exact ah.aF Z Z ⟨_,Z,b,Z⟩
  rw[lV ⟨g1,hH,g3,λi h=>hI i h Y⟩];refine Wz ?_;exact ah.aF Z Z ⟨_,Z,b,Z⟩
 have hF:ef s=false:=mW λN=>F ⟨N.words,by rw[<-hq];exact sY N.heap,N.most⟩;rw[hF];cases q;all_goals simp only[if_true,Bool.false_eq_true,if_false]at c1
 all_goals simp only[true_and,Bool.false_eq_true,false_and,and_false,not_false_eq_true]at F
 ·rcases(show s.Words.length≠4096∨s.Words.length=4096 by omega)with g|g
  all_goals
   repeat'(first|refine Wz ?_|refine Wm ((e7 a)) ?_|(refine Wk (c1 _ b) ?_;intro v E f t;subst t;obtain⟨b,a⟩:=bk f b a))
   all_goals try omega
   exact ah.aF Z Z ⟨_,Z,b,Z⟩
 rcases(show s.Words.length≠4096∨(s.Words.length=4096∧20<s.ab.length)by omega)with g|g
 all_goals
  repeat'(first|refine Wz ?_|refine Wm ((e7 a)) ?_|(refine Wk (c1 _ b) ?_;intro v E f t;subst t;obtain⟨b,a⟩:=bk f b a))
  all_goals try omega
  exact ah.aF Z Z ⟨_,Z,b,Z⟩
theorem AO.Ns{t:Int}(h:AO f t l a o):∀x∈l,x.At≠a:=λx b e=>by
 have d:=h.Lt x b;have c:=(h.dm x b).1;have:=bP c.1 c.2.1;have:=bP h.fit.1 h.fit.2.1;omega
theorem sc(r:cM)(z:ap)(a o:Int)(w:World)(hr:vD w r z)(hf:(r.ai.n+1)*24<=140737488355328)(ht:r.Types.n*8<=140737488355328)(h1: -9223372036854775808<=r.aE∧r.aE<=9223372036854775807)(h2: -9223372036854775808<=r.To∧r.To<=9223372036854775807):
 aS prog 98 [.agg (bu r).toArray,.int .i64 a,.int .i64 o] w (oY w.heap.size (eX z a o)):=by
 refine tV func98 rfl ntmps98 rfl ?_;refine CW.seq (CW.region (SW.box rfl rfl λb3 w1 m zu j=>?_));refine SW.alloc rfl λb6 w2 zi zj e=>?_;have R:=m.up zj;(have m:=m.trans zi;have j:=j.ext zi);have eF:=hr.from_;have eT:=hr.kW;have zx:=hr.free.len;have zy:=hr.types.len;obtain⟨q,hq⟩:=bq (dZ z)
 have c1:∀y,Ext w y->aS prog 178 [.agg (bu r).toArray] y λv _=>v= .bool q:=λy h=>by
  have:=lH r z y (hr.ext h) Y Y h1 h2;rwa[hq]at this
 cases q
 ·rw[rc hq];repeat'(first|refine Wz ?_|(refine CW.bQ Z ?_)|(refine SW.call Z Z (c1 _ m) ?_;intro v w1 g J;subst J;have m:=m.trans g;have j:=j.ext g;have e:=e.ext g))
  refine SW.dY e Z Z Z Z (ck .zero) λw5 O C=>?_;have m:=m.own R C;refine Wz ?_;exact ah.a9 Z Z Z O Z ⟨_,Z,m,.zero,Z,fv.zero _ _⟩
 have hz:=dj.1 hq;obtain⟨o1,o2,o3,o4,o5⟩:=hz.ok
 have cF:∀y,aS prog 179 [.agg (bu r).toArray,.int .i64 a,.int .i64 o] y λv _=>v= .bool (decide (gL z.aE z.To a o)):=λy=>by
  have:=sR r a o y ⟨by omega,by omega⟩ ⟨by omega,by omega⟩;rwa[eF,eT]at this
 by_cases F:gL z.aE z.To a o
 ·rw[decide_eq_true F]at cF;obtain⟨f1,f2,f3,f4,f5⟩:=id F
  have zo:∀b∈z.ai,eG z.aE z.To b:=λb hb=>by
   obtain⟨i,hi,rfl⟩:=Pg hb;exact hz.dm i hi
  have cC:∀y,Ext w y->aS prog 180 [.slice r.ai.A r.ai.n r.ai.c,.int .i64 a,.int .i64 o] y λv _=>v= .bool (gQ z.ai a o):=λy hx=>
   sU _ _ _ _ z.aE z.To a o _ (hr.free.ext hx) zo o1 Y Y ⟨by omega,by omega⟩ ⟨f1,f2⟩
  cases S:gQ z.ai a o
  ·rw[S]at cC;have ze:=sS (f:=0) (t:=0) hz F S;repeat'(first|refine Wz ?_|(refine CW.bo Z ?_)|((first|refine SW.call Z Z (c1 _ m) ?_|refine SW.call Z Z (cF _) ?_|refine SW.call Z Z (cC _ m) ?_);intro v w1 g J;subst J;have m:=m.trans g;have j:=j.ext g;have e:=e.ext g))
   refine SW.call Z Z (o6 r z _ (hr.ext m) Y ht) λv w4 zf J=>?_;obtain⟨s,rfl,hs⟩:=J;have hs:=hs.low m.size;(have m:=m.trans zf;have j:=j.ext zf;have e:=e.ext zf);have zv:=e.lt;have zw:=j.lt;refine SW.alloc Z λb8 w1 g zc n=>?_;skip;refine SW.dY n Z Z Z Z (ck s) λw2 G C=>?_;have T:=g.own zc C;have U:=m.up zc;have m:=m.trans T;have j:=j.ext T;have e:=e.ext T;have hs:=hs.ext T;have n:=G;have P:b6≠b8:=Y;have V:b3≠b8:=Y;refine Wz ?_;have es:s.ai.n=z.ai.length:=by have:=hs.free.sl.len;omega
   have D:=hs.free;have x:=hs.types;rw[es]at D;have zp:s=⟨s.aE,s.To,⟨s.ai.A,z.ai.length,s.ai.c⟩,s.Types⟩:=by rw[<-es]
   rw[zp]at n;have sF:=hs.from_;have sT:=hs.kW
   obtain⟨K,hK⟩:∃K:Env->World->Prop,K=λL' y=>∃l H E A c,eA L' [(1,.int .i64 H),(2,.int .i64 E),(3,.pointer (some ⟨b3,0,none⟩)),(6,.pointer (some ⟨b6,0,none⟩)),(8,.pointer (some ⟨b8,0,none⟩))]∧Ext w y∧ay y b3 98 (bu r)∧ay y b6 98 (bu .zero)∧ay y b8 98 [.int .i64 s.aE,.int .i64 s.To,.slice A l.length c,.slice s.Types.A s.Types.n s.Types.c]∧
    Own y w.heap.size 129 3 aL A l.length c l∧Own y w.heap.size 3 1 aT s.Types.A s.Types.n s.Types.c z.Types∧AO z.aE z.To l H E∧iO 5 z.ai a o=(l,H,E)∧l.length<=z.ai.length:=⟨_,Z⟩
   refine CW.vE K ?_ ?_
   ·refine CW.loop (λu:Nat×List Block×Int×Int×Option Addr×Nat=>[(1,.int .i64 u.2.2.1),(2,.int .i64 u.2.2.2.1),(3,.pointer (some ⟨b3,0,none⟩)),(6,.pointer (some ⟨b6,0,none⟩)),(8,.pointer (some ⟨b8,0,none⟩))])
     (λu y=>Ext w y∧ay y b3 98 (bu r)∧ay y b6 98 (bu .zero)∧ay y b8 98 [.int .i64 s.aE,.int .i64 s.To,.slice u.2.2.2.2.1 u.2.1.length u.2.2.2.2.2,.slice s.Types.A s.Types.n s.Types.c]∧
       Own y w.heap.size 129 3 aL u.2.2.2.2.1 u.2.1.length u.2.2.2.2.2 u.2.1∧Own y w.heap.size 3 1 aT s.Types.A s.Types.n s.Types.c z.Types∧Fw z a o u.1 u.2.1 u.2.2.1 u.2.2.2.1) (λu=>(5-u.2.2.2.1).toNat) (5,z.ai,a,o,s.ai.A,s.ai.c)
     ⟨Z,Z,Z,Z,Z,trivial⟩ ⟨m,j,e,n,D,x,⟨ze,Z,by simp only;omega,Ph _⟩⟩ ?_
    rintro⟨f,l,H,E,A,c⟩ y ⟨m,j,e,n,D,x,M⟩;simp only at n D M⊢;obtain⟨k1,k2,k3,k4,k5⟩:=M.ok.fit;have zk:=M.len;have hp:=bP k1 k2;have zq:=kG k1 k2;by_cases zb:E<4
    ·obtain⟨m1,m2,m3⟩:=sb Y k1 zb k5;have em:H.tmod (pw (E+1))=H % (pw (E+1)):=Pv Y;have W:beside H E=if H % (pw (E+1))=0 then H+pw E else H-pw E:=by unfold beside;rw[zq]
     generalize I:beside H E=LI at m1 m2 m3 W;have zl:l.length*24<=140737488355328:=Pj (PC 24 Y) hf;have cW:=pY A l.length c l LI E;by_cases zd:H % (pw (E+1))=0
     ·rw[if_pos zd]at W;repeat'(first|refine Wz ?_|(refine SW.call Z Z (dk _ Y _) ?_;intro v w1 g J;subst J;have m:=m.trans g;have j:=j.ext g;have e:=e.ext g;have n:=n.ext g;have D:=D.ext g;have x:=x.ext g))
      all_goals try omega
      rw[<-W];refine SW.call Z Z (cW _ D.sl zl) λv w5 p J=>?_;obtain⟨B,d,rfl,L⟩:=J;have L:=L.low m.size;(have m:=m.trans p;have j:=j.ext p;have e:=e.ext p;have n:=n.ext p;have D:=D.ext p;have x:=x.ext p);cases N:l.any (r9 LI E)
      ·have zg:=M.stop (.inr (by rw[I];exact N));repeat'(first|refine Wz ?_|(refine CW.bQ Z ?_))
       exact ah.fW (K:=K) (by rw[hK];exact⟨l,H,E,A,c,⟨Z,Z,Z,Z,Z,trivial⟩,m,j,e,n,D,x,M.ok,zg,M.len⟩)
      obtain⟨f',Q⟩:=M.next o1 zb (by rw[I];exact N)
      rw[I]at Q;repeat'(first|refine Wz ?_|(refine CW.bo Z ?_))
      refine SW.mJ (i:=2) n Z Z Z Z λw7 G C=>?_;have X:=n.gr C;have m:=m.own U C;have e:=e.grown C (by simpa using P);have j:=j.grown C (by simpa using V);(have L:=L.aQ X Z;have x:=x.aQ X Z);have za:min H LI=H:=Y;rw[za]at Q;refine Wz ?_;all_goals try omega
      exact ah.again (f',bJ l LI E,H,E+1,B,d) ⟨Z,Z,Z,Z,Z,trivial⟩ dD ⟨m,j,e,G,L,x,Q⟩
     rw[if_neg zd]at W;repeat'(first|refine Wz ?_|(refine SW.call Z Z (dk _ Y _) ?_;intro v w1 g J;subst J;have m:=m.trans g;have j:=j.ext g;have e:=e.ext g;have n:=n.ext g;have D:=D.ext g;have x:=x.ext g))
     all_goals try omega
     rw[<-W];refine SW.call Z Z (cW _ D.sl zl) λv w5 p J=>?_;obtain⟨B,d,rfl,L⟩:=J;have L:=L.low m.size;(have m:=m.trans p;have j:=j.ext p;have e:=e.ext p;have n:=n.ext p;have D:=D.ext p;have x:=x.ext p);cases N:l.any (r9 LI E)
     ·have zg:=M.stop (.inr (by rw[I];exact N));repeat'(first|refine Wz ?_|(refine CW.bQ Z ?_))
      exact ah.fW (K:=K) (by rw[hK];exact⟨l,H,E,A,c,⟨Z,Z,Z,Z,Z,trivial⟩,m,j,e,n,D,x,M.ok,zg,M.len⟩)
     obtain⟨f',Q⟩:=M.next o1 zb (by rw[I];exact N)
     rw[I]at Q;repeat'(first|refine Wz ?_|(refine CW.bo Z ?_))
     refine SW.mJ (i:=2) n Z Z Z Z λw7 G C=>?_;have X:=n.gr C;have m:=m.own U C;have e:=e.grown C (by simpa using P);have j:=j.grown C (by simpa using V);(have L:=L.aQ X Z;have x:=x.aQ X Z);have za:min H LI=LI:=Y;rw[za]at Q;refine Wz ?_;all_goals try omega
     exact ah.again (f',bJ l LI E,LI,E+1,B,d) ⟨Z,Z,Z,Z,Z,trivial⟩ dD ⟨m,j,e,G,L,x,Q⟩
    refine Wz ?_;exact ah.fW (K:=K) (by rw[hK];exact⟨l,H,E,A,c,⟨Z,Z,Z,Z,Z,trivial⟩,m,j,e,n,D,x,M.ok,M.stop (.inl zb),M.len⟩)
   subst hK;rintro L' y ⟨l,H,E,A,c,zm,m,j,e,n,D,x,M,zh,zk⟩;refine ah.sub zm ?_;obtain⟨k1,k2,k3,k4,k5⟩:=M.fit;obtain⟨k,hk,zr⟩:=vV hz k3 k4;have zz:=x.sl.len;have zs:k<s.Types.n:=Y;have zt:=sW hq F S zh (t:=z.Types[k]) (by rw[hk];simp[List.getD_eq_getElem?_getD,List.getElem?_eq_getElem zr]);rw[zt,<-JP M.Ns];have hA:=x.sl.base;refine Wz ?_;refine CW.any 14 mixed (cy bm) Z λw1 g zn=>?_;have m:=m.trans g;have j:=j.ext g;have e:=e.ext g;have n:=n.ext g;have D:=D.ext g;have x:=x.ext g;refine Wa ?_;refine Wu 11 zn Z (aU (k) Z Z ig Y Y) ?_;refine Wu 12 zn Z (aJ Z (x.sl.one zs Z)) ?_;refine Wa ?_;refine SA.done bm ?_;refine SW.call Z Z (nT A l.length c l ⟨H,E,z.Types[k]⟩ _ D.sl (Pj (PC 24 Y) hf)) λv w5 p J=>?_;obtain⟨B,d,rfl,L⟩:=J;have L:=L.low m.size;(have m:=m.trans p;have j:=j.ext p;have e:=e.ext p;have n:=n.ext p;have D:=D.ext p;have x:=x.ext p);refine Wz ?_;refine SW.mJ (i:=2) n Z Z Z Z λw7 G C=>?_;have X:=n.gr C;have m:=m.own U C;have e:=e.grown C (by simpa using P);(have L:=L.aQ X Z;have x:=x.aQ X Z);refine Wz ?_;refine SW.dY e Z Z Z Z (ck ⟨s.aE,s.To,⟨B,l.length+1,d⟩,s.Types⟩) λw9 O C=>?_;have X:=e.gr C;have m:=m.own R C;(have L:=L.aQ X Z;have x:=x.aQ X Z);refine Wz ?_;exact ah.a9 Z Z Z O Z ⟨_,Z,m,⟨s.aE,s.To,⟨B,l.length+1,d⟩,s.Types⟩,Z,sF,sT,L,x⟩
  rw[S]at cC;rw[vX hq F S];repeat'(first|refine Wz ?_|(refine CW.bo Z ?_)|((first|refine SW.call Z Z (c1 _ m) ?_|refine SW.call Z Z (cF _) ?_|refine SW.call Z Z (cC _ m) ?_);intro v w1 g J;subst J;have m:=m.trans g;have j:=j.ext g;have e:=e.ext g))
  refine SW.dY e Z Z Z Z (ck .zero) λw5 O C=>?_;have m:=m.own R C;refine Wz ?_;exact ah.a9 Z Z Z O Z ⟨_,Z,m,.zero,Z,fv.zero _ _⟩
 rw[decide_eq_false F]at cF;rw[sV hq F];repeat'(first|refine Wz ?_|(first|refine CW.bQ Z ?_|refine CW.bo Z ?_)|((first|refine SW.call Z Z (c1 _ m) ?_|refine SW.call Z Z (cF _) ?_);intro v w1 g J;subst J;have m:=m.trans g;have j:=j.ext g;have e:=e.ext g))
 refine SW.dY e Z Z Z Z (ck .zero) λw5 O C=>?_;have m:=m.own R C;refine Wz ?_;exact ah.a9 Z Z Z O Z ⟨_,Z,m,.zero,Z,fv.zero _ _⟩
theorem jY(r:fB)(h:Heap)(w:World)(O:AQ w r h)(hs:h.small):
 aS prog 105 [.agg (bg r).toArray] w λv u=>∃s,v= .agg (bg s).toArray∧ik u w.heap.size s h:=by
 refine Wj func105 ntmps105 ?_;refine Ww λI w1 n zl f=>?_;refine SW.alloc Z λJ w2 zk ze j=>?_;have zm:=n.up ze;have zn:J≠I:=by have:=f.lt;omega
 obtain⟨n,f⟩:=bk zk n f;obtain⟨zs,hz⟩:=O.bA;obtain⟨ls,hl⟩:=O.lists;have zt:=O.cx.len;have zu:=O.live.len;have s1:=hs.cx;have s2:=hs.live;have s3:=hs.bA;have s4:=hs.lists;obtain⟨z1,z2⟩:=hz.len;obtain⟨l1,l2⟩:=hl.len;refine Wz ?_
 obtain⟨K,hK⟩:∃K:Env->World->Prop,K=λL' u=>∃X c1 a d1 z,eA L' [(1,Pt I),(2,Pt J),(3,Pt z)]∧Ext w u∧ay u I 34 (bg r)∧ay u J 34 (bg .zero)∧
  ay u z 34 (bg ⟨.nil,⟨X,r.bY.n,c1⟩,r.bl,.nil,⟨a,r.Live.n,d1⟩⟩)∧Own u w.heap.size 3 1 aT X r.bY.n c1 h.bY∧Own u w.heap.size 129 3 aL a r.Live.n d1 h.Live∧w.heap.size<=z∧I≠z∧J≠z:=⟨_,Z⟩
 refine CW.cut K ?_ ?_
 ·focus
   refine CW.any 10 mixed (cy bm) Z λw1 zf zv=>?_;obtain⟨n,f,j⟩:=aY zf n f j;refine Wa ?_;refine SA.two 2 9 Z Z bm Z Z ?_ ?_
   focus
    refine Wk (iM _ _ _ _ _ (O.cx.ext n) Y) λv P l H=>?_;obtain⟨X,R,rfl,o⟩:=H;have o:=o.low n.size;obtain⟨n,f,j⟩:=aY l n f j;try have m:=m.ext l
    refine SW.nil (ah.sa l ?_);refine SA.two 7 9 Z Z bm Z Z ?_ ?_
    focus
     refine Wk (oW _ _ _ _ _ (O.live.ext n) Y) λv P l H=>?_;obtain⟨a,Q,rfl,p⟩:=H;have p:=p.low n.size;obtain⟨o,n,f,j⟩:=cG l o n f j;try have m:=m.ext l
     refine SW.nil (ah.sa l ?_);refine Wa ?_;refine SA.bD 9 ?_;refine SW.alloc Z λz P l D m=>?_;have E:=n.up D;have F:I≠z:=by have:=f.lt;omega
     have G:J≠z:=by have:=j.lt;omega
     obtain⟨n,f,j⟩:=aY l n f j;try have o:=o.ext l
     try have p:=p.ext l
     refine SW.nil (ah.sa l ?_)
    rotate_left
    focus
     refine SW.alloc Z λz P l D m=>?_;have E:=n.up D;have F:I≠z:=by have:=f.lt;omega
     have G:J≠z:=by have:=j.lt;omega
     obtain⟨n,f,j⟩:=aY l n f j;try have o:=o.ext l
     try have p:=p.ext l
     refine SW.nil (ah.sa l ?_);refine SA.bD 7 ?_;refine Wk (oW _ _ _ _ _ (O.live.ext n) Y) λv P l H=>?_;obtain⟨a,Q,rfl,p⟩:=H;have p:=p.low n.size;obtain⟨o,n,f,j⟩:=cG l o n f j;try have m:=m.ext l
     refine SW.nil (ah.sa l ?_);refine Wa ?_
    rotate_left
   rotate_left 2
   focus
    refine SW.alloc Z λz P l D m=>?_;have E:=n.up D;have F:I≠z:=by have:=f.lt;omega
    have G:J≠z:=by have:=j.lt;omega
    obtain⟨n,f,j⟩:=aY l n f j;try have o:=o.ext l
    try have p:=p.ext l
    refine SW.nil (ah.sa l ?_);refine SA.bD 2 ?_;refine Wk (iM _ _ _ _ _ (O.cx.ext n) Y) λv P l H=>?_;obtain⟨X,R,rfl,o⟩:=H;have o:=o.low n.size;obtain⟨n,f,j⟩:=aY l n f j;try have m:=m.ext l
    refine SW.nil (ah.sa l ?_);refine SA.bD 7 ?_;refine Wk (oW _ _ _ _ _ (O.live.ext n) Y) λv P l H=>?_;obtain⟨a,Q,rfl,p⟩:=H;have p:=p.low n.size;obtain⟨o,n,f,j⟩:=cG l o n f j;try have m:=m.ext l
    refine SW.nil (ah.sa l ?_);refine Wa ?_
   rotate_left
   all_goals
    refine SA.fH ?_;skip;refine Wh m (bw ⟨.nil,⟨X,r.bY.n,R⟩,r.bl,.nil,⟨a,r.Live.n,Q⟩⟩) λw5 g T=>?_;obtain⟨n,o,p,f,j⟩:=dz g n o p f j;refine Wz ?_;exact ah.cut (K:=K) (by rw[hK];exact⟨X,R,a,Q,z,⟨Z,Z,Z,trivial⟩,n,f,j,T,o,p,E,F,G⟩)
 subst hK;rintro L' u ⟨X,R,a,Q,z,S,n,f,j,m,o,p,E,F,G⟩;refine ah.sub S ?_;refine Wz ?_
 refine CW.loop (λs:Nat×Option Addr×Nat×List cM=>[(1,Pt I),(2,Pt J),(3,Pt z),(4,Iv (s.1:Int))])
  (λs u=>s.1<=r.aK.n∧Ext w u∧ay u I 34 (bg r)∧ay u J 34 (bg .zero)∧ay u z 34 (bg ⟨⟨s.2.1,s.1,s.2.2.1⟩,⟨X,r.bY.n,R⟩,r.bl,.nil,⟨a,r.Live.n,Q⟩⟩)∧Own u w.heap.size 3 1 aT X r.bY.n R h.bY∧Own u w.heap.size 129 3 aL a r.Live.n Q h.Live∧
    jM u w.heap.size ⟨s.2.1,s.1,s.2.2.1⟩ s.2.2.2 (h.aK.take s.1)) (λs=>r.aK.n-s.1) (0,none,0,[]) ⟨Z,Z,Z,Z,trivial⟩ ⟨by omega,n,f,j,m,o,p,jM.nil _ _⟩ ?_
 rintro⟨k,A,c,zr⟩ u ⟨hk,n,f,j,m,o,p,t⟩;simp only at hk m t⊢;have hA:=hz.row.base;by_cases U:k<r.aK.n
 ·have V:=hz.each.get k Y Y;have za:h.aK[k]'Y∈h.aK:=Pf _;have q:=hs.free _ za;have q1:=V.free.len;have q2:=V.types.len;repeat'(first|refine Wz ?_|refine Wo n ((hz.row.all U)) ?_)
  refine Wk (o6 _ _ _ (V.ext n) Y Y) λv P l H=>?_;obtain⟨s,rfl,y⟩:=H;have y:=y.low n.size;obtain⟨n,f,j,m,o,p,t⟩:=iX l n f j m o p t;refine Wr (ck s) λb5 w2 l zg zh=>?_;have zo:=n.up zg;obtain⟨n,f,j,m,o,p,t,y⟩:=nS l n f j m o p t y;refine Wz ?_;refine SW.bz Z Z Z Z Z λb P l hb hB=>?_;obtain⟨n,f,j,m,zh,o,p,t,y⟩:=HG l n f j m zh o p t y;refine SW.append t.row (ay.la (enc:=bu) hB) n.size Z Z Z dD dD λA2 c2 w5 zb hg=>?_;have hG:=t.row.gr hg;have n:=au n hg (Ph _) t.row.az;obtain⟨f,j,m,o,p,y⟩:=fi hG f j m o p y;have hE:=t.each.mono λ_ _ h=>h.aQ hG Z;refine Wz ?_;refine We (i:=0) m λw6 g L=>?_;obtain⟨n,f,j,o,p,y,zb⟩:=iX g n f j o p y zb;have hE:=hE.mono λ_ _ h=>h.aQ g.T Z;refine Wz ?_;refine ah.again (k+1,A2,c2,zr++[s]) ⟨Z,Z,Z,Z,trivial⟩ dD ⟨by simp only;omega,n,f,j,L,o,p,zb,?_⟩;rw[Pk Y];exact hE.snoc y
 obtain rfl:k=r.aK.n:=Y;rw[Pl Y]at t;refine Wz ?_
 refine CW.loop (λs:Nat×Option Addr×Nat×List cV=>[(1,Pt I),(2,Pt J),(3,Pt z),(6,Iv (s.1:Int))])
  (λs u=>s.1<=r.ak.n∧Ext w u∧ay u I 34 (bg r)∧ay u J 34 (bg .zero)∧ay u z 34 (bg ⟨⟨A,r.aK.n,c⟩,⟨X,r.bY.n,R⟩,r.bl,⟨s.2.1,s.1,s.2.2.1⟩,⟨a,r.Live.n,Q⟩⟩)∧Own u w.heap.size 3 1 aT X r.bY.n R h.bY∧Own u w.heap.size 129 3 aL a r.Live.n Q h.Live∧
    jM u w.heap.size ⟨A,r.aK.n,c⟩ zr h.aK∧dw u w.heap.size ⟨s.2.1,s.1,s.2.2.1⟩ s.2.2.2 (h.ak.take s.1)) (λs=>r.ak.n-s.1) (0,none,0,[]) ⟨Z,Z,Z,Z,trivial⟩ ⟨by omega,n,f,j,m,o,p,t,dw.nil _ _⟩ ?_
 rintro⟨k,B,d,lr⟩ u ⟨hk,n,f,j,m,o,p,t,C⟩;simp only at hk m C⊢;have hA:=hl.row.base;by_cases U:k<r.ak.n
 ·have M:=hl.each.get k Y Y;have za:h.ak[k]'Y∈h.ak:=Pf _;have q:=hs.bt _ za;have q1:=M.bt.len;repeat'(first|refine Wz ?_|refine Wo n ((hl.row.all U)) ?_)
  have zi:=C.row.lt_size;refine Wr (u6 _) λb7 w2 l zj zc=>?_;have zp:=n.up zj;obtain⟨n,f,j,m,o,p,t,C⟩:=nS l n f j m o p t C;refine Wz ?_;refine Wk (iM _ _ _ _ _ (M.bt.ext n) Y) λv P l H=>?_;obtain⟨W,e4,rfl,N⟩:=H;have N:=N.low n.size;obtain⟨n,f,j,m,zc,o,p,t,C⟩:=HG l n f j m zc o p t C;refine Wz ?_;refine We (i:=3) zc λw5 g zq=>?_;obtain⟨n,f,j,m,o,p,t,N⟩:=nS g n f j m o p t N;have C:dw w5 w.heap.size ⟨B,k,d⟩ lr (h.ak.take k):=⟨C.row.grown g.g (.inr (λe=>by have:=zi _ e;omega)),C.each.mono λ_ _ h=>h.aQ g.T Z⟩;refine Wz ?_;refine SW.bz Z Z Z Z Z λb w6 l hb hB=>?_;obtain⟨n,f,j,m,o,p,t,C,N⟩:=HG l n f j m o p t C N;refine SW.append C.row (ay.la (enc:=fj) (x:=⟨ls[k].ep,ls[k].ap,ls[k].Ty,⟨W,_,e4⟩⟩) hB) n.size Z Z Z dD dD λA2 c2 w7 zd hg=>?_;have hG:=C.row.gr hg;have n:=au n hg (Ph _) C.row.az;obtain⟨f,j,m,o,p,t,N⟩:=iX hG f j m o p t N;have hE:=C.each.mono λ_ _ h=>h.aQ hG Z;refine Wz ?_;refine We (i:=3) m λw8 g L=>?_;obtain⟨n,f,j,o,p,t,zd,N⟩:=nS g n f j o p t zd N;have hE:=hE.mono λ_ _ h=>h.aQ g.T Z;refine Wz ?_;refine ah.again (k+1,A2,c2,lr++[⟨ls[k].ep,ls[k].ap,ls[k].Ty,⟨W,_,e4⟩⟩]) ⟨Z,Z,Z,Z,trivial⟩ dD ⟨by simp only;omega,n,f,j,L,o,p,t,zd,?_⟩;rw[Pk Y];exact hE.snoc ⟨M.cpu,M.fX,M.ty,N⟩
 obtain rfl:k=r.ak.n:=Y;rw[Pl Y]at C;refine Wz ?_;refine Wh j (bw _) λw5 g T=>?_;obtain⟨n,o,p,t,C⟩:=dz g n o p t C;refine Wz ?_;exact ah.nu Z Z T Z ⟨_,Z,n,⟨_,_,r.bl,_,_⟩,Z,O.cpus,o,p,⟨zr,t⟩,⟨lr,C⟩⟩
variable {α:Type} {T e:TypeId} {w1 w2:World}
section
variable {P:Program}{L:Env}{w:World}{d:Option Nat}{T:TypeId}{pos:String}{af:Array Edge}{g:Option (Nat×Bool)}
theorem pa{b:Nat}[c:wq P t b e 1][iA P e]{x:Operand}{vs:List Value}{i:Int}{v:Value}(k:Nat)(h:cg L x=some (.agg vs.toArray))(j:cg L y=some (Iv i))(l:i=(k:Int))(m:k<b)(n:vs[k]?=some v):
 St P ⟨d,.index t x y,T,pos,af,g⟩ L w v:=
 ⟨λ_ a f q _=>by
  subst l;have o:=f.eval h;have p:=f.eval j;generalize a.eval=ρ at*;simp[execOp,o,p,Instr.index,asIntOf,run_underlying c.mg,run_sizeOf c.size,m,part,rJ,n]⟩
end
theorem JS(o t:Int)(f g:Nat)(x:Block)(w:World)(c:ay w f 3 [Iv o])(d:ay w g 3 [Iv t]):
 aS prog 245 ([.agg (aL x).toArray]++[Pt f,Pt g]) w λv _=>v= .bool (jN o t x):=by
 refine Wj func245 ntmps245 ?_;refine Ww λl m e h k=>?_;obtain⟨c,d⟩:=bk e c d;have a:=c.cell (i:=0) (v:=Iv o) Z;have b:=d.cell (i:=0) (v:=Iv t) Z;rw[add_zero]at a b;by_cases j:x.Order=o
 ·repeat'(first|refine Wz ?_|refine Wl a ?_|refine Wl b ?_)
  exact ah.aF Z Z ⟨_,Z,e,by simp[jN,j]⟩
 repeat'(first|refine Wz ?_|refine Wl a ?_)
 exact ah.aF Z Z ⟨_,Z,e,by simp[jN,j]⟩
theorem FB(r:cM)(l:List Block)(o t:Int)(w:World)(q:Sl w 3 aL r.ai.A r.ai.n l)(s:r.ai.n<=9223372036854775807):
 aS prog 233 [.agg (bu r).toArray,Iv o,Iv t] w λv _=>v=Iv (idxOf (jN o t) l):=by
 refine Wj func233 ntmps233 ?_;refine Ww λu k b m a=>?_;refine SW.JJ Z Z Z λe y f n c=>?_;obtain⟨b,a⟩:=bk f b a;refine SW.JJ Z Z Z λg z h p i=>?_;obtain⟨b,a,c⟩:=aY h b a c;repeat'(first|refine Wz ?_|(refine SW.st (gH (vs:=[Pt e,Pt g]) Z) Z ?_))
 refine Wc (mM _ _ _ _ _ (q.ext b) _ [Pt e,Pt g] (jN o t) (λx=> .agg (aL x).toArray) (λx=>Z) (λx A k d=>JS o t e g x k (c.ext d) (i.ext d)) s) λB j=>?_;have b:=b.trans j;refine Wz ?_;exact ah.aF Z Z ⟨_,Z,b,Z⟩
structure ow(T:TypeId)(w w':World):Prop where
 out:∀b cs,ay w b T cs->ay w' b T cs
theorem ow.refl(T:TypeId)(w:World):ow T w w:=⟨λ_ _ h=>h⟩
theorem ow.ext(h:ow T w w1)(a:Ext w1 w2):ow T w w2:=⟨λb cs hb=>(h.out b cs hb).ext a⟩
theorem ow.aQ(h:ow T w w1)(c:oe w1 w2 t)(a:Nat.beq t T=false):ow T w w2:=⟨λb cs hb=>(h.out b cs hb).aQ c a⟩
def HQ(T:List Int)(i:Nat)(t:Int)(c:Nat):List Int:=if c=0 then T else if c<=8 then T.set i t else(T.set i t).set (i+1) t
theorem HR{T:List Int}{t:Int}{c:Nat}(a:c<16):(HQ T i t c).set (i+c / 8) t=HQ T i t (c+1):=by
 unfold HQ;rcases(show c=0∨(1<=c∧c<8)∨c=8∨(8<c∧c<16)by omega)with rfl|h|rfl|h
 ·simp
 ·have e:c / 8=0:=Y;rw[if_neg Y,if_pos Y,if_neg Y,if_pos Y,e,Q8,Ra]
 ·simp
 have e:c / 8=1:=Y;rw[if_neg Y,if_neg Y,if_neg Y,if_neg Y,e,Ra]
def k7(f:α->α)(l:List α)(j:Nat):List α:=(l.take j).map f++l.drop j
theorem Bo{f:α->α}{l:List α}:(k7 f l j).length=l.length:=by grind[k7]
theorem ug{f:α->α}{l:List α}(a:j<l.length):(k7 f l j)[j]'(by grind[Bo])=l[j]:=by
 have e:(k7 f l j)[j]?=l[j]?:=by
  unfold k7<;>grind
 grind
theorem rj{f:α->α}{l:List α}(a:j<l.length):(k7 f l j).set j (f l[j])=k7 f l (j+1):=by
 unfold k7;rw[QH _ _ (by simp;omega)];grind[List.set_append_right,List.take_succ_eq_append_getElem,List.drop_eq_getElem_cons]
theorem wK{f:α->α}{l:List α}(a:j<l.length)(b:f l[j]=l[j]):k7 f l (j+1)=k7 f l j:=by
 rw[<-rj a,b];grind[rj,ug,List.set_getElem_self,Bo]
theorem wL{f:α->α}{l:List α}:k7 f l 0=l:=by simp[k7]
theorem Bp{f:α->α}{l:List α}:k7 f l l.length=l.map f:=by simp[k7]
theorem JT(j:f % 16=0)(e:f<=a)(k:2<=o)(g:o<=4)(h:a % pw o=0){c:Nat}(i:(c:Int)<pw o):(a+c-f) / 8=((((a-f) / 8).toNat+c / 8:Nat):Int):=by
 rcases eE (show 0<=o by omega) g with⟨d,b⟩|⟨d,b⟩|⟨d,b⟩|⟨d,b⟩|⟨d,b⟩<;>rw[b]at h i<;>omega
theorem JU{b:Block}(a:2<=b.Order)(c:b.Order<=4)(d:b.At % pw b.Order=0):max (b.At+pw b.Order) (b.At / 8*8+8)=ov b:=by
 unfold ov<;>grind[ov,eE]
structure JV(base w:World)(r:cM)(z:ap)(b:Block)(t:Int)(w':World):Prop where
 ext:Ext base w'
 j7:ow 98 w w'
 free:Own w' base.heap.size 129 3 aL r.ai.A r.ai.n r.ai.c (fY z.ai b t)
 types:Own w' base.heap.size 3 1 aT r.Types.A r.Types.n r.Types.c (fb z b t)
theorem Bq(r:cM)(z:ap)(k:Nat)(t:Int)(i w:World)(hB:Ext i w)(g:Own w i.heap.size 129 3 aL r.ai.A r.ai.n r.ai.c z.ai)(h:Own w i.heap.size 3 1 aT r.Types.A r.Types.n r.Types.c z.Types)
 (eF:r.aE=z.aE) (W:bV z) (hk:k<z.ai.length) (hn:r.ai.n<=1000000000000000000):
 jX prog 234 [.agg (bu r).toArray,Iv (k:Int),Iv t] w λ_ o=>JV i w r z z.ai[k] t o:=by
 refine c8 func234 rfl ntmps234 rfl ?_;obtain⟨L,I,f3,f4,X⟩:=(W.dm k hk).1;obtain⟨o1,o2,o3,o4,o5⟩:=W.ok;have zj:=W.len;have M:=g.len;have zl:=h.len;have hA:=g.sl.base;have zm:=h.sl.base;have za:k<r.ai.n:=Y;refine Ww λN J d F a=>?_;have l:=hB.trans d;have m:ow 98 w J:=(ow.refl _ w).ext d;obtain⟨g,h⟩:=bk d g h;have zk:i.heap.size<=N:=Pj hB.size F;obtain⟨x,hx⟩:=bq (z.ai[k]);rw[hx]at L I f3 f4 X⊢;have q:=g.sl.all za;simp only[hx]at q;repeat'(first|refine Wz ?_|refine Wm q ?_)
 refine SW.alloc Z λb6 J d O n=>?_;have zb:=l.up O;have P:aN r.ai.A r.ai.c≠some b6:=λe=>by have:=g.lt_size _ e;omega
 obtain⟨l,a,g,h,m⟩:=dz d l a g h m;skip;refine Wg n (gG.one (enc:=aL) x) λw2 G q=>?_;have C:=n.gr q;have l:=l.own zb q;have g:=g.grown q (.inr P);obtain⟨a,h,m⟩:=aY C a h m;have n:=G;by_cases h2:x.Order<2
 ·refine Wz ?_;exact ah.MP Z ⟨_,Z,l,m,by rw[fY,if_pos h2];exact g,by rw[fb,if_pos h2];exact h⟩
 refine Wz ?_;have hp:=bP L I;have Q:∀c:Nat,(c:Int)<pw x.Order->(x.At+c-z.aE) / 8=((lL z x+c / 8:Nat):Int):=λc hc=>JT o4 f3 Y I X hc;have cE:∀o,aS prog 195 [.agg (aL x).toArray] o λv _=>v=Iv (x.At+pw x.Order):=λo=>ol x o ⟨L,I⟩ ⟨by omega,by omega⟩
 refine CW.loop (λc:Nat=>[(2,Iv t),(3,Pt N),(6,Pt b6),(7,Iv (x.At+(c:Int)))])
  (λc o=>(c:Int)<=pw x.Order∧Ext i o∧ow 98 w o∧ay o N 98 (bu r)∧ay o b6 129 (aL x)∧Own o i.heap.size 129 3 aL r.ai.A r.ai.n r.ai.c z.ai∧Own o i.heap.size 3 1 aT r.Types.A r.Types.n r.Types.c (HQ z.Types (lL z x) t c))
  (λc=>(pw x.Order).toNat-c) 0 ⟨Z,Z,Z,congrArg (λz=>some (Iv z)) Y,trivial⟩ ⟨by omega,l,m,a,n,g,h⟩ ?_
 rintro c o ⟨hc,l,m,a,n,g,h⟩;by_cases R:(c:Int)<pw x.Order
 ·have zn:=Q c R
  have zc:lL z x+c / 8<r.Types.n:=by
   have:x.At+c<z.To:=by
    rcases eE L I with⟨D,B⟩|⟨D,B⟩|⟨D,B⟩|⟨D,B⟩|⟨D,B⟩<;>rw[B]at X R<;>omega
   omega
  have S:c<16:=Y;repeat'(first|refine Wz ?_|refine SW.st (aU (lL z x+c / 8) Z Z ig Y Y) Z ?_|(refine Wc (cE _) λJ d=>?_;obtain⟨l,a,n,g,h,m⟩:=fi d l a n g h m))
  refine SW.j3 (lL z x+c / 8) h Z Z zc λw5 T q=>?_;have C:=h.gr q;have l:=au l q (Ph _) h.az;obtain⟨a,n,g,m⟩:=cG C a n g m;rw[HR S]at T;refine Wz ?_;exact ah.again (c+1) ⟨Z,Z,Z,congrArg (λz=>some (Iv z)) Y,trivial⟩ Y ⟨by omega,l,m,a,n,g,T⟩
 have zo:(c:Int)=pw x.Order:=Y
 have zd:HQ z.Types (lL z x) t c=fb z x t:=by
  unfold HQ fb;rcases eE L I with⟨D,B⟩|⟨D,B⟩|⟨D,B⟩|⟨D,B⟩|⟨D,B⟩
  ·omega
  ·omega
  ·rw[if_neg Y,if_pos Y,if_neg Y,if_neg Y]
  ·rw[if_neg Y,if_pos Y,if_neg Y,if_neg Y]
  rw[if_neg Y,if_neg Y,if_neg Y,if_pos Y]
 rw[zd]at h;have ze:=JU (b:=x) Y I X;repeat'(first|refine Wz ?_|(refine Wc (cE _) λJ d=>?_;obtain⟨l,a,n,g,h,m⟩:=fi d l a n g h m)|(refine SW.st ((Cy Z Z).eq (congrArg (Value.int .i64) ze)) Z ?_))
 obtain⟨f,hf⟩:=bq (Jq (x.At / 8*8) (ov x) t)
 refine CW.loop (λj:Nat=>[(2,Iv t),(3,Pt N),(8,Iv (x.At / 8*8)),(9,Iv (ov x)),(47,.slice r.ai.A r.ai.n r.ai.c),(48,Iv (r.ai.n:Int)),(49,Iv (j:Int))])
  (λj o=>j<=r.ai.n∧Ext i o∧ow 98 w o∧ay o N 98 (bu r)∧Own o i.heap.size 129 3 aL r.ai.A r.ai.n r.ai.c (k7 f z.ai j)∧Own o i.heap.size 3 1 aT r.Types.A r.Types.n r.Types.c (fb z x t))
  (λj=>r.ai.n-j) 0 ⟨Z,Z,Z,Z,Z,Z,Z,trivial⟩ ⟨by omega,l,m,a,by rw[wL];exact g,h⟩ ?_
 rintro j o ⟨hj,l,m,a,g,h⟩;by_cases U:j<r.ai.n
 ·have E:j<z.ai.length:=Y;obtain⟨g1,g2,g3,g4,g5⟩:=(W.dm j E).1;obtain⟨y,hy⟩:=bq (z.ai[j]);have s:=ug (f:=f) E;rw[hy]at g1 g2 g3 g4 g5 s;have H:=g.sl.all U;simp only[s]at H;have zp:=bP g1 g2;have cY:∀o,aS prog 195 [.agg (aL y).toArray] o λv _=>v=Iv (y.At+pw y.Order):=λo=>ol y o ⟨g1,g2⟩ ⟨by omega,by omega⟩;repeat'(first|refine Wz ?_|refine Wm H ?_)
  refine SW.alloc Z λzf J d hb p=>?_;have zg:=l.up hb;have zh:aN r.ai.A r.ai.c≠some zf:=λe=>by have:=g.lt_size _ e;omega
  obtain⟨l,a,g,h,m⟩:=dz d l a g h m;refine Wz ?_;refine Wg p (gG.one (enc:=aL) y) λw2 u q=>?_;have C:=p.gr q;have l:=l.own zg q;have g:=g.grown q (.inr zh);obtain⟨a,h,m⟩:=aY C a h m;have p:=u;by_cases A:x.At / 8*8<=y.At∧y.At+pw y.Order<=ov x
  ·have K:f y=⟨y.At,y.Order,t⟩:=by rw[<-hf];unfold Jq;rw[if_pos A]
   repeat'(first|refine Wz ?_|(refine Wc (cY _) λJ d=>?_;obtain⟨l,a,p,g,h,m⟩:=fi d l a p g h m))
   refine SW.eY j 2 ⟨y.At,y.Order,t⟩ g Z Z Z U ir Z (by rw[s];rfl) λw5 V q=>?_;have C:=g.gr q;have l:=au l q (Ph _) g.az;obtain⟨a,h,m⟩:=aY C a h m;rw[<-K,<-hy,rj E]at V;refine Wz ?_;exact ah.again (j+1) ⟨Z,Z,Z,Z,Z,Z,Z,trivial⟩ Y ⟨by omega,l,m,a,V,h⟩
  have K:f y=y:=by rw[<-hf];unfold Jq;rw[if_neg A]
  have zi:=wK (f:=f) E (by rw[hy];exact K);by_cases zq:x.At / 8*8<=y.At
  all_goals
   repeat'(first|refine Wz ?_|(refine Wc (cY _) λJ d=>?_;obtain⟨l,a,p,g,h,m⟩:=fi d l a p g h m))
   exact ah.again (j+1) ⟨Z,Z,Z,Z,Z,Z,Z,trivial⟩ Y ⟨by omega,l,m,a,by rw[zi];exact g,h⟩
 obtain rfl:j=r.ai.n:=Y;refine Wz ?_;rw[<-M,Bp,M,<-hf]at g;exact ah.vG Z ⟨_,Z,l,m,by rw[fY,if_neg h2];exact g,h⟩
structure dM(w:World)(lo g c:Nat)(u0 u1:cM)(s:ap×ap):Prop where
 row:Own w lo 98 4 bu (some ⟨g,0,none⟩) 2 c [u0,u1]
 z0:fv w lo u0 s.1
 z1:fv w lo u1 s.2
 xD:lo<=g
 pos:0<c
section
variable {w w':World}{lo nn g c t:Nat}{u0 u1:cM}{s:ap×ap}
theorem dM.ext(h:dM w lo g c u0 u1 s)(a:Ext w w'):dM w' lo g c u0 u1 s:=⟨h.row.ext a,h.z0.ext a,h.z1.ext a,h.xD,h.pos⟩
theorem dM.aQ(h:dM w lo g c u0 u1 s)(b:oe w w' t)(a:(Nat.beq t 98||(Nat.beq t 3||Nat.beq t 129))=false):dM w' lo g c u0 u1 s:=by
 rw[Qo]at a;exact⟨h.row.aQ b a.1,h.z0.aQ b a.2,h.z1.aQ b a.2,h.xD,h.pos⟩
theorem dM.own(h:dM w lo g c u0 u1 s):aN (some (⟨g,0,none⟩:Addr)) c=some g:=by simp[aN,Nat.pos_iff_ne_zero.1 h.pos]
theorem dM.gr(h:dM w lo g c u0 u1 s)(a:w.grownBy w' (some g)):oe w w' 98:=h.row.gr (by rw[h.own];exact a)
theorem kM{u:cM}(h:fv w lo u z)(a:bV z):(u.ai.n+1)*24<=140737488355328∧u.Types.n*8<=140737488355328∧(0<=u.aE∧u.aE<=256)∧(0<=u.To∧u.To<=256):=by
 have b:=h.free.sl.len;have c:=h.types.sl.len;have d:=h.from_;have e:=h.kW;have f:=js a;obtain⟨g,i,j,k,l⟩:=a.ok<;>grind
end
theorem uB(r:fB)(a e:cM)(p:Int)(w:World)(b:Sl w 4 bu r.aK.A r.aK.n [a,e]):
 aS prog 157 [.agg (bg r).toArray,Iv p] w λv _=>v=Iv (if p<a.To then 0 else 1):=by
 refine Wj func157 ntmps157 ?_;refine Ww λk l c d f=>?_;have m:=b.base;have n:2=r.aK.n:=b.len;have g:0<r.aK.n:=Y;have i:=b.dp g (j:=1) (u:=Iv a.To) Z;repeat'(first|refine Wz ?_|(refine CW.og Z (λh=>?_) (λh=>?_))|refine Wn c i ?_)
 all_goals
  refine ah.aF Z Z ⟨_,Z,c,?_⟩
  first|(rw[if_pos Y])|(rw[if_neg Y])
theorem ve(r:fB)(e a:cM)(p:Int)(w:World)(b:Sl w 4 bu r.aK.A r.aK.n [e,a]):
 aS prog 114 [.agg (bg r).toArray,Iv p] w λv _=>v=Iv (if p<a.aE then 0 else 1):=by
 refine Wj func114 ntmps114 ?_;refine Ww λk l c d f=>?_;have m:=b.base;have n:2=r.aK.n:=b.len;have g:1<r.aK.n:=Y;have i:=b.dp g (j:=0) (u:=Iv a.aE) Z;repeat'(first|refine Wz ?_|(refine CW.og Z (λh=>?_) (λh=>?_))|refine Wn c i ?_)
 all_goals
  refine ah.aF Z Z ⟨_,Z,c,?_⟩
  first|(rw[if_pos Y])|(rw[if_neg Y])
def G6(w:World)(lo g c:Nat)(s:ap×ap)(b:Block)(a:World):Prop:=w.grownBy a (some g)∧∃d e,dM a lo g c d e (eI s b)
theorem uC(m:jC)(z:Int)(li A:jC)(l q:cM)(s:ap×ap)(bs:List Block)(b:Block)(lo g c F:Nat)(w:World)(e:ay w F 34 (bg ⟨⟨some ⟨g,0,none⟩,2,c⟩,m,z,li,A⟩))(d:dM w lo g c l q s)(r:lo<=w.heap.size)(G:oy s bs)(P:nG bs b):
 jX prog 147 [Pt F,Iv b.At,Iv b.Order] w λv p=>G6 w lo g c s b p:=by
 refine c8 func147 rfl ntmps147 rfl ?_;have i:=Ext.refl w;have Q:=d.z0.kW;obtain⟨I,J,R,S⟩:=kM d.z0 G.kD;obtain⟨K,L,T,U⟩:=kM d.z1 G.j8;have V:=d.row.sl.base;have y:∀p,Sl p 4 bu (some ⟨g,0,none⟩) 2 [l,q]->aS prog 157 [.agg (bg ⟨⟨some ⟨g,0,none⟩,2,c⟩,m,z,li,A⟩).toArray,Iv b.At] p λv _=>v=Iv (if b.At<l.To then 0 else 1):=λp h=>uB ⟨⟨some ⟨g,0,none⟩,2,c⟩,m,z,li,A⟩ l q b.At p h;by_cases H:b.At<l.To
 ·have B:eI s b=((eX s.1 b.At b.Order).2,s.2):=by unfold eI;rw[if_pos Y]
  simp only[if_pos H]at y;have M:=d.row.sl;have t:0<2:=Y;repeat'(first|refine Wz ?_|(refine Wc (y _ d.row.sl) λC f=>?_;obtain⟨i,e,d⟩:=aY f i e d))
  refine CW.iF 19 19 (λ_=>True) mixed bm λC f a=>?_;obtain⟨i,e,d⟩:=aY f i e d;refine Wp 0 [] [] a Z Z ?_;refine Wt 1 [] [] a Z (aX Z) ?_;refine Wt 2 [] [] a Z (aI Z) ?_;refine Wt 3 [] [] a Z (aJ Z (e.cell Z)) ?_;refine Wp 4 [] [] a Z Z ?_;refine Wp 5 [] [] a Z Z ?_;refine Wt 6 [] [] a Z (aX Z) ?_;refine Wt 7 [] [] a Z (aI Z) ?_;refine Wt 8 [] [] a Z (aJ Z (e.cell Z)) ?_;refine Wp 9 [] [] a Z Z ?_;refine Wt 10 [] [] a Z (bO Z Z ig Y) ?_;refine Wt 11 [] [] a Z (cv Z Z ((d.row.sl.all t))) ?_;refine Wp 12 [] [] a Z Z ?_;refine Wp 13 [] [] a Z Z ?_;refine SF.bD 14 ?_;refine Wk (oq l s.1 b.At b.Order _ d.z0.rd I J ⟨by omega,by omega⟩ ⟨by omega,by omega⟩) λv N k D=>?_;obtain⟨u,rfl,j⟩:=D;have j:=j.low (Pj r i.size);obtain⟨i,e,d⟩:=aY k i e d;refine SW.nil (ah.sf k ?_);refine Wp 15 [] [] a Z Z ?_;refine Wp 16 [] [] a Z Z ?_;refine SF.gm 17 a Z bm bm Z (λ_=>aH Z) Z ?_;refine Wt 18 [] [] a Z (bO Z Z ig Y) ?_;refine SF.dQ ?_;refine SW.iT (enc:=bu) 0 u d.row Z Z t λO E n=>?_;rw[d.own]at n;have x:=d.gr n;have o:=cU (i.gr (some g)) n (.inl Z);refine Wz ?_;exact ah.vG Z ⟨_,Z,o,u,q,by rw[B];exact⟨E,j.aQ x Z,d.z1.aQ x Z,d.xD,d.pos⟩⟩
 have B:eI s b=(s.1,(eX s.2 b.At b.Order).2):=by unfold eI;rw[if_neg Y]
 simp only[if_neg H]at y;have t:1<2:=Y;repeat'(first|refine Wz ?_|(refine Wc (y _ d.row.sl) λC f=>?_;obtain⟨i,e,d⟩:=aY f i e d))
 refine CW.iF 19 19 (λ_=>True) mixed bm λC f a=>?_;obtain⟨i,e,d⟩:=aY f i e d;refine Wp 0 [] [] a Z Z ?_;refine Wt 1 [] [] a Z (aX Z) ?_;refine Wt 2 [] [] a Z (aI Z) ?_;refine Wt 3 [] [] a Z (aJ Z (e.cell Z)) ?_;refine Wp 4 [] [] a Z Z ?_;refine Wp 5 [] [] a Z Z ?_;refine Wt 6 [] [] a Z (aX Z) ?_;refine Wt 7 [] [] a Z (aI Z) ?_;refine Wt 8 [] [] a Z (aJ Z (e.cell Z)) ?_;refine Wp 9 [] [] a Z Z ?_;refine Wt 10 [] [] a Z (bO Z Z ig Y) ?_;refine Wt 11 [] [] a Z (cv Z Z ((d.row.sl.all t))) ?_;refine Wp 12 [] [] a Z Z ?_;refine Wp 13 [] [] a Z Z ?_;refine SF.bD 14 ?_;refine Wk (oq q s.2 b.At b.Order _ d.z1.rd K L ⟨by omega,by omega⟩ ⟨by omega,by omega⟩) λv N k D=>?_;obtain⟨u,rfl,j⟩:=D;have j:=j.low (Pj r i.size);obtain⟨i,e,d⟩:=aY k i e d;refine SW.nil (ah.sf k ?_);refine Wp 15 [] [] a Z Z ?_;refine Wp 16 [] [] a Z Z ?_;refine SF.gm 17 a Z bm bm Z (λ_=>aH Z) Z ?_;refine Wt 18 [] [] a Z (bO Z Z ig Y) ?_;refine SF.dQ ?_;refine SW.iT (enc:=bu) 1 u d.row Z Z t λO E n=>?_;rw[d.own]at n;have x:=d.gr n;have o:=cU (i.gr (some g)) n (.inl Z);refine Wz ?_;exact ah.vG Z ⟨_,Z,o,l,u,by rw[B];exact⟨E,d.z0.aQ x Z,j.aQ x Z,d.xD,d.pos⟩⟩
theorem po(m:jC)(C:Int)(li D:jC)(E u:cM)(s:ap×ap)(bs:List Block)(b:Block)(lo g c:Nat)(w:World)(d:dM w lo g c E u s)(H:lo<=w.heap.size)(N:oy s bs)(hN:nG bs b):
 jX prog 113 [.agg (bg ⟨⟨some ⟨g,0,none⟩,2,c⟩,m,C,li,D⟩).toArray,Iv b.At,Iv b.Order] w λv F=>v= .agg (bg ⟨⟨some ⟨g,0,none⟩,2,c⟩,m,C,li,D⟩).toArray∧G6 w lo g c s b F:=by
 refine c8 func113 rfl ntmps113 rfl ?_;refine Ww λb3 R k S f=>?_;refine SW.alloc Z λb6 T O I a=>?_;have x:=k.up I;obtain⟨k,f⟩:=bk O k f;have d:=d.ext k;have eT:=d.z0.kW;have eF:=d.z1.from_;have eM:=N.AT;obtain⟨V,W,q3,q4⟩:=kM d.z0 N.kD;obtain⟨X,p2,p3,p4⟩:=kM d.z1 N.j8;have hA:=d.row.sl.base;have G:∀F,Sl F 4 bu (some ⟨g,0,none⟩) 2 [E,u]->aS prog 114 [.agg (bg ⟨⟨some ⟨g,0,none⟩,2,c⟩,m,C,li,D⟩).toArray,Iv b.At] F λv _=>v=Iv (if b.At<u.aE then 0 else 1):=λF h=>ve ⟨⟨some ⟨g,0,none⟩,2,c⟩,m,C,li,D⟩ E u b.At F h;by_cases U:b.At<u.aE
 ·have P:eI s b=((eX s.1 b.At b.Order).2,s.2):=by unfold eI;rw[if_pos Y]
  simp only[if_pos U]at G;have J:0<2:=Y;repeat'(first|refine Wz ?_|(refine Wc (G _ d.row.sl) λR p=>?_;obtain⟨k,f,a,d⟩:=cG p k f a d))
  repeat'(first|refine Wz ?_|refine Wm ((d.row.sl.all J)) ?_)
  refine Wk (sc E s.1 b.At b.Order _ d.z0.rd V W ⟨by omega,by omega⟩ ⟨by omega,by omega⟩) λv w4 l Q=>?_;obtain⟨t,rfl,j⟩:=Q;have j:=j.low (Pj H k.size);obtain⟨k,f,a,d⟩:=cG l k f a d;refine Wz ?_;refine Wr (ck t) λb8 T l q y=>?_;have K:=k.up q;obtain⟨k,f,a,d,j⟩:=dz l k f a d j;refine Wz ?_;refine SW.iT (enc:=bu) 0 t d.row Z Z J λL M o=>?_;rw[d.own]at o;have r:=d.gr o;have n:=cU (k.gr (some g)) o (.inl Z);have z:dM L lo g c t u (eI s b):=by rw[P];exact⟨M,j.aQ r Z,d.z1.aQ r Z,d.xD,d.pos⟩
  obtain⟨f,a⟩:=bk r f a;have A:=Ext.refl L;have k:=A;refine Wz ?_;refine Wg a (bw ⟨⟨some ⟨g,0,none⟩,2,c⟩,m,C,li,D⟩) λw6 B o=>?_;have r:=a.gr o;have n:=cU n o (.inr λi e=>by cases e;exact x);refine Wz ?_;exact ah.nu Z Z B Z ⟨_,Z,Z,n,t,u,z.aQ r Z⟩
 have P:eI s b=(s.1,(eX s.2 b.At b.Order).2):=by unfold eI;rw[if_neg Y]
 simp only[if_neg U]at G;have J:1<2:=Y;repeat'(first|refine Wz ?_|(refine Wc (G _ d.row.sl) λR p=>?_;obtain⟨k,f,a,d⟩:=cG p k f a d))
 repeat'(first|refine Wz ?_|refine Wm ((d.row.sl.all J)) ?_)
 refine Wk (sc u s.2 b.At b.Order _ d.z1.rd X p2 ⟨by omega,by omega⟩ ⟨by omega,by omega⟩) λv w4 l Q=>?_;obtain⟨t,rfl,j⟩:=Q;have j:=j.low (Pj H k.size);obtain⟨k,f,a,d⟩:=cG l k f a d;refine Wz ?_;refine Wr (ck t) λb8 T l q y=>?_;have K:=k.up q;obtain⟨k,f,a,d,j⟩:=dz l k f a d j;refine Wz ?_;refine SW.iT (enc:=bu) 1 t d.row Z Z J λL M o=>?_;rw[d.own]at o;have r:=d.gr o;have n:=cU (k.gr (some g)) o (.inl Z);have z:dM L lo g c E t (eI s b):=by rw[P];exact⟨M,d.z0.aQ r Z,j.aQ r Z,d.xD,d.pos⟩
 obtain⟨f,a⟩:=bk r f a;have A:=Ext.refl L;have k:=A;refine Wz ?_;refine Wg a (bw ⟨⟨some ⟨g,0,none⟩,2,c⟩,m,C,li,D⟩) λw6 B o=>?_;have r:=a.gr o;have n:=cU n o (.inr λi e=>by cases e;exact x);refine Wz ?_;exact ah.nu Z Z B Z ⟨_,Z,Z,n,E,t,z.aQ r Z⟩
variable {β:Type}
theorem tp:∀(n:Nat)(l:List Nat),l.Nodup->(∀x∈l,x<n)->l.length<=n
 | 0,l,_,h=>by
   cases l with
   | nil=>simp
   | cons a r=>exact absurd (h a fy) Y
 | n+1,l,hd,h=>by
   have c:=tp n (l.erase n) (hd.erase n) (λx b=>by
    have:=hd.mem_erase_iff.1 b;have:=h x this.2;omega)
   have d:l.length<=(l.erase n).length+1:=by
    rw[List.length_erase];split<;>omega
   omega
theorem uw{f:α->β}{l:List α}(a:l.Nodup)(b:∀x∈l,∀y∈l,f x=f y->x=y):(l.map f).Nodup:=by
 induction l<;>grind
theorem ll{c l:List α}(h:c.Nodup):∀(j:Nat),(∀(k:Nat)(f:k<l.length),k<j->l[k]∉c++l.take k)->(c++l.take j).Nodup
 | 0,_=>by simpa using h
 | j+1,hi=>by
   have g:=ll (l:=l) h j (λk f d=>hi k f Y);by_cases d:j<l.length
   ·rw[Pk d,<-Po,Q6];refine⟨g,by simp,λa i b hb e=>?_⟩;simp at hb;subst hb e;exact hi j d Y i
   rw[Pl Y];rwa[Pl Y]at g
def CT(b:UInt8):Nat:=if b.toNat<97 then b.toNat-47 else b.toNat-86
def pI:List UInt8->Nat
 | []=>0
 | b::r=>CT b+37*pI r
theorem tq{b:UInt8}(h:nr b=false):1<=CT b∧CT b<=36:=by
 unfold nr at h<;>grind[nr,CT]
theorem J9{b c:UInt8}(h:nr b=false)(k:nr c=false)(e:CT b=CT c):b=c:=by
 unfold nr at h k<;>grind[nr,CT,UInt8.toNat_inj]
theorem Ea:∀(l:List UInt8),(∀b∈l,nr b=false)->pI l<37 ^ l.length
 | [],_=>by simp[pI]
 | b::r,h=>by
   have c:=tq (h b fy);have d:=Ea r (λx a=>h x (by simp[a]));simp only[pI,List.length_cons,Nat.pow_succ];omega
theorem BB:∀(l m:List UInt8),(∀b∈l,nr b=false)->(∀b∈m,nr b=false)->pI l=pI m->l=m
 | [],[],_,_,_=>rfl
 | [],c::t,_,k,e=>by
   grind[tq,pI]
 | b::r,[],h,_,e=>by
   grind[tq,pI]
 | b::r,c::t,h,k,e=>by
   have g:=tq (h b fy);have i:=tq (k c fy);simp only[pI]at e;have a:CT b=CT c:=Y;have d:pI r=pI t:=Y;rw[J9 (h b fy) (k c fy) a,BB r t (λx f=>h x (by grind)) (λx f=>k x (by grind)) d]
theorem uA{s:ByteArray}:dW s=true↔(1<=s.size∧s.size<=8)∧∀b∈s.data.toList,nr b=false:=by
 unfold dW<;>grind
theorem vd{l:List ByteArray}(b:l.Nodup)(a:∀n∈l,dW n=true):l.length<=3512479453921:=by
 have h:=tp 3512479453921 (l.map λn=>pI n.data.toList) (uw b λx c y d e=>?_) (λz f=>?_)
 ·grind
 ·have g:=BB _ _ (uA.1 (a x c)).2 (uA.1 (a y d)).2 e;cases x<;>simp_all
 obtain⟨n,i,rfl⟩:=Pw.1 f;obtain⟨g,j⟩:=uA.1 (a n i);have m:=Ea _ j;have k:n.data.toList.length<=8:=by simp_all
 have o:37 ^ n.data.toList.length<=37 ^ 8:=Nat.pow_le_pow_right Y k;omega
theorem Ie{l:List Int}(a:l.Nodup)(b:∀n∈l,0<=n∧n<=255):l.length<=256:=by
 have h:=tp 256 (l.map Int.toNat) (uw a λx c y d e=>?_) (λz f=>?_);all_goals grind
theorem LN(h:fP l)(b:bx l a=true):0<=a∧a<=255:=by
 obtain⟨c,e⟩:=fR b;have:=(h.each _ c).2.1;omega
theorem pi.at_{h:i<c.ae.length}(b:pi s c i h)(d:bf s.Heap)(e:0<=c.Order):bx s.Heap.Live c.ae[i].At=true∧0<=c.ae[i].At∧c.ae[i].At<=255:=by
 have a:bx s.Heap.Live c.ae[i].At=true:=by
  cases a:bx s.Heap.Live c.ae[i].At
  ·have:=b.live;grind[so]
  rfl
 exact⟨a,LN d.live a⟩
theorem dr.mX(a:dr s c)(b:bf s.Heap):∀x∈c.ae,0<=x.At∧x.At<=255:=λx d=>by
 obtain⟨i,e,rfl⟩:=Pg d;exact((a.av i e).at_ b (bM a.lay).2.1.1).2
theorem xC(f:bf s.Heap):∀(k:Nat),k<=s.ab.length->(∀(i:Nat)(h:i<s.ab.length),i<k->pk s i h)->
 ((aR (s.ab.take k)).Nodup∧∀n∈aR (s.ab.take k),dW n=true)∧((aG (s.ab.take k)).Nodup∧∀a∈aG (s.ab.take k),0<=a∧a<=255)
 | 0,_,_=>by simp[aR,aG]
 | k+1,hk,hI=>by
   obtain⟨⟨g,o⟩,j,p⟩:=xC f k Y (λi h h'=>hI i h Y);have b:=hI k Y Y;rw[lW _ _ Y,lX _ _ Y];refine⟨⟨?_,λn c=>?_⟩,?_,λa d=>?_⟩
   ·have:=ll (l:=(s.ab[k]'Y).Names) g (s.ab[k]'Y).Names.length (λi e _=>(b.names.each i e).2.1)
    grind
   ·rcases Px.1 c with c|c
    ·grind
    obtain⟨i,e,rfl⟩:=Pg c;exact(b.names.each i e).1
   ·have:=ll (l:=(s.ab[k]'Y).ae.map λx=>x.At) j (s.ab[k]'Y).ae.length (λi e _=>by
     have:=b.av i Y
     simp_all)
    grind[List.map_take,List.take_length]
   rcases Px.1 d with d|d
   ·grind
   obtain⟨x,m,rfl⟩:=Pw.1 d;exact b.may.mX f x m
structure m9(w:World)(lo:Nat)(R:List cV)(L:List aC):Prop where
 each:dR (mP w lo) R L
section
variable {w w':World}{lo t:Nat}{R:List cV}{L:List aC}{y:cV}{x:aC}
theorem m9.ext(h:m9 w lo R L)(a:Ext w w'):m9 w' lo R L:=⟨h.each.mono λ_ _ h=>h.ext a⟩
theorem m9.aQ(h:m9 w lo R L)(b:oe w w' t)(a:Nat.beq t 3=false):m9 w' lo R L:=⟨h.each.mono λ_ _ h=>h.aQ b a⟩
theorem m9.nil(w:World)(lo:Nat):m9 w lo [] []:=⟨dR.nil⟩
theorem m9.snoc(h:m9 w lo R L)(a:mP w lo y x):m9 w lo (R++[y]) (L++[x]):=⟨h.each.snoc a⟩
end
theorem qD(r:fB)(L:List aC)(G:List cV)(x:aC)(y:cV)(lo:Nat)(w:World)(N:dw w lo r.ak G L)(hy:mP w lo y x)(hs:uk L)(zs:lo<=w.heap.size)(zt:0<y.aq.n)(hn:(r.ak.n+1)*48<=140737488355328):
 aS prog 116 [.agg (bg r).toArray,Iv y.ep,Iv y.ap,Iv y.Ty,.slice y.aq.A y.aq.n y.aq.c] w λv Q=>∃s R,v= .agg (bg ⟨r.aK,r.bY,r.bl,s,r.Live⟩).toArray∧dw Q lo s R (fZ L x):=by
 refine Wj func116 ntmps116 ?_;refine Ww λb5 w1 k zg f=>?_;have zp:=zg;refine SW.alloc Z λzb w2 zm zc a=>?_;have zn:=k.up zc;have O:b5≠zb:=by have:=f.lt;omega
 obtain⟨k,f⟩:=bk zm k f;obtain⟨l1,l2⟩:=N.rd.len;have hA:=N.row.sl.base;have y1:=hy.cpu;have y2:=hy.fX;have y3:=hy.ty;refine Wz ?_;refine Wr (u6 y) λH w2 o zd d=>?_;have C:=k.up zd;obtain⟨k,f,a⟩:=aY o k f a;refine Wz ?_;have zu:=jg L x;have d:ay w2 H 100 (fj y):=d;have z0:(cR L x 0).length=0:=by simp[cR]
 have q0:decide (aW L x<0)=decide ((y.aq.n:Int)=0):=by rw[decide_eq_false Y,decide_eq_false Y]
 refine CW.loop (λt:Nat×Option Addr×Nat×List cV=>[(1,Iv y.ep),(2,Iv y.ap),(3,Iv y.Ty),(5,Pt b5),(10,Pt zb),(11,Pt H),(12,.slice t.2.1 (cR L x t.1).length t.2.2.1),(13,.bool (decide (aW L x<t.1))),(14,Iv (t.1:Int))])
  (λt Q=>t.1<=r.ak.n∧Ext w Q∧ay Q b5 34 (bg r)∧ay Q zb 34 (bg .zero)∧ay Q H 100 (fj y)∧Own Q (H+1) 100 4 fj t.2.1 (cR L x t.1).length t.2.2.1 t.2.2.2∧m9 Q lo t.2.2.2 (cR L x t.1)) (λt=>r.ak.n-t.1) (0,none,0,[])
  ⟨Z,Z,Z,Z,Z,Z,by simp only;rw[z0];rfl,by simp only;rw[q0];rfl,Z,trivial⟩ ⟨by omega,k,f,a,d,by simpa[cR]using Own.cq _ _ _ _ _ _,by simpa[cR]using m9.nil _ _⟩ ?_
 rintro⟨i,A,c,R⟩ Q ⟨hi,k,f,a,d,n,l⟩;simp only at hi n l⊢
 have zq:(cR L x i).length<=i+1:=by
  unfold cR;split
  ·simp;omega
  split<;>simp<;>omega
 have S:i<=aW L x->(cR L x i).length<=i:=λh=>by rw[cR,if_pos h];simp;omega
 have D:∀m:Nat,m<=r.ak.n->(m+1)*48<=140737488355328∧m+1<=9223372036854775807:=λm hm=>by omega
 by_cases I:i<r.ak.n
 ·have E:(cR L x i).length<=r.ak.n:=Y;have K:i<L.length:=Y;have P:i<G.length:=Y;have za:=N.each.get i P K;have e1:=za.cpu;have e2:=za.fX;have e3:=za.ty;have g0:=N.row.sl.dp I (j:=0) (u:=Iv G[i].ep) Z;have g1:=N.row.sl.dp I (j:=1) (u:=Iv G[i].ap) Z;have g2:=N.row.sl.dp I (j:=2) (u:=Iv G[i].Ty) Z;obtain⟨p,hp⟩:=bq (decide (cd x L[i]))
  have cA:∀Q,aS prog 184 [.agg (fj y).toArray,.agg (fj G[i]).toArray] Q λv _=>v= .bool p:=λQ=>by
   have:=wV y G[i] x L[i] Q ⟨y1,y2,y3⟩ za.rd.key;rwa[hp]at this
  rcases PX i (aW L x)with M|M|M
  ·have ha:=pf M;have T:p=false:=by rw[<-hp];exact decide_eq_false (mC ha).2.2
   subst T;have zh:¬(G[i].ep=y.ep∧G[i].ap=y.ap∧G[i].Ty=y.Ty):=by have:=(mC ha).1;unfold dT at this;omega
   have J:=FH M;have U:(cR L x (i+1)).length=(cR L x i).length+1:=by rw[J];simp
   have d0:decide (aW L x<i)=false:=decide_eq_false Y;have d1:decide (aW L x<i+1)=false:=decide_eq_false Y;rw[d0];repeat'(first|refine Wz ?_|refine fq ?_|refine SW.dP Z Z Z (λh=>?_) (λh=>?_)|refine SW.want Z Z ?_|refine Wn k g0 ?_|refine Wn k g1 ?_|refine Wn k g2 ?_|refine Wo k ((N.row.sl.all I)) ?_|refine SW.ba Z Z (λw1 z=>(cA _)) ?_|(refine SW.br λw1 z=>?_;obtain⟨k,f,a,d,n,l⟩:=fi z k f a d n l))
   all_goals try omega
   all_goals
    refine SW.bz Z Z Z Z Z λb w4 o hb V=>?_;obtain⟨k,f,a,d,n,l⟩:=fi o k f a d n l;refine SW.append n (ay.la (enc:=fj) (x:=G[i]) V) d.lt Z Z Z (D _ E).1 (D _ E).2 λW c2 w5 B F=>?_;have X:=n.gr F;have k:=au k F (Pj C (PW _)) n.az;have d:=d.grown F (λe=>P6 _ (n.az H e.symm));obtain⟨f,a,l⟩:=aY X f a l;refine Wz ?_;refine ah.again (i+1,W,c2,R++[G[i]]) ⟨Z,Z,Z,Z,Z,Z,by simp only;rw[U];rfl,by simp only;rw[d1];rfl,Z,trivial⟩ dD ⟨by simp only;omega,k,f,a,d,by simp only;rw[U];exact B,?_⟩;simp only;rw[J];exact l.snoc ((N.each.get i P K).ext k)
  ·have eh:∃q,bW L x=q:=⟨_,Z⟩;obtain⟨q,hq⟩:=eh;have d0:decide (aW L x<i)=false:=decide_eq_false Y;have d1:decide (aW L x<i+1)=true:=decide_eq_true Y;have zi:(cR L x i).length+1<=r.ak.n:=by have:=S Y;omega
   rw[d0];cases q
   ·have ha:cd x L[i]:=by
     have:=G4 hq Y;simpa only[<-M]using this
    have T:p=true:=by rw[<-hp];exact decide_eq_true ha
    subst T;have zh:¬(G[i].ep=y.ep∧G[i].ap=y.ap∧G[i].Ty=y.Ty):=by have:=(mC ha).2.1;unfold dT at this;omega
    have J:=HY M K hq;have U:(cR L x (i+1)).length=(cR L x i).length+1+1:=by rw[J];simp
    repeat'(first|refine Wz ?_|refine fq ?_|refine SW.want Z Z ?_|refine Wo k ((N.row.sl.all I)) ?_|refine SW.ba Z Z (λw1 z=>(cA _)) ?_|(refine SW.br λw1 z=>?_;obtain⟨k,f,a,d,n,l⟩:=fi z k f a d n l))
    refine SW.bz Z Z Z Z Z λb w4 o hb V=>?_;obtain⟨k,f,a,d,n,l⟩:=fi o k f a d n l;refine SW.append n (ay.la (enc:=fj) (x:=y) V) d.lt Z Z Z (D _ E).1 (D _ E).2 λW c2 w5 B F=>?_;have X:=n.gr F;have k:=au k F (Pj C (PW _)) n.az;have d:=d.grown F (λe=>P6 _ (n.az H e.symm));obtain⟨f,a,l⟩:=aY X f a l;have l:=l.snoc (hy.ext k);have n:=B;repeat'(first|refine Wz ?_|refine SW.dP Z Z Z (λh=>?_) (λh=>?_)|refine Wn k g0 ?_|refine Wn k g1 ?_|refine Wn k g2 ?_|refine Wo k ((N.row.sl.all I)) ?_)
    all_goals try omega
    all_goals
     refine SW.bz Z Z Z Z Z λb w4 o hb V=>?_;obtain⟨k,f,a,d,n,l⟩:=fi o k f a d n l;refine SW.append n (ay.la (enc:=fj) (x:=G[i]) V) d.lt Z Z Z (D _ zi).1 (D _ zi).2 λW c2 w5 zo F=>?_;have X:=n.gr F;have k:=au k F (Pj C (PW _)) n.az;have d:=d.grown F (λe=>P6 _ (n.az H e.symm));obtain⟨f,a,l⟩:=aY X f a l;refine Wz ?_;refine ah.again (i+1,W,c2,R++[y]++[G[i]]) ⟨Z,Z,Z,Z,Z,Z,by simp only;rw[U];rfl,by simp only;rw[d1];rfl,Z,trivial⟩ dD ⟨by simp only;omega,k,f,a,d,by simp only;rw[U];exact zo,?_⟩;simp only;rw[J];exact l.snoc ((N.each.get i P K).ext k)
   obtain⟨zr,zj⟩:=fK hq;have ze:dT L[i] x:=by simpa only[<-M]using zj
   have T:p=false:=by rw[<-hp];exact decide_eq_false (by unfold cd dT at*;omega)
   subst T;obtain⟨k1,k2,k3⟩:=id ze;have J:=DX M hq;have U:(cR L x (i+1)).length=(cR L x i).length+1:=by rw[J];simp
   repeat'(first|refine Wz ?_|(first|refine CW.bQ Z ?_|(apply CW.dF mixed;(·kernel_rfl);rotate_left;intro w1 z;obtain⟨k,f,a,d,n,l⟩:=fi z k f a d n l;rotate_right))|refine SW.want Z Z ?_|refine Wn k g0 ?_|refine Wn k g1 ?_|refine Wn k g2 ?_|refine Wo k ((N.row.sl.all I)) ?_|refine SW.ba Z Z (λw1 z=>(cA _)) ?_|exact SW.br Z)
   all_goals try omega
   refine SW.bz Z Z Z Z Z λb w4 o hb V=>?_;obtain⟨k,f,a,d,n,l⟩:=fi o k f a d n l;refine SW.append n (ay.la (enc:=fj) (x:=y) V) d.lt Z Z Z (D _ E).1 (D _ E).2 λW c2 w5 B F=>?_;have X:=n.gr F;have k:=au k F (Pj C (PW _)) n.az;have d:=d.grown F (λe=>P6 _ (n.az H e.symm));obtain⟨f,a,l⟩:=aY X f a l;refine Wz ?_;refine ah.again (i+1,W,c2,R++[y]) ⟨Z,Z,Z,Z,Z,Z,by simp only;rw[U];rfl,by simp only;rw[d1];rfl,Z,trivial⟩ dD ⟨by simp only;omega,k,f,a,d,by simp only;rw[U];exact B,?_⟩;simp only;rw[J];exact l.snoc (hy.ext k)
  have zk:aW L x<L.length:=Y
  have ha:cd x L[i]:=by
   have h0:=hs.get K M;have h1:=G3 zk;unfold cd at*;omega
  have zh:¬(G[i].ep=y.ep∧G[i].ap=y.ap∧G[i].Ty=y.Ty):=by have:=(mC ha).2.1;unfold dT at this;omega
  have J:=DY M K;have U:(cR L x (i+1)).length=(cR L x i).length+1:=by rw[J];simp
  have d0:decide (aW L x<i)=true:=decide_eq_true Y;have d1:decide (aW L x<i+1)=true:=decide_eq_true Y;rw[d0];repeat'(first|refine Wz ?_|refine fq ?_|refine SW.dP Z Z Z (λh=>?_) (λh=>?_)|refine SW.skip Z Z Z Z ?_|refine Wn k g0 ?_|refine Wn k g1 ?_|refine Wn k g2 ?_|refine Wo k ((N.row.sl.all I)) ?_|(refine SW.br λw1 z=>?_;obtain⟨k,f,a,d,n,l⟩:=fi z k f a d n l))
  all_goals try omega
  all_goals
   refine SW.bz Z Z Z Z Z λb w4 o hb V=>?_;obtain⟨k,f,a,d,n,l⟩:=fi o k f a d n l;refine SW.append n (ay.la (enc:=fj) (x:=G[i]) V) d.lt Z Z Z (D _ E).1 (D _ E).2 λW c2 w5 B F=>?_;have X:=n.gr F;have k:=au k F (Pj C (PW _)) n.az;have d:=d.grown F (λe=>P6 _ (n.az H e.symm));obtain⟨f,a,l⟩:=aY X f a l;refine Wz ?_;refine ah.again (i+1,W,c2,R++[G[i]]) ⟨Z,Z,Z,Z,Z,Z,by simp only;rw[U];rfl,by simp only;rw[d1];rfl,Z,trivial⟩ dD ⟨by simp only;omega,k,f,a,d,by simp only;rw[U];exact B,?_⟩;simp only;rw[J];exact l.snoc ((N.each.get i P K).ext k)
 have ei:i=L.length:=Y;subst ei;by_cases M:aW L x<L.length
 ·have J:=DZ M;rw[J]at n l;rw[J,decide_eq_true M];repeat'(first|refine Wz ?_|(refine CW.bo Z ?_))
  refine We (i:=3) f λw6 g zl=>?_;have k:=jc g k;have a:=a.grown g.g (by simpa using Ne.symm O);(obtain⟨n,l⟩:=bk g.T n l);refine Wz ?_;refine Wh a (bw ⟨r.aK,r.bY,r.bl,⟨A,_,c⟩,r.Live⟩) λw7 g zf=>?_;obtain⟨k,n,l⟩:=aY g k n l;refine Wz ?_;exact ah.nu Z Z zf Z ⟨_,Z,k,⟨A,_,c⟩,R,Z,⟨n.low Y,l.each⟩⟩
 have E:(cR L x L.length).length<=r.ak.n:=by have:=S Y;omega
 have J:=D0 M;rw[decide_eq_false M];repeat'(first|refine Wz ?_|(refine CW.bQ Z ?_))
 refine SW.bz Z Z Z Z Z λb w4 o hb V=>?_;obtain⟨k,f,a,d,n,l⟩:=fi o k f a d n l;refine SW.append n (ay.la (enc:=fj) (x:=y) V) d.lt Z Z Z (D _ E).1 (D _ E).2 λW c2 w5 B F=>?_;have X:=n.gr F;have k:=au k F (Pj C (PW _)) n.az;have d:=d.grown F (λe=>P6 _ (n.az H e.symm));obtain⟨f,a,l⟩:=aY X f a l;have l:=l.snoc (hy.ext k);rw[J]at l;refine Wz ?_;refine We (i:=3) f λw6 g zl=>?_;have k:=jc g k;have a:=a.grown g.g (by simpa using Ne.symm O);(obtain⟨B,l⟩:=bk g.T B l);refine Wz ?_;refine Wh a (bw ⟨r.aK,r.bY,r.bl,⟨W,_,c2⟩,r.Live⟩) λw7 g zf=>?_;obtain⟨k,B,l⟩:=aY g k B l;refine Wz ?_;exact ah.nu Z Z zf Z ⟨_,Z,k,⟨W,_,c2⟩,R++[y],Z,⟨B.low Y,l.each⟩⟩
end Go.Proofs.YtdlfabkacdgneaaGreatDoor
