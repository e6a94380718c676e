/- Part 10 of what kmemRuns_holds leans on. -/
import Derived.Test.YtdlfabkacdgneaaGreatDoorPackKmemRuns8
import Derived.Test.YtdlfabkacdgneaaGreatDoorPackKmemRuns7
set_option maxHeartbeats 16000000
set_option linter.unusedVariables false
set_option linter.unusedSimpArgs false
set_option linter.defProp false
open Go.Proofs.Tryz
namespace Go.Proofs.YtdlfabkacdgneaaGreatDoor
open Go.RowKit
variable {α β:Type} {af:Array Edge} {ops:Array Oper} {Q:Exit->Act->World->Prop} {L:List aC} {cs:List Value} {b1 bytes c2 dd i k lo nn m n' sz Oe:Nat} {y:Operand} {A A' X:Option Addr} {row:Option Nat} {P:Program} {li NT lv:jC} {T e e' t:TypeId} {w w' w0:World} {u0 u1:cM} {z0 z1:ap} {enc:α -> List Value} {Nt:β -> List Value}
theorem JX.split{r:fB}{h:Heap}(a:JX w lo r h)(k:h.aK=[z0,z1]):∃g c d e f,r.aK=⟨some ⟨g,0,none⟩,2,c⟩∧dM w lo g c d e (z0,z1)∧dw w lo r.ak f h.ak∧tc r.bY [d,e] f∧vH r.Live [d,e]:=by
 obtain⟨p,f,b,i,q,s⟩:=a.all;have l:=b.each.len;rw[k]at l;obtain⟨d,e,rfl⟩:=sk (show p.length=2 from l);have t:=b.row.len;have m:=b.each.get 0 fy (by grind);have n:=b.each.get 1 fy (by grind);simp only[k]at m n;have o:0<r.aK.c:=by have:=b.row.le;grind
 obtain⟨g,rest,u,j,_⟩:=b.row.opened o;refine⟨g,r.aK.c,d,e,f,?_,⟨?_,m,n,j,o⟩,i,q,s⟩
 ·rw[<-u];have:(2:Nat)=r.aK.n:=t;rw[this]
 have:=b.row;grind
theorem Own.apart{n c:Nat}{l:List α}(h:Own w lo e sz enc A n c l)(a:w.grownBy w' row)(b:∀g,aN A c=some g->row≠some g):Own w' lo e sz enc A n c l:=by
 refine h.grown a ?_;cases e:aN A c<;>grind
theorem dM.FL{g c:Nat}{s:ap×ap}(h:dM w lo g c u0 u1 s)(b:vH lv [u0,u1])(d:w.grownBy w' (aN lv.A lv.c))(a:oe w w' 129):dM w' lo g c u0 u1 s:=
 ⟨h.row.aQ a Z,⟨h.z0.from_,h.z0.kW,h.z0.free.apart d (b u0 fy),h.z0.types.aQ a Z⟩,⟨h.z1.from_,h.z1.kW,h.z1.free.apart d (b u1 fy),h.z1.types.aQ a Z⟩,h.xD,h.pos⟩
theorem dM.LO{g c:Nat}{s:ap×ap}(h:dM w lo g c u0 u1 s)(d:w.grownBy w' row)(a:oe w w' 3)(f:∀k,row=some k->∀u∈[u0,u1],aN u.Types.A u.Types.c≠some k):dM w' lo g c u0 u1 s:=
 ⟨h.row.aQ a Z,⟨h.z0.from_,h.z0.kW,h.z0.free.aQ a Z,h.z0.types.apart d (λk e b=>f k b u0 fy e)⟩,⟨h.z1.from_,h.z1.kW,h.z1.free.aQ a Z,h.z1.types.apart d (λk e b=>f k b u1 fy e)⟩,h.xD,h.pos⟩
structure MT(w0:World)(li:jC)(b1:Nat)(o:Option Nat):Prop where
 out:∀k,o=some k->k≠b1∧aN li.A li.c≠some k∧k<w0.heap.size
theorem MT.ne{o:Option Nat}(h:MT w0 li b1 o)(a:∀k,row=some k->k=b1∨aN li.A li.c=some k∨w0.heap.size<=k):∀g,o=some g->row≠some g:=λg e b=>by
 obtain⟨c,d,f⟩:=h.out g e<;>grind
theorem Own.tr{n c:Nat}{l:List α}(h:Own w0 lo e sz enc A n c l){d:List cV}(f:dw w0 lo li d L)(hb:ay w0 b1 34 cs)(i:Nat.beq 34 e=false)(j:Nat.beq e 100=false):MT w0 li b1 (aN A c):=
 ⟨λk a=>⟨λe=>h.cB hb i (by rw[a,e]),by
  rcases h.row with⟨_,rfl⟩|⟨m,g,b,rfl,_,o,_⟩
  ·simp[aN]at a
  simp only[aN,Nat.pos_iff_ne_zero.1 m,if_false,Option.map_some,Option.some.injEq]at a;subst a;exact f.row.cB (cs:=b.toList) (by unfold ay;simpa using o) j,h.lt_size k a⟩⟩
theorem Own.nI{n c c':Nat}{l:List α}{f:List β}(h:Own w0 lo e sz enc A n c l)(h':Own w0 nn e' Oe Nt A' n' c' f)(a:Nat.beq e e'=false):∀k,aN A c=some k->aN A' c'≠some k:=λk d=>by
 rcases h.row with⟨_,rfl⟩|⟨i,g,b,rfl,_,j,_⟩
 ·grind[aN]
 simp only[aN,Nat.pos_iff_ne_zero.1 i,if_false,Option.map_some,Option.some.injEq]at d;subst d;exact h'.cB (cs:=b.toList) (by unfold ay<;>simp_all) a
theorem dM.parts{g c:Nat}{s:ap×ap}(h:dM w lo g c u0 u1 s)(a:w.grownBy w' row)(b:∀k,aN (some (⟨g,0,none⟩:Addr)) c=some k->row≠some k)(d:∀k,aN u0.ai.A u0.ai.c=some k->row≠some k)(e:∀k,aN u0.Types.A u0.Types.c=some k->row≠some k)
 (f:∀k,aN u1.ai.A u1.ai.c=some k->row≠some k) (i:∀k,aN u1.Types.A u1.Types.c=some k->row≠some k):dM w' lo g c u0 u1 s:=
 ⟨h.row.apart a b,⟨h.z0.from_,h.z0.kW,h.z0.free.apart a d,h.z0.types.apart a e⟩,⟨h.z1.from_,h.z1.kW,h.z1.free.apart a f,h.z1.types.apart a i⟩,h.xD,h.pos⟩
def ob(s:jC):Option Nat:=aN s.A s.c
def MU(a b:cV):Prop:=∀g,ob a.aq=some g->ob b.aq≠some g
theorem Ig{a b:cV}(h:MU a b):MU b a:=λg e c=>h g c e
theorem tu{f:List cV}:FC f↔f.Pairwise MU:=by
 rw[Pq];refine⟨λh i j b c a g e=>h i j b c Y g e,λh i j b c a g e=>?_⟩;rcases Nat.lt_or_gt_of_ne a with d|d
 ·exact h i j b c d g e
 exact Ig (h j i c b d) g e
structure AW(n:Nat)(li:jC)(ls:List cV)(NT:jC)(Nw:List cV):Prop where
 sep:FC Nw
 of:∀y∈Nw,∀g,ob y.aq=some g->(∃x∈ls,ob x.aq=some g)∨n<=g
 row:∀k,ob NT=some k->ob li=some k∨n<=k
theorem AW.pK{n:Nat}{c:List cV}{y:cV}(j:FC c)(r:∀x∈c,∀g,ob x.aq=some g->g<n)(p:i<c.length)(q:∀g,ob y.aq=some g->ob c[i].aq=some g∨n<=g):AW n li c li (c.set i y):=by
 refine⟨λa b l hb f g e d=>?_,λz s g e=>?_,λk e=> .inl e⟩
 ·simp only[List.length_set]at l hb
  change ob ((c.set i y)[a]).aq=some g at e
  change ob ((c.set i y)[b]).aq=some g at d
  simp only[List.getElem_set]at e d;by_cases m:i=a
  ·rw[if_pos m]at e;rw[if_neg Y]at d;rcases q g e with h|h
   ·subst m;exact j _ _ p hb f g h d
   grind[List.getElem_mem]
  rw[if_neg m]at e;by_cases o:i=b
  ·rw[if_pos o]at d;rcases q g d with h|h
   ·subst o;exact j _ _ l p f g e h
   grind[List.getElem_mem]
  rw[if_neg o]at d;exact j _ _ l hb f g e d
 grind
theorem AW.ins{n:Nat}{c:List cV}{y:cV}(d:FC c)(h:∀x∈c,∀g,ob x.aq=some g->g<n)(p:∀g,ob y.aq=some g->n<=g)(j:∀k,ob NT=some k->ob li=some k∨n<=k):AW n li c NT (aP c i y):=by
 have q:∀z,z∈aP c i y->z∈c∨z=y:=λz f=>by
  unfold aP at f<;>grind
 refine⟨?_,λz f g e=>?_,j⟩
 ·have d:=tu.1 d;rw[<-Pz i c,PN]at d;obtain⟨l,m,r⟩:=d;rw[tu];unfold aP;rw[Po,PN];refine⟨l,?_,λa s b hb=>?_⟩
  ·rw[Qn,List.pairwise_cons];exact⟨λb hb g e o=>by grind,m⟩
  rw[Qn,Qr]at hb;rcases hb with rfl|hb
  ·exact λg e o=>by grind
  grind
 grind
theorem SW.tv{n:Nat}{rest:List Oper}{L:Env}{pos:String}{z:Value}{c:Nat}{l o:List α}[bL P t e sz][dt P e z sz bytes][gG enc sz]{x:Operand}
 (p:Own w lo e sz enc A k c l) (q:Sl w sz enc X m o) (b:lo<=w.heap.size) (j:0<m) (r:cg L x=some (.slice A k c)) (s:cg L y=some (.slice X m c2)) (u:Nat.blt dd n=true)
 (hb:(k+m)*bytes<=140737488355328) (v:k+m<=9223372036854775807)
 (h:∀d c' f,Own f lo e sz enc d (k+m) c' (l++o)->w.grownBy f (aN A c)->(∀g,aN d c'=some g->aN A c=some g∨w.heap.size<=g)->SW P n ops (.fg Q) rest ((dd,.slice d (k+m) c')::L) f):
 SW P n ops (.fg Q) (⟨some dd,.call ⟨.builtin .append,#[x,y],#[t,t]⟩,T,pos,af,none⟩::rest) L w:=by
 refine SW.GV p q b j r s u hb v λd c' f B=>?_;rcases B with⟨rfl,rfl,i,a⟩|⟨i,a⟩
 ·exact h _ _ _ i a (λg e=> .inl e)
 exact h _ _ _ (i.low b) ⟨a.os,a.tape,a.output,a.size,λk C _=>a.block k C (λe=>by cases e)⟩ (λg e=> .inr (i.az g e))
variable {Jr:List cV} {L1:List aC} {ys:List β} {NU:jC} {F:World->Prop}
structure LP(F:World->Prop)(w:World):Prop where
 at_:F w
 all:∀w w',Ext w w'->F w->F w'
theorem LP.ext(h:LP F w)(a:Ext w w'):LP F w':=⟨h.all _ _ a h.at_,h.all⟩
theorem LP.to(h:LP F w)(a:F w'):LP F w':=⟨a,h.all⟩
theorem dR.aP{R:α->β->Prop}{xs:List α}(h:dR R xs ys)(b:i<=xs.length){x:α}{y:β}(g:R x y):dR R (aP xs i x) (aP ys i y):=by
 have l:=h.len;refine⟨by rw[bT _ b,bT _ Y,l],λk m n=>?_⟩
 have a:∀{γ:Type}(c:List γ)(z:γ)(k:Nat)(d:k<(Proofs.YtdlfabkacdgneaaGreatDoor.aP c i z).length)(u:γ),(Proofs.YtdlfabkacdgneaaGreatDoor.aP c i z)[k]?=some u->(Proofs.YtdlfabkacdgneaaGreatDoor.aP c i z)[k]=u:=λc z k d u f=>by
  rw[Pp d]at f;exact Option.some.inj f
 rw[bT _ b]at m;rcases PX k i with e|e|e
 ·rw[a xs x k _ (xs[k]'Y) (by rw[qk b e,Pp]),a ys y k _ (ys[k]'Y) (by rw[qk Y e,Pp])];exact h.get k Y Y
 ·subst e;rw[a xs x k _ x (jP b),a ys y k _ y (jP Y)];exact g
 obtain⟨j,rfl⟩:∃j,k=j+1:=⟨k-1,by omega⟩;rw[a xs x (j+1) _ (xs[j]'Y) (by rw[oz b Y,Pp]),a ys y (j+1) _ (ys[j]'Y) (by rw[oz Y Y,Pp])];exact h.get j Y Y
theorem dR.setAt{R R':α->β->Prop}{xs:List α}(h:dR R xs ys){x:α}{y:β}(d:R' x y)(c:∀(k:Nat)(a:k<xs.length)(b:k<ys.length),k≠i->R xs[k] ys[k]->R' xs[k] ys[k]):dR R' (xs.set i x) (ys.set i y):=by
 refine⟨by simp[h.len],λk a b=>?_⟩;simp only[List.length_set]at a b;rw[P4,P4];by_cases e:i=k
 ·grind
 rw[if_neg e,if_neg e];exact c k a b (λh=>e h.symm) (h.get k a b)
structure Eb(n:Nat)(w:World)(lo:Nat)(F:World->Prop)(L:List aC)(x:aC)(p:Int)(NU:jC)(Jr:List cV)(L1:List aC):Prop where
 own:dw w lo NU Jr L1
 lt:aW L x<L1.length
 pK:L1.set (aW L x) ⟨x.ep,x.ap,x.Ty,L1[aW L x].aq++[p]⟩=fZ L ⟨x.ep,x.ap,x.Ty,bZ L x++[p]⟩
 key:dT L1[aW L x] x
 sep:∀(j:Nat)(hk:aW L x<Jr.length)(hj:j<Jr.length),j≠aW L x->∀g,aN Jr[aW L x].aq.A Jr[aW L x].aq.c=some g->aN Jr[j].aq.A Jr[j].aq.c≠some g
 NV:∀(hk:aW L x<Jr.length)(w w':World),w.grownBy w' (aN Jr[aW L x].aq.A Jr[aW L x].aq.c)->F w->F w'
 small:L1[aW L x].aq.length<=1000
 size:n<=w.heap.size
theorem Eb.ext{n:Nat}{x:aC}{p:Int}(h:Eb n w lo F L x p NU Jr L1)(a:Ext w w'):Eb n w' lo F L x p NU Jr L1:=
 ⟨h.own.ext a,h.lt,h.pK,h.key,h.sep,h.NV,h.small,Pj h.size a.size⟩
theorem Ec(a m:jC)(cp:Int)(li lv:jC)(L:List aC)(n:List cV)(x:aC)(y:cV)(p:Int)(F:World->Prop)(b1:Nat)(w S:World)(r:Ext w S)(zF:w.heap.size<=b1)(d:ay S b1 34 (bg ⟨a,m,cp,li,lv⟩))(A:dw S w.heap.size li n L)(hk:us y x)(zw:y.aq= .nil)(zM:x.aq=[])
 (zc:FC n) (hs:uk L) (hn:(li.n+1)*48<=140737488355328) (zG:∀l∈L,l.aq.length<=1000) (f:LP F S) (zd:∀(w P:World)(row:Option Nat),w.grownBy P row->(∀k,row=some k->k=b1∨aN li.A li.c=some k∨S.heap.size<=k)->F w->F P)
 (zH:∀(i:Nat)(hi:i<n.length)(w P:World),w.grownBy P (aN n[i].aq.A n[i].aq.c)->F w->F P):
 jX prog 159 [Pt b1,.agg (fj y).toArray,Iv p] S λv P=>Ext w P∧F P∧∃zq zx,ay P b1 34 (bg ⟨a,m,cp,zq,lv⟩)∧dw P w.heap.size zq zx (fZ L ⟨x.ep,x.ap,x.Ty,bZ L x++[p]⟩)∧AW S.heap.size li n zq zx:=by
 refine c8 func159 rfl ntmps159 rfl ?_;have zI:dT x ⟨x.ep,x.ap,x.Ty,bZ L x++[p]⟩:=⟨rfl,rfl,rfl⟩;obtain⟨zy,zz⟩:=ju (L:=L) zI;refine Ww λb4 w1 H X t=>?_;have zA:=r.up X;have zr:=A.row.lt_size
 have zm:∀z∈n,∀g,ob z.aq=some g->g<S.heap.size:=λz hz g e=>by
  obtain⟨j,hj,rfl⟩:=Pg hz;exact(A.each.get j hj (by rw[<-A.each.len];exact hj)).bt.lt_size g e
 obtain⟨r,d,A,f⟩:=cG H r d A f;obtain⟨l1,l2⟩:=A.rd.len;obtain⟨q,hq⟩:=bq (bW L x)
 have cL:∀P,vF P li n L->aS prog 160 [.agg (bg ⟨a,m,cp,li,lv⟩).toArray,.agg (fj y).toArray] P λv _=>v= .tuple #[Iv (aW L x:Int),.bool q]:=λP h=>by
  have:=uu ⟨a,m,cp,li,lv⟩ L n x y P h hk dD;rwa[hq]at this
 cases q
 ·have T:=jg L x;have zB:aW L x<=n.length:=Y;refine Wz ?_;(apply CW.dF mixed;(·kernel_rfl);rotate_left;intro w1 s;obtain⟨r,d,t,A,f⟩:=dz s r d t A f;rotate_right);repeat'(first|refine Wz ?_|(refine CW.bQ Z ?_)|refine SW.ba Z Z (λw1 s=>(cL _ (A.rd.ext s))) ?_|exact SW.br Z)
  obtain⟨B,C,D,yp⟩:=y;simp only at zw;subst zw;refine Wb (i:=3) t λw3 zn ze=>?_;have r:=r.own zA ze;have d:=d.aQ (t.gr ze) Z;have zJ:=zd _ _ _ ze (λk e=>by cases e;exact .inr (.inr X)) f.at_;have f:=f.to zJ;have A:dw w3 w.heap.size li n L:=⟨A.row.grown ze (.inr (λe=>by have:=zr _ e;omega)),A.each.mono λ_ _ h=>h.aQ (t.gr ze) Z⟩;have t:ay w3 b4 100 (fj ⟨B,C,D,.nil⟩):=zn;refine Wz ?_;have zN:=A.row.sl.base;refine CW.iF 8 11 (λ_=>True) mixed bm λw1 s c=>?_;obtain⟨r,d,t,A,f⟩:=dz s r d t A f;refine Wi 0 [] c Z (aH Z) (λw2 E=>aH Z) ?_;refine Wp 1 [4,3,2] [] c Z Z ?_;refine Wt 2 [4,3] [] c Z (aX Z) ?_;refine Wt 3 [4] [] c Z (aI Z) ?_;refine Wt 4 [] [] c Z (aJ Z (d.cell (i:=3) (v:= .slice li.A li.n li.c) Z)) ?_;refine Wp 5 [] [] c Z Z ?_;refine Wt 6 [7] [] c Z (cv Z Z ((λ_ _=>t.cell))) ?_;refine SF.bD 7 ?_;refine SW.bz Z Z Z Z Z λb w4 H hb hB=>?_;have Q:S.heap.size<=w4.heap.size:=Pj (PR (QV X t.lt)) H.size;have zC:aN li.A li.c≠some b:=λe=>by have:=A.row.lt_size _ e;omega
  obtain⟨r,d,A,f⟩:=cG H r d A f;refine SW.nil (ah.sf H ?_);refine SF.eW ?_;refine SW.cm Z Z (nC iL li.A li.n li.c w.heap.size n _ A.row (aW L x) Y ⟨B,C,D,.nil⟩ b hB zC hn r.size) λv w5 hv=>?_;obtain⟨A2,c2,rfl,zk,K,zo⟩:=hv;have hG:=A.row.gr K;have E:True:=trivial;have r:=au r K (Ph _) A.row.az;have zf:=zd _ _ _ K (λk e=> .inr (.inl e)) f.at_;have f:=f.to zf;have d:=d.aQ hG Z;have zl:=(A.each.mono λ_ _ h=>h.aQ hG Z).aP (i:=aW L x) (x:=⟨B,C,D,.nil⟩) (y:=⟨x.ep,x.ap,x.Ty,[]⟩) Y ⟨hk.1,hk.2.1,hk.2.2,Own.cq _ _ _ _ _ _⟩;refine SW.nil (ah.sg E ?_);refine SG.bD 9 ?_;repeat((show SW _ _ _ _ (⟨_,Op.nilCheck _,_,_,_,none⟩::_) _ _;refine SW.st (aX Z) Z ?_))
  refine SW.nil (ah.sg E ?_);refine SG.bD 10 ?_;repeat((show SW _ _ _ _ (⟨_,Op.fieldAddr _ _ _,_,_,_,none⟩::_) _ _;refine SW.st (aI Z) Z ?_))
  refine SW.nil (ah.sg E ?_);refine SG.dQ ?_;refine Wb (i:=3) d λw6 zp G=>?_;have M:=d.gr G;have zD:S.heap.size<=w6.heap.size:=Pj Q (Pj K.size G.size);have zs:=zo;have r:=r.own zF G;have zg:=zd _ _ _ G (λk e=>by cases e;exact .inl Z) f.at_;have f:=f.to zg;have zk:=zk.aQ M Z;have zl:=zl.mono λ_ _ h=>h.aQ M Z;have d:ay w6 b1 34 (bg ⟨a,m,cp,⟨A2,li.n+1,c2⟩,lv⟩):=zp
  have zh:∀h:aW L x<(aP L (aW L x) (⟨x.ep,x.ap,x.Ty,[]⟩:aC)).length,(aP L (aW L x) (⟨x.ep,x.ap,x.Ty,[]⟩:aC))[aW L x]=⟨x.ep,x.ap,x.Ty,[]⟩:=λh=>by
   have:=jP (x:=(⟨x.ep,x.ap,x.Ty,[]⟩:aC)) T;rw[Pp h]at this;exact Option.some.inj this
  have U:∀h:aW L x<(aP n (aW L x) (⟨B,C,D,.nil⟩:cV)).length,(aP n (aW L x) (⟨B,C,D,.nil⟩:cV))[aW L x]=⟨B,C,D,.nil⟩:=λh=>by
   have:=jP (l:=n) (i:=aW L x) (x:=(⟨B,C,D,.nil⟩:cV)) Y;rw[Pp h]at this;exact Option.some.inj this
  have za:aW L x<(aP L (aW L x) (⟨x.ep,x.ap,x.Ty,[]⟩:aC)).length:=by rw[bT _ T];omega
  have o:Eb S.heap.size w6 w.heap.size F L x p ⟨A2,li.n+1,c2⟩ (aP n (aW L x) ⟨B,C,D,.nil⟩) (aP L (aW L x) ⟨x.ep,x.ap,x.Ty,[]⟩):=by
   refine⟨⟨zk,zl⟩,za,?_,?_,λj h1 h2 zb g e=>?_,λh1 w P K=>?_,?_,zD⟩
   ·rw[zh za,ul T,qj (by rw[<-zz];exact hq),<-zy,iP hq]
   ·rw[zh za];exact⟨Z,Z,Z⟩
   ·rw[U h1]at e;cases e
   ·rw[U h1]at K;exact f.all _ _ (au (Ext.refl w) K (Ph _) (λk e=>by cases e))
   rw[zh za];simp
  refine Wz ?_;have hA:=o.own.row.sl.base;have zi:aW L x<(li.n+1):=by have:=o.own.rd.len;have:=o.lt;omega
  have N:aW L x<((aP n (aW L x) (⟨B,C,D,.nil⟩:cV))).length:=by have:=o.own.rd.len;have:=o.lt;omega
  have zt:=o.lt;have zK:=o.small;refine CW.iF 15 18 (λw2=>ay w2 b1 34 (bg ⟨a,m,cp,⟨A2,li.n+1,c2⟩,lv⟩)) mixed bm λw1 s c=>?_;obtain⟨r,d,o,f⟩:=cG s r d o f;refine Wi 0 [] c Z (aH Z) (λw2 E=>aH Z) ?_;refine SF.nz 1 [] c Z bm bm bm (aX Z) (λw2 E=>aX Z) Z ?_;refine Wi 2 [] c Z (aI Z) (λw2 E=>aI Z) ?_;refine SF.nz 3 [] c Z bm bm bm (aJ Z (d.cell (i:=3) (v:= .slice A2 (li.n+1) c2) Z)) (λw2 E=>aJ Z (E.cell (i:=3) (v:= .slice A2 (li.n+1) c2) Z)) Z ?_;refine Wi 4 [] c Z (aH Z) (λw2 E=>aH Z) ?_;refine Wp 5 [12,11,10,8,7,6] [] c Z Z ?_;refine Wt 6 [12,11,10,8,7] [] c Z (aX Z) ?_;refine Wt 7 [12,11,10,8] [] c Z (aI Z) ?_;refine Wt 8 [12,11,10] [] c Z (aJ Z (d.cell (i:=3) (v:= .slice A2 (li.n+1) c2) Z)) ?_;refine Wp 9 [12,11,10] [] c Z Z ?_;refine Wt 10 [12,11] [] c Z (bO Z Z ig Y) ?_;refine Wt 11 [12] [] c Z (aI Z) ?_;refine Wt 12 [] [] c Z (aJ Z (o.own.row.sl.dp zi (j:=3) (u:= .slice ((aP n (aW L x) (⟨B,C,D,.nil⟩:cV)))[aW L x].aq.A ((aP n (aW L x) (⟨B,C,D,.nil⟩:cV)))[aW L x].aq.n ((aP n (aW L x) (⟨B,C,D,.nil⟩:cV)))[aW L x].aq.c) Z)) ?_;refine Wp 13 [14] [] c Z Z ?_;refine SF.bD 14 ?_;refine SW.bz Z Z Z Z Z λb w4 H hb hB=>?_;obtain⟨r,d,o,f⟩:=cG H r d o f;have zj:S.heap.size<=w4.heap.size:=o.size;refine SW.nil (ah.sf H ?_);refine SF.eW ?_;have O:=o.own.each.get (aW L x) N zt;have I:=O.bt;have zL:=I.sl.len;refine SW.tv I (ay.la (enc:=aT) hB) r.size ir Z Z Z Y Y λA3 c3 w5 zu K V=>?_;have E:=d.aQ (I.gr K) Z;have J:=o.own.row.aQ (I.gr K) Z;have zf:=o.NV N _ _ K f.at_;have r:=au r K (Ph _) I.az;refine SW.nil (ah.sg E ?_);refine SG.bD 16 ?_;repeat((show SW _ _ _ _ (⟨_,Op.indexAddr _ _ _,_,_,_,none⟩::_) _ _;refine SW.st (bO Z Z ig Y) Z ?_))
  refine SW.nil (ah.sg E ?_);refine SG.bD 17 ?_;repeat((show SW _ _ _ _ (⟨_,Op.fieldAddr _ _ _,_,_,_,none⟩::_) _ _;refine SW.st (aI Z) Z ?_))
  refine SW.nil (ah.sg E ?_);refine SG.dQ ?_;refine SW.eY (aW L x) 3 ⟨((aP n (aW L x) (⟨B,C,D,.nil⟩:cV)))[aW L x].ep,((aP n (aW L x) (⟨B,C,D,.nil⟩:cV)))[aW L x].ap,((aP n (aW L x) (⟨B,C,D,.nil⟩:cV)))[aW L x].Ty,⟨A3,((aP n (aW L x) (⟨B,C,D,.nil⟩:cV)))[aW L x].aq.n+1,c3⟩⟩ J Z Z Z zi ir Z Z λw6 W G=>?_;have M:=J.gr G;have zg:=zd _ _ _ G (λk e=>by rcases zo k e with h|h;exact .inr (.inl h);exact .inr (.inr (Pj Q h))) zf;have r:=au r G (Ph _) J.az;refine Wz ?_;refine ah.vG Z ⟨_,Z,r,zg,⟨A2,li.n+1,c2⟩,((aP n (aW L x) (⟨B,C,D,.nil⟩:cV))).set (aW L x) ⟨((aP n (aW L x) (⟨B,C,D,.nil⟩:cV)))[aW L x].ep,((aP n (aW L x) (⟨B,C,D,.nil⟩:cV)))[aW L x].ap,((aP n (aW L x) (⟨B,C,D,.nil⟩:cV)))[aW L x].Ty,⟨A3,((aP n (aW L x) (⟨B,C,D,.nil⟩:cV)))[aW L x].aq.n+1,c3⟩⟩,E.aQ (b:=b1) (t':=34) M Z,?_⟩
  have zv:AW S.heap.size li n ⟨A2,li.n+1,c2⟩ ((aP n (aW L x) (⟨B,C,D,.nil⟩:cV)).set (aW L x) ⟨((aP n (aW L x) (⟨B,C,D,.nil⟩:cV)))[aW L x].ep,((aP n (aW L x) (⟨B,C,D,.nil⟩:cV)))[aW L x].ap,((aP n (aW L x) (⟨B,C,D,.nil⟩:cV)))[aW L x].Ty,⟨A3,((aP n (aW L x) (⟨B,C,D,.nil⟩:cV)))[aW L x].aq.n+1,c3⟩⟩):=by
   rw[ul zB];refine AW.ins zc zm (λg e=>?_) (λk e=>(zs k e).imp id (λh=>Pj Q h));rcases V g e with h|h
   ·rw[U N]at h;cases h
   exact Pj zj h
  refine⟨?_,zv⟩;rw[<-o.pK];refine⟨W,dR.setAt (R:=mP _ w.heap.size) o.own.each ⟨O.cpu.trans o.key.1,O.fX.trans o.key.2.1,O.ty.trans o.key.2.2,zu.aQ M Z⟩ λj h1 h2 zb ho=>⟨ho.cpu,ho.fX,ho.ty,?_⟩⟩;refine(ho.bt.grown K ?_).aQ M Z;cases eo:aN ((aP n (aW L x) (⟨B,C,D,.nil⟩:cV)))[j].aq.A ((aP n (aW L x) (⟨B,C,D,.nil⟩:cV)))[j].aq.c with
  | none=>exact .inl Z
  | some g=>
    right;intro e;exact o.sep j N h1 zb g e.symm eo
 obtain⟨T,zE⟩:=fK hq;refine Wz ?_;refine fq ?_;repeat'(first|refine Wz ?_|(refine CW.bo Z ?_)|refine SW.ba Z Z (λw1 s=>(cL _ (A.rd.ext s))) ?_|(refine SW.br λw1 s=>?_;obtain⟨r,d,t,A,f⟩:=dz s r d t A f))
 have Q:=Pj X (PR t.lt);have o:=(⟨A,T,by rw[qi (by rw[<-zz];exact hq),<-zy,fk hq T],zE,λj h1 h2 zb g e=>zc _ _ h1 h2 (Ne.symm zb) g e,λh1 w P K=>zH _ h1 w P K,zG _ (Pf T),Q⟩:Eb S.heap.size _ w.heap.size F L x p li n L);have hA:=o.own.row.sl.base;have zi:aW L x<li.n:=by have:=o.own.rd.len;have:=o.lt;omega
 have N:aW L x<(n).length:=by have:=o.own.rd.len;have:=o.lt;omega
 have zt:=o.lt;have zK:=o.small;refine CW.iF 15 18 (λw2=>ay w2 b1 34 (bg ⟨a,m,cp,li,lv⟩)) mixed bm λw1 s c=>?_;obtain⟨r,d,o,f⟩:=cG s r d o f;refine Wi 0 [] c Z (aH Z) (λw2 E=>aH Z) ?_;refine SF.nz 1 [] c Z bm bm bm (aX Z) (λw2 E=>aX Z) Z ?_;refine Wi 2 [] c Z (aI Z) (λw2 E=>aI Z) ?_;refine SF.nz 3 [] c Z bm bm bm (aJ Z (d.cell (i:=3) (v:= .slice li.A li.n li.c) Z)) (λw2 E=>aJ Z (E.cell (i:=3) (v:= .slice li.A li.n li.c) Z)) Z ?_;refine Wi 4 [] c Z (aH Z) (λw2 E=>aH Z) ?_;refine Wp 5 [12,11,10,8,7,6] [] c Z Z ?_;refine Wt 6 [12,11,10,8,7] [] c Z (aX Z) ?_;refine Wt 7 [12,11,10,8] [] c Z (aI Z) ?_;refine Wt 8 [12,11,10] [] c Z (aJ Z (d.cell (i:=3) (v:= .slice li.A li.n li.c) Z)) ?_;refine Wp 9 [12,11,10] [] c Z Z ?_;refine Wt 10 [12,11] [] c Z (bO Z Z ig Y) ?_;refine Wt 11 [12] [] c Z (aI Z) ?_;refine Wt 12 [] [] c Z (aJ Z (o.own.row.sl.dp zi (j:=3) (u:= .slice (n)[aW L x].aq.A (n)[aW L x].aq.n (n)[aW L x].aq.c) Z)) ?_;refine Wp 13 [14] [] c Z Z ?_;refine SF.bD 14 ?_;refine SW.bz Z Z Z Z Z λb w4 H hb hB=>?_;obtain⟨r,d,o,f⟩:=cG H r d o f;have zj:S.heap.size<=w4.heap.size:=o.size;refine SW.nil (ah.sf H ?_);refine SF.eW ?_;have O:=o.own.each.get (aW L x) N zt;have I:=O.bt;have zL:=I.sl.len;refine SW.tv I (ay.la (enc:=aT) hB) r.size ir Z Z Z Y Y λA3 c3 w5 zu K V=>?_;have E:=d.aQ (I.gr K) Z;have J:=o.own.row.aQ (I.gr K) Z;have zf:=o.NV N _ _ K f.at_;have r:=au r K (Ph _) I.az;refine SW.nil (ah.sg E ?_);refine SG.bD 16 ?_;repeat((show SW _ _ _ _ (⟨_,Op.indexAddr _ _ _,_,_,_,none⟩::_) _ _;refine SW.st (bO Z Z ig Y) Z ?_))
 refine SW.nil (ah.sg E ?_);refine SG.bD 17 ?_;repeat((show SW _ _ _ _ (⟨_,Op.fieldAddr _ _ _,_,_,_,none⟩::_) _ _;refine SW.st (aI Z) Z ?_))
 refine SW.nil (ah.sg E ?_);refine SG.dQ ?_;refine SW.eY (aW L x) 3 ⟨(n)[aW L x].ep,(n)[aW L x].ap,(n)[aW L x].Ty,⟨A3,(n)[aW L x].aq.n+1,c3⟩⟩ J Z Z Z zi ir Z Z λw6 W G=>?_;have M:=J.gr G;have zg:=zd _ _ _ G (λk e=> .inr (.inl e)) zf;have r:=au r G (Ph _) J.az;refine Wz ?_;refine ah.vG Z ⟨_,Z,r,zg,li,(n).set (aW L x) ⟨(n)[aW L x].ep,(n)[aW L x].ap,(n)[aW L x].Ty,⟨A3,(n)[aW L x].aq.n+1,c3⟩⟩,E.aQ (b:=b1) (t':=34) M Z,?_⟩
 have zv:AW S.heap.size li n li ((n).set (aW L x) ⟨(n)[aW L x].ep,(n)[aW L x].ap,(n)[aW L x].Ty,⟨A3,(n)[aW L x].aq.n+1,c3⟩⟩):=by
  refine AW.pK zc zm N (λg e=>?_);rcases V g e with h|h
  ·exact .inl h
  exact .inr (Pj zj h)
 refine⟨?_,zv⟩;rw[<-o.pK];refine⟨W,dR.setAt (R:=mP _ w.heap.size) o.own.each ⟨O.cpu.trans o.key.1,O.fX.trans o.key.2.1,O.ty.trans o.key.2.2,zu.aQ M Z⟩ λj h1 h2 zb ho=>⟨ho.cpu,ho.fX,ho.ty,?_⟩⟩;refine(ho.bt.grown K ?_).aQ M Z;cases eo:aN (n)[j].aq.A (n)[j].aq.c with
 | none=>exact .inl Z
 | some g=>
   right;intro e;exact o.sep j N h1 zb g e.symm eo
variable {cp:Int}
structure lQ(w:World)(lo:Nat)(m li lv:jC)(ls:List cV)(h:Heap):Prop where
 cx:Own w lo 3 1 aT m.A m.n m.c h.bY
 live:Own w lo 129 3 aL lv.A lv.n lv.c h.Live
 lists:dw w lo li ls h.ak
section
variable {w w':World}{lo t:Nat}{m li lv:jC}{ls:List cV}{h:Heap}
theorem lQ.ext(a:lQ w lo m li lv ls h)(b:Ext w w'):lQ w' lo m li lv ls h:=⟨a.cx.ext b,a.live.ext b,a.lists.ext b⟩
theorem lQ.aQ(a:lQ w lo m li lv ls h)(c:oe w w' t)(b:(Nat.beq t 3||(Nat.beq t 129||Nat.beq t 100))=false):lQ w' lo m li lv ls h:=by
 simp only[Bool.or_eq_false_iff]at b;obtain⟨d,e,f⟩:=b;exact⟨a.cx.aQ c d,a.live.aQ c e,a.lists.aQ c (by simp[d,f])⟩
theorem ik.split{r:fB}(a:ik w lo r h)(k:h.aK=[z0,z1]):∃g c d e f,r.aK=⟨some ⟨g,0,none⟩,2,c⟩∧dM w lo g c d e (z0,z1)∧lQ w lo r.bY r.ak r.Live f h:=by
 obtain⟨p,b⟩:=a.bA;obtain⟨f,i⟩:=a.lists;have l:=b.each.len;rw[k]at l;obtain⟨d,e,rfl⟩:=sk (show p.length=2 from l);have q:=b.row.len;have m:=b.each.get 0 fy (by grind);have n:=b.each.get 1 fy (by grind);simp only[k]at m n;have o:0<r.aK.c:=by have:=b.row.le;grind
 obtain⟨g,rest,s,j,_⟩:=b.row.opened o;refine⟨g,r.aK.c,d,e,f,?_,⟨?_,m,n,j,o⟩,⟨a.cx,a.live,i⟩⟩
 ·rw[<-s];have:(2:Nat)=r.aK.n:=q;rw[this]
 have:=b.row;grind
theorem lQ.join(a:lQ w lo m li lv ls h){g c:Nat}{s:ap×ap}(b:dM w lo g c u0 u1 s)(d:cp=h.bl):ik w lo ⟨⟨some ⟨g,0,none⟩,2,c⟩,m,cp,.nil,lv⟩ ⟨[s.1,s.2],h.bY,h.bl,[],h.Live⟩:=
 ⟨d,a.cx,a.live,⟨[u0,u1],⟨b.row,dR.snoc (dR.snoc dR.nil b.z0) b.z1⟩⟩,⟨[],.nil _ _⟩⟩
end
structure G2(w0 w:World)(g b:Nat):Prop where
 os:w.os=w0.os
 tape:w.tape=w0.tape
 output:w.output=w0.output
 size:w0.heap.size<=w.heap.size
 block:∀k,k<w0.heap.size->k≠g->k≠b->w.heap[k]?=w0.heap[k]?
section
variable {w0 w w':World}{g b k t:Nat}{cs:List Value}
theorem G2.refl(w:World)(g b:Nat):G2 w w g b:=⟨Z,Z,Z,Ph _,λ_ _ _ _=>Z⟩
theorem G2.step(h:G2 w0 w g b)(a:w.grownBy w' row)(i:∀k,row=some k->k=g∨k=b∨w0.heap.size<=k):G2 w0 w' g b:=
 ⟨a.os.trans h.os,a.tape.trans h.tape,a.output.trans h.output,Pj h.size a.size,λk c d f=>by
  rw[a.block k (P1 c h.size) (λe=>by grind)];exact h.block k c d f⟩
theorem G2.ext(h:G2 w0 w g b)(a:Ext w w'):G2 w0 w' g b:=h.step (a.gr none) (λk e=>by cases e)
theorem G2.LS(h:G2 w0 w g b)(a:w.grownBy w' (some g)):G2 w0 w' g b:=h.step a (λk e=>by grind)
theorem G2.NY(h:G2 w0 w g b)(a:w.grownBy w' (some b)):G2 w0 w' g b:=h.step a (λk e=>by grind)
theorem G2.new(h:G2 w0 w g b)(a:w.grownBy w' (some k))(c:w0.heap.size<=k):G2 w0 w' g b:=h.step a (λi e=>by grind)
theorem G2.dm(h:G2 w0 w g b)(a:ay w0 k t cs)(c:k≠g)(d:k≠b):ay w k t cs:=(h.block k a.lt c d).trans a
end
noncomputable def iz(h:Heap)(a b:ap)(k:Nat):ap×ap:=bp (a,b) ((aM h.ak).take k)
theorem Ix(h:Heap)(u x:ap)(W:me h u x)(X:h.small)(m:jC)(D:Int)(li B:jC)(p:List cV)(y z:cM)(g c l lo:Nat)(w A:World)(f:Ext w A)(E:w.heap.size<=lo)(b:lo<=A.heap.size)(F:lo<=l)
 (a:ay A l 34 (bg ⟨⟨some ⟨g,0,none⟩,2,c⟩,m,D,li,B⟩)) (k:dM A lo g c y z (u,x)) (e:lQ A lo m li B p h):
 jX prog 73 [Pt l] A λv d=>Ext w d∧G2 A d g l∧ay d l 34 (bg ⟨⟨some ⟨g,0,none⟩,2,c⟩,m,D,.nil,B⟩)∧lQ d lo m li B p h∧∃y z,dM d lo g c y z (bp (u,x) (aM h.ak)):=by
 refine c8 func73 rfl ntmps73 rfl ?_;have N:w.heap.size<=g:=Pj E k.xD;have za:w.heap.size<=l:=Pj E F;have n:=G2.refl A g l;have zb:=e.lists.rd.len;have s4:=X.lists;have O:=e.lists.row.sl.base;refine Wz ?_
 refine CW.loop (λt:Nat×cM×cM=>[(0,Pt l),(9,.slice li.A li.n li.c),(10,Iv (li.n:Int)),(11,Iv (t.1:Int))])
  (λt d=>t.1<=li.n∧Ext w d∧G2 A d g l∧lo<=d.heap.size∧ay d l 34 (bg ⟨⟨some ⟨g,0,none⟩,2,c⟩,m,D,li,B⟩)∧dM d lo g c t.2.1 t.2.2 (iz h u x (iG h.ak t.1))∧lQ d lo m li B p h) (λt=>li.n-t.1) (0,y,z)
  ⟨rfl,rfl,rfl,rfl,trivial⟩ ⟨by omega,f,n,b,a,by simpa[iz,iG,aM,bp]using k,e⟩ ?_
 rintro⟨i,y,z⟩ d ⟨hi,f,n,b,a,k,e⟩;simp only at hi k⊢;have hA:=e.lists.row.sl.base;by_cases P:i<li.n
 ·have o:i<h.ak.length:=Y;have q:i<p.length:=Y;have r:=e.lists.each.get i q o;have zc:=r.bt.sl.len;have zd:=X.bt _ (Pf o);repeat'(first|refine Wz ?_|refine Wm ((e.lists.row.sl.all P)) ?_)
  have Q:=f.size;refine Wr (gG.one (enc:=fj) _) λb3 w2 G s H=>?_;have I:=f.up s;obtain⟨f,a,k,e,n⟩:=dz G f a k e n;have J:=(e.lists.each.get i q o).bt.sl.base;have C:lo<=w2.heap.size:=Pj b (Pj s (PR H.lt));refine Wz ?_
  refine CW.loop (λt:Nat×cM×cM=>[(0,Pt l),(9,.slice li.A li.n li.c),(10,Iv (li.n:Int)),(11,Iv (i:Int)),(16,.slice p[i].aq.A p[i].aq.n p[i].aq.c),(17,Iv (p[i].aq.n:Int)),(18,Iv (t.1:Int))])
   (λt d=>t.1<=p[i].aq.n∧Ext w d∧G2 A d g l∧lo<=d.heap.size∧ay d l 34 (bg ⟨⟨some ⟨g,0,none⟩,2,c⟩,m,D,li,B⟩)∧dM d lo g c t.2.1 t.2.2 (iz h u x (iG h.ak i+t.1))∧lQ d lo m li B p h) (λt=>p[i].aq.n-t.1) (0,y,z)
   ⟨Z,Z,Z,Z,Z,Z,Z,trivial⟩ ⟨by omega,f,n,C,a,k,e⟩ ?_
  rintro⟨j,y,z⟩ d ⟨hj,f,n,b,a,k,e⟩;simp only at hj k⊢;by_cases R:j<p[i].aq.n
  ·have S:j<h.ak[i].aq.length:=Y;have r:=e.lists.each.get i q o;have J:=r.bt.sl.base;obtain⟨hK,T⟩:=th o S;have hN:=W.next hK;have hD:=W.inv (iG h.ak i+j) Y;have hT:=kJ (u,x) (aM h.ak) _ hK;rw[T]at hN hT;have U:iz h u x (iG h.ak i+(j+1))=eI (iz h u x (iG h.ak i+j)) (bC h.ak[i].aq[j]):=hT;repeat'(first|refine Wz ?_|refine Wl (r.bt.sl.one R Z) ?_)
   refine SW.cm Z Z (uC m D li B y z _ _ (bC h.ak[i].aq[j]) lo g c l _ a k b hD hN) λv w5 hv=>?_;obtain⟨M,u2,u3,V⟩:=hv;have hG:=k.gr M;have f:=f.own N M;have n:=n.LS M;obtain⟨a,e⟩:=bk hG a e;have b:=Pj b M.size;refine Wz ?_;refine ah.again (j+1,u2,u3) ⟨Z,Z,Z,Z,Z,Z,Z,trivial⟩ dD ⟨by simp only;omega,f,n,b,a,?_,e⟩;simp only;rw[U];exact V
  have ej:iG h.ak i+j=iG h.ak (i+1):=by rw[tg o];omega
  rw[ej]at k;refine Wz ?_;exact ah.again (i+1,y,z) ⟨Z,Z,Z,Z,trivial⟩ dD ⟨by simp only;omega,f,n,b,a,k,e⟩
 have ei:i=h.ak.length:=Y
 have K:iz h u x (iG h.ak i)=bp (u,x) (aM h.ak):=by
  rw[ei,v3,iz,Pl (Ph _)]
 rw[K]at k;refine Wz ?_;refine We (i:=3) a λw6 g L=>?_;have f:=jc g f;refine Wz ?_;exact ah.vG Z ⟨_,Z,f,n.NY g.g,L,e.aQ g.T Z,y,z,k.aQ g.T Z⟩
variable {a:Int} {z:ap}
theorem Kl(h:bV z)(b:z.aE<=a)(c:a<z.To):rS z a=(rO z a,0):=by
 simp only[rS,sQ h,if_true,if_pos (And.intro b c)];rfl
theorem xQ(r:fB)(h:Heap)(cpu a:Int)(w:World)(hr:AQ w r h)(hs:h.small)(ym:∀z∈h.aK,ew z)(ha: -9223372036854775808<=a∧a<=9223372036854775807):
 aS prog 77 [.agg (bg r).toArray,Iv cpu,Iv a] w (fc w.heap.size (ee h cpu a)):=by
 refine Wj func77 ntmps77 ?_;refine Ww λb3 w1 p zL d=>?_;have zk:=zL;refine SW.alloc Z λb6 w2 zM zN n=>?_;have V:w.heap.size<=b6:=Pj p.size zN;have zd:b3≠b6:=by have:=d.lt;omega
 (replace p:=Ext.trans p zM;replace d:=d.ext zM);have eC:=hr.cpus;obtain⟨q,hq⟩:=bq (gd h)
 have c1:∀R,Ext w R->aS prog 70 [.agg (bg r).toArray] R λv _=>v=Iv (if q then 0 else 8):=λR hx=>by
  have:=ph r h R (hr.ext hx) hs ym;rwa[hq]at this
 cases q
 ·simp only[Bool.false_eq_true,if_false]at c1;rw[CP hq];repeat'(first|refine Wz ?_|(refine Wk (c1 _ p) ?_;intro v w1 o N;subst N;replace p:=Ext.trans p o;replace d:=d.ext o;replace n:=n.ext o))
  refine Wg n (bw .zero) λw5 S D=>?_;replace p:=p.own V D;refine Wz ?_;exact ah.a9 Z Z Z S Z ⟨_,Z,p,fc.zero 8 _ _⟩
 simp only[if_true]at c1;have hm:=ch.1 hq;obtain⟨z0,z1,f⟩:=fC hm;by_cases hc:0<=cpu∧cpu<h.bl
 ·repeat'(first|refine Wz ?_|(refine Wk (c1 _ p) ?_;intro v w1 o N;subst N;replace p:=Ext.trans p o;replace d:=d.ext o;replace n:=n.ext o))
  all_goals try omega
  have yK:=hr.live.len;have s2:=hs.live;have yn:=jh f.live;refine Wk (H7 r h.Live a _ (hr.live.ext p) yn (λb hb=>by obtain⟨k,hk,rfl⟩:=Pg hb;exact(f.live.each k hk).2.1) Y ha) λv w4 ze N=>?_;(replace p:=Ext.trans p ze;replace d:=d.ext ze;replace n:=n.ext ze);cases hf:bx h.Live a
  ·rw[CQ hq hc hf];obtain⟨i,rfl⟩:=N.2 hf;repeat'(first|refine Wz ?_|(refine CW.bQ Z ?_))
   refine Wg n (bw .zero) λw5 S D=>?_;replace p:=p.own V D;refine Wz ?_;exact ah.a9 Z Z Z S Z ⟨_,Z,p,fc.zero 4 _ _⟩
  rw[mi hq hc hf];have N:=N.1 hf;subst N;obtain⟨hk,zO⟩:=fR hf;obtain⟨k,ek⟩:=bq (bB h.Live a);simp only[ek]at hk zO⊢;have yo:=f.live.each k hk;have zP:=f.next hk;repeat'(first|refine Wz ?_|(refine CW.bo Z ?_))
  refine Wk (se r h _ (hr.ext p) hs) λv w4 ze N=>?_;obtain⟨s,rfl,hO⟩:=N;have J:=hO.own.cx.low p.size;have H:=hO.own.live.low p.size;have zw:=hO.own.cpus;obtain⟨g,c,u0,u1,ls,eZ,A,B,zl,zQ⟩:=hO.split f.d.bA;have A:dM w4 w.heap.size g c u0 u1 (z0,z1):=⟨A.row.low p.size,A.z0.low p.size,A.z1.low p.size,Pj p.size A.xD,A.pos⟩;replace B:=B.low p.size;(replace p:=Ext.trans p ze;replace d:=d.ext ze;replace n:=n.ext ze);obtain⟨sz,m,cp,li,C⟩:=s;simp only at eZ J H B zl zQ zw;subst eZ;refine Wg d (bw ⟨⟨some ⟨g,0,none⟩,2,c⟩,m,cp,li,C⟩) λw5 O D=>?_;have I:=d.gr D;replace p:=p.own zk D;replace n:=n.grown D (by simpa using Ne.symm zd);(replace A:=A.aQ I Z;replace J:=J.aQ I Z;replace H:=H.aQ I Z;replace B:=B.aQ I Z);replace d:=O;have yL:=H.len;have zR:k<C.n:=Y;have yM:=H.sl.base;repeat'(first|refine Wz ?_|refine Wm ((H.sl.all zR)) ?_)
  have zA:=H.lt_size;refine SW.alloc Z λzS w1 o zm M=>?_;skip;refine Wg M (gG.one (enc:=aL) _) λw2 zn D=>?_;have G:=o.own zm D;have yp:w.heap.size<=zS:=Pj p.size zm;replace p:=Ext.trans p G;replace d:=d.ext G;replace n:=n.ext G;replace A:=A.ext G;replace J:=J.ext G;replace H:=H.ext G;replace B:=B.ext G;replace M:=zn;have zo:aN C.A C.c≠some zS:=λe=>by have:=zA _ e;omega
  refine Wz ?_;refine SW.cm Z Z (oZ dB C.A C.n C.c w.heap.size h.Live _ H k zR Y p.size) λv w6 N=>?_;obtain⟨rfl,zp,D⟩:=N;have I:=H.gr D;replace p:=au p D (Ph _) H.az;replace A:=A.FL zQ D I;replace M:=M.grown D (λe=>zo e.symm);(replace d:=d.aQ I Z;replace n:=n.aQ I Z;replace J:=J.aQ I Z;replace B:=B.aQ I Z);replace H:=zp;refine Wz ?_;refine Wb (i:=4) d λw7 O D=>?_;have I:=d.gr D;replace p:=p.own zk D;replace n:=n.grown D (by simpa using Ne.symm zd);(replace A:=A.aQ I Z;replace J:=J.aQ I Z;replace H:=H.aQ I Z;replace B:=B.aQ I Z;replace M:=M.aQ I Z);replace d:ay w7 b3 34 (bg ⟨⟨some ⟨g,0,none⟩,2,c⟩,m,cp,li,⟨C.A,C.n-1,C.c⟩⟩):=O;have zx:b6≠g:=λe=>A.row.cB n Z (by rw[A.own,e]);have yq:b3≠g:=λe=>A.row.cB d Z (by rw[A.own,e]);by_cases ho:0<h.Live[k].Order
  ·rw[mU f.d.bA hk ek ho];refine Wz ?_;refine SW.cm Z Z (uC m cp li ⟨C.A,C.n-1,C.c⟩ u0 u1 _ _ h.Live[k] w.heap.size g c b3 _ d A p.size f.d.start zP) λv w8 N=>?_;obtain⟨D,u2,u3,U⟩:=N;have I:=A.gr D;replace p:=p.own A.xD D;(replace d:=d.aQ I Z;replace n:=n.aQ I Z;replace J:=J.aQ I Z;replace H:=H.aQ I Z;replace B:=B.aQ I Z);refine Wz ?_;refine Wg n (bw ⟨⟨some ⟨g,0,none⟩,2,c⟩,m,cp,li,⟨C.A,C.n-1,C.c⟩⟩) λw9 S D=>?_;have I:=n.gr D;replace p:=p.own V D;replace U:=U.aQ I Z;(replace J:=J.aQ I Z;replace H:=H.aQ I Z;replace B:=B.aQ I Z);refine Wz ?_;exact ah.a9 Z Z Z S Z ⟨_,Z,p,⟨⟨some ⟨g,0,none⟩,2,c⟩,m,cp,li,⟨C.A,C.n-1,C.c⟩⟩,Z,⟨zw,J,H,⟨[u2,u3],⟨U.row,dR.two U.z0 U.z1⟩⟩,⟨ls,B⟩⟩⟩
  rw[mV f.d.bA hk ek ho];have yN:h.Live[k].Order=0:=by have:=yo.1.1;omega
  have yr:=zP.at_;rw[zO]at yr;have yO:u0.To=z0.To:=A.z0.kW;have yP:=f.d.AT;have yQ:=f.d.G1
  have zT:∃(zi:Nat)(ui:cM)(zz:ap),∃k0:zi<2,[u0,u1][zi]'k0=ui∧(if a<u0.To then(0:Int)else 1)=(zi:Int)∧fv w7 w.heap.size ui zz∧bV zz∧(zz.aE<=a∧a<zz.To)∧keyOf z0 z1 cpu a=⟨cpu,(zi:Int),rO zz a,[]⟩:=by
   by_cases hx:a<z0.To
   ·exact⟨0,u0,z0,by omega,Z,by rw[if_pos Y];rfl,A.z0,f.d.kD,⟨by have:=f.d.nF;omega,hx⟩,by unfold keyOf;rw[if_pos hx,if_pos hx];rfl⟩
   exact⟨1,u1,z1,by omega,Z,by rw[if_neg Y];rfl,A.z1,f.d.j8,⟨by omega,by omega⟩,by unfold keyOf;rw[if_neg hx,if_neg hx];rfl⟩
  obtain⟨zi,ui,zz,k0,ys,yt,zq,zU,⟨yu,yv⟩,zV⟩:=zT
  have cz:∀R,Sl R 4 bu (some ⟨g,0,none⟩) 2 [u0,u1]->aS prog 157 [.agg (bg ⟨⟨some ⟨g,0,none⟩,2,c⟩,m,cp,li,⟨C.A,C.n-1,C.c⟩⟩).toArray,Iv a] R λv _=>v=Iv (zi:Int):=λR h=>by
   have:=uB ⟨⟨some ⟨g,0,none⟩,2,c⟩,m,cp,li,⟨C.A,C.n-1,C.c⟩⟩ u0 u1 a R h;rwa[yt]at this
  have yw:=A.row.sl.base;obtain⟨t,ht⟩:=bq (rO zz a);obtain⟨q1,q2,q3,q4⟩:=kM zq zU;repeat'(first|refine Wz ?_|(refine Wk (cz _ A.row.sl) ?_;intro v w1 o N;subst N;replace p:=Ext.trans p o;replace d:=d.ext o;replace n:=n.ext o;replace M:=M.ext o;replace A:=A.ext o;replace J:=J.ext o;replace H:=H.ext o;replace B:=B.ext o;replace zq:=zq.ext o))
  have fz:=A.row.sl.all k0;simp only[ys]at fz;repeat'(first|refine Wz ?_|refine Wm fz ?_)
  refine Wk (MY.FX ui zz a _ zq.rd Y Y ⟨by omega,by omega⟩ ⟨by omega,by omega⟩) λv w8 zf N=>?_;rw[Kl zU yu yv,ht]at N;simp only at N;subst N;(replace p:=Ext.trans p zf;replace d:=d.ext zf;replace n:=n.ext zf;replace A:=A.ext zf;replace J:=J.ext zf;replace H:=H.ext zf;replace B:=B.ext zf);refine Wz ?_;have zB:=B.row.lt_size;have zW:=d.lt;have zX:=n.lt;refine SW.alloc Z λzD w1 o zr P=>?_;skip;refine Wg P (u6 ⟨cpu,zi,t,.nil⟩) λw2 T D=>?_;have G:=o.own zr D;have yx:w.heap.size<=zD:=Pj p.size zr;replace p:=Ext.trans p G;replace d:=d.ext G;replace n:=n.ext G;replace A:=A.ext G;replace J:=J.ext G;replace H:=H.ext G;replace B:=B.ext G;replace P:=T;refine Wz ?_;replace n:ay w2 b6 34 (bg .zero):=n;have yy:∀l∈h.ak,l.aq.length<=1000:=λl hl=>by have:=(f.lists l hl).2;omega
  obtain⟨F,hF⟩:∃F:World->Prop,F=λv=>ay v b6 34 (bg .zero)∧ay v zD 100 (fj ⟨cpu,zi,t,.nil⟩)∧dM v w.heap.size g c u0 u1 (z0,z1)∧Own v w.heap.size 3 1 aT m.A m.n m.c h.bY∧Own v w.heap.size 129 3 aL C.A (C.n-1) C.c (h.Live.eraseIdx k):=⟨_,Z⟩;have yz:=n.lt;have z2:=P.lt;have z3:aN li.A li.c≠some b6:=B.row.cB n Z
  have z4:LP F w2:=by
   rw[hF];exact⟨⟨n,P,A,J,H⟩,λv v' hx W=>⟨W.1.ext hx,W.2.1.ext hx,W.2.2.1.ext hx,W.2.2.2.1.ext hx,W.2.2.2.2.ext hx⟩⟩
  have z5:∀(v v':World)(row:Option Nat),v.grownBy v' row->(∀k,row=some k->k=b3∨aN li.A li.c=some k∨w2.heap.size<=k)->F v->F v':=λv v' row D za W=>by
   rw[hF]at W⊢;refine⟨W.1.grown D (λe=>?_),W.2.1.grown D (λe=>?_),W.2.2.1.parts D ((A.row.tr B d Z Z).ne za) ((A.z0.free.tr B d Z Z).ne za) ((A.z0.types.tr B d Z Z).ne za) ((A.z1.free.tr B d Z Z).ne za) ((A.z1.types.tr B d Z Z).ne za),W.2.2.2.1.apart D ((J.tr B d Z Z).ne za),W.2.2.2.2.apart D ((H.tr B d Z Z).ne za)⟩
   ·rcases za b6 e.symm with h|h|h
    ·exact zd h.symm
    ·exact z3 h
    omega
   rcases za zD e.symm with h|h|h
   ·omega
   ·have:=zB _ h;omega
   omega
  have z6:∀(i:Nat)(hi:i<ls.length)(v v':World),v.grownBy v' (aN ls[i].aq.A ls[i].aq.c)->F v->F v':=λi hi v v' D W=>by
   rw[hF]at W⊢;have zj:=(B.each.get i hi (by rw[<-B.each.len];exact hi)).bt;exact⟨W.1.grown D (λe=>zj.cB n Z e.symm),W.2.1.grown D (λe=>zj.cB P Z e.symm),W.2.2.1.parts D (A.row.nI zj Z) (A.z0.free.nI zj Z) (λk e e2=>zl.types i hi k e2 u0 fy e) (A.z1.free.nI zj Z) (λk e e2=>zl.types i hi k e2 u1 fy e),W.2.2.2.1.apart D (λk e e2=>zl.cx i hi k e2 e),W.2.2.2.2.apart D (H.nI zj Z)⟩
  obtain⟨x,hx⟩:∃x:aC,x=⟨cpu,zi,t,[]⟩:=⟨_,Z⟩;have z7:us ⟨cpu,zi,t,.nil⟩ x:=by subst hx;exact⟨Z,Z,Z⟩
  obtain⟨yR,_⟩:=B.rd.len;have yG:=f.count;have yH:li.n<=256:=by have:=B.rd.len.2;omega
  refine SW.cm Z Z (Ec ⟨some ⟨g,0,none⟩,2,c⟩ m cp li ⟨C.A,C.n-1,C.c⟩ h.ak ls x ⟨cpu,zi,t,.nil⟩ a F b3 w _ p zk d B z7 Z (by rw[hx]) zl.sep f.iy Y yy z4 z5 z6) λv w9 N=>?_;obtain⟨z8,z9,Q,E,O,ya,_⟩:=N;rw[hF]at z9;obtain⟨zC,T,U,yb,zp⟩:=z9;have p:=z8;have d:=O;have B:=ya;have n:=zC;have P:=T;have A:=U;have J:=yb;have H:=zp;obtain⟨pg,zb⟩:=bq (bZ h.ak x++[a]);have zE:keyOf z0 z1 cpu a=x:=by rw[zV,ht,hx]
  rw[zE,zb];rw[zb]at B;obtain⟨xx,zc⟩:∃xx:aC,(⟨x.ep,x.ap,x.Ty,pg⟩:aC)=xx:=⟨_,Z⟩;rw[zc]at B;have yc:dT x xx:=by rw[<-zc];exact⟨Z,Z,Z⟩
  obtain⟨e1,e2⟩:=ju (L:=h.ak) yc;obtain⟨e3,e4⟩:=DV (L:=h.ak) (x:=xx);obtain⟨e5,e6⟩:=ju (L:=fZ h.ak xx) yc;obtain⟨K,zF⟩:=bq (aW h.ak xx);rw[zF]at e1 e3;have zs:=wU (L:=h.ak) (x:=xx);rw[zF]at zs;obtain⟨zt,zG⟩:=PF.1 zs;obtain⟨l3,l4⟩:=B.rd.len;have zH:K<Q.n:=Y;have zu:K<E.length:=Y
  have yA:Q.n<=257:=by
   rw[<-l4,fZ];split
   ·simp;omega
   rw[bT _ (jg _ _)];omega
  have cl:∀R,vF R Q E (fZ h.ak xx)->aS prog 160 [.agg (bg ⟨⟨some ⟨g,0,none⟩,2,c⟩,m,cp,Q,⟨C.A,C.n-1,C.c⟩⟩).toArray,.agg (fj ⟨cpu,zi,t,.nil⟩).toArray] R λv _=>v= .tuple #[Iv (K:Int),.bool true]:=λR hh=>by
   have:=uu ⟨⟨some ⟨g,0,none⟩,2,c⟩,m,cp,Q,⟨C.A,C.n-1,C.c⟩⟩ (fZ h.ak xx) E x ⟨cpu,zi,t,.nil⟩ R hh z7 dD;rwa[e5,e3,e6,e4]at this
  repeat'(first|refine Wz ?_|(refine Wk (cl _ B.rd) ?_;intro v w1 o N;subst N;replace p:=Ext.trans p o;replace d:=d.ext o;replace n:=n.ext o;replace A:=A.ext o;replace J:=J.ext o;replace H:=H.ext o;replace B:=B.ext o))
  have yB:=B.row.sl.base;have zg:=B.each.get K zu zt;rw[zG]at zg;have yC:=zg.bt.sl.len;have yd:xx.aq=pg:=by rw[<-zc]
  rw[yd]at yC;have g3:=B.row.sl.dp zH (j:=3) (u:= .slice E[K].aq.A E[K].aq.n E[K].aq.c) Z;by_cases h8:8<pg.length
  ·have ye:bW h.ak x=true:=by
    cases e:bW h.ak x with
    | true=>rfl
    | false=>rw[iP e]at zb;rw[<-zb]at h8;simp at h8
   have zI:K<h.ak.length:=by rw[<-e1];exact(fK ye).1
   have yD:bZ h.ak x=h.ak[K].aq:=by
    rw[fk ye Y];simp only[e1]
   rw[yD]at zb;have yS:=(f.lists _ (Pf zI)).2;have yI:pg.length=h.ak[K].aq.length+1:=by rw[<-zb];simp
   have yf:∀j,j<=4->pg.take j=h.ak[K].aq.take j:=λj hj=>by rw[<-zb,PQ Y]
   have yg:∀(j:Nat)(hj:j<pg.length)(yh:j<h.ak[K].aq.length),pg[j]=h.ak[K].aq[j]:=λj hj yh=>by
    simp only[<-zb];exact P2 yh
   have zJ:iq h z0 z1 x pg (h.Live.eraseIdx k)=⟨[(bp (z0,z1) ((pg.take 4).map bC)).1,(bp (z0,z1) ((pg.take 4).map bC)).2],h.bY,h.bl,fZ h.ak (kz x (pg.drop 4)),h.Live.eraseIdx k⟩:=by
    unfold iq;rw[if_pos h8]
   rw[zJ];have yJ:=zg.bt.le;repeat'(first|refine Wz ?_|refine Wl g3 ?_|(refine SW.st (gl (k:=4) Z Z Y) Z ?_))
   refine CW.loop (λt:Nat×cM×cM=>[(3,Pt b3),(6,Pt b6),(16,Iv (K:Int)),(107,.slice E[K].aq.A 4 E[K].aq.c),(108,Iv 4),(109,Iv (t.1:Int))])
    (λt R=>t.1<=4∧Ext w R∧ay R b3 34 (bg ⟨⟨some ⟨g,0,none⟩,2,c⟩,m,cp,Q,⟨C.A,C.n-1,C.c⟩⟩)∧ay R b6 34 (bg .zero)∧dM R w.heap.size g c t.2.1 t.2.2 (bp (z0,z1) ((pg.take t.1).map bC))∧Own R w.heap.size 3 1 aT m.A m.n m.c h.bY∧Own R w.heap.size 129 3 aL C.A (C.n-1) C.c (h.Live.eraseIdx k)∧dw R w.heap.size Q E (fZ h.ak xx)) (λt=>4-t.1) (0,u0,u1)
    ⟨Z,Z,Z,Z,Z,Z,trivial⟩ ⟨by omega,p,d,n,by simpa[bp]using A,J,H,B⟩ ?_
   rintro⟨j,u0,u1⟩ R ⟨hj,p,d,n,A,J,H,B⟩;simp only at hj A⊢;have zg:=B.each.get K zu zt;rw[zG]at zg
   have zv:Own R w.heap.size 3 1 aT E[K].aq.A E[K].aq.n E[K].aq.c pg:=by
    have:=zg.bt;rwa[yd]at this
   have yi:=zv.sl.base;by_cases yT:j<4
   ·have yE:j<E[K].aq.n:=Y;have yj:j<pg.length:=Y;have hD:=f.inv zI j Y;have hN:=f.D5 zI (show j<h.ak[K].aq.length by omega)
    have yF:bp (z0,z1) ((pg.take (j+1)).map bC)=eI (bp (z0,z1) ((pg.take j).map bC)) (bC pg[j]):=by
     rw[Pk yj,PO,kK];rfl
    rw[<-yf j hj,<-yg j yj Y]at hN;rw[<-yf j hj]at hD;have yU:0<4->E[K].aq.A.isSome=true:=λ_=>yi Y;repeat'(first|refine Wz ?_|refine Wl (zv.sl.one yE Z) ?_)
    refine SW.cm Z Z (uC m cp Q ⟨C.A,C.n-1,C.c⟩ u0 u1 _ _ (bC pg[j]) w.heap.size g c b3 _ d A p.size hD hN) λv w8 N=>?_;obtain⟨D,u2,u3,U⟩:=N;have I:=A.gr D;replace p:=p.own A.xD D;(replace d:=d.aQ I Z;replace n:=n.aQ I Z;replace J:=J.aQ I Z;replace H:=H.aQ I Z;replace B:=B.aQ I Z);refine Wz ?_;exact ah.again (j+1,u2,u3) ⟨Z,Z,Z,Z,Z,Z,trivial⟩ dD ⟨by simp only;omega,p,d,n,by simp only;rw[yF];exact U,J,H,B⟩
   obtain rfl:j=4:=Y;have yB:=B.row.sl.base;refine Wz ?_;refine CW.iF 13 13 (λ_=>True) mixed bm λw1 o yk=>?_;replace p:=Ext.trans p o;replace d:=d.ext o;replace n:=n.ext o;replace A:=A.ext o;replace J:=J.ext o;replace H:=H.ext o;replace B:=B.ext o;replace zv:=zv.ext o;refine Wf ?_;refine Wt 8 [] [] yk Z (aJ Z (B.row.sl.dp zH (j:=3) (u:= .slice E[K].aq.A E[K].aq.n E[K].aq.c) Z)) ?_;refine Wt 9 [] [] yk Z (dG (k:=4) Z Z Y Y) ?_;refine SF.bD 10 ?_;refine Wk (eD _ _ _ _ _ (zv.sl.drop 4 E[K].aq.c Y Y) Y) λv w4 G N=>?_;obtain⟨X,c4,rfl,hX⟩:=N;replace hX:=hX.low p.size;(replace p:=Ext.trans p G;replace d:=d.ext G;replace n:=n.ext G;replace A:=A.ext G;replace J:=J.ext G;replace H:=H.ext G;replace B:=B.ext G);refine SW.nil (ah.sf G ?_);refine Wf ?_;refine SF.dQ ?_;refine SW.eY K 3 ⟨E[K].ep,E[K].ap,E[K].Ty,⟨X,E[K].aq.n-4,c4⟩⟩ B.row Z Z Z zH ir Z Z λw6 zK zx=>?_;have zh:=B.row.gr zx;replace p:=au p zx (Ph _) B.row.az;have zy:=B.each.get K zu zt;rw[zG]at zy;have hE:=dR.setAt (R':=mP w6 w.heap.size) (x:=⟨E[K].ep,E[K].ap,E[K].Ty,⟨X,E[K].aq.n-4,c4⟩⟩) (y:=kz x (pg.drop 4)) (i:=K) B.each ⟨zy.cpu.trans (by rw[<-zc];rfl),zy.fX.trans (by rw[<-zc];rfl),zy.ty.trans (by rw[<-zc];rfl),hX.aQ zh Z⟩ (λj h1 h2 _ hh=>hh.aQ zh Z)
   have yl:(fZ h.ak xx).set K (kz x (pg.drop 4))=fZ h.ak (kz x (pg.drop 4)):=by
    rw[<-zF];exact DW (by rw[<-zc];exact⟨Z,Z,Z⟩)
   rw[yl]at hE;(replace d:=d.aQ zh Z;replace n:=n.aQ zh Z;replace A:=A.aQ zh Z;replace J:=J.aQ zh Z;replace H:=H.aQ zh Z);refine Wz ?_;refine Wg n (bw ⟨⟨some ⟨g,0,none⟩,2,c⟩,m,cp,Q,⟨C.A,C.n-1,C.c⟩⟩) λw9 S D=>?_;have I:=n.gr D;replace p:=p.own V D;(replace A:=A.aQ I Z;replace J:=J.aQ I Z;replace H:=H.aQ I Z);refine Wz ?_;exact ah.a9 Z Z Z S Z ⟨_,Z,p,⟨⟨some ⟨g,0,none⟩,2,c⟩,m,cp,Q,⟨C.A,C.n-1,C.c⟩⟩,Z,⟨zw,J,H,⟨[u0,u1],⟨A.row,dR.two A.z0 A.z1⟩⟩,⟨_,⟨zK.aQ I Z,hE.mono λ_ _ hh=>hh.aQ I Z⟩⟩⟩⟩
  have zJ:iq h z0 z1 x pg (h.Live.eraseIdx k)=⟨[z0,z1],h.bY,h.bl,fZ h.ak xx,h.Live.eraseIdx k⟩:=by
   unfold iq;rw[if_neg h8,<-zc];rfl
  rw[zJ];repeat'(first|refine Wz ?_|refine Wl g3 ?_)
  refine Wg n (bw ⟨⟨some ⟨g,0,none⟩,2,c⟩,m,cp,Q,⟨C.A,C.n-1,C.c⟩⟩) λw9 S D=>?_;have I:=n.gr D;replace p:=p.own V D;(replace A:=A.aQ I Z;replace J:=J.aQ I Z;replace H:=H.aQ I Z;replace B:=B.aQ I Z);refine Wz ?_;exact ah.a9 Z Z Z S Z ⟨_,Z,p,⟨⟨some ⟨g,0,none⟩,2,c⟩,m,cp,Q,⟨C.A,C.n-1,C.c⟩⟩,Z,⟨zw,J,H,⟨[u0,u1],⟨A.row,dR.two A.z0 A.z1⟩⟩,⟨E,B⟩⟩⟩
 rw[v7 hq hc];repeat'(first|refine Wz ?_|refine SW.dP Z Z Z (λh=>?_) (λh=>?_)|(refine Wk (c1 _ p) ?_;intro v w1 o N;subst N;replace p:=Ext.trans p o;replace d:=d.ext o;replace n:=n.ext o))
 all_goals try omega
 all_goals
  refine Wg n (bw .zero) λw5 S D=>?_;replace p:=p.own V D;refine Wz ?_;exact ah.a9 Z Z Z S Z ⟨_,Z,p,fc.zero 1 _ _⟩
variable {r:(ap×ap)×List aC×Int} {cpu fl m0 m1 o zi:Int} {bs:List Block} {r':Option ((ap×ap)×List aC×Int)} {z':ap}
def fD(fl:Int):Int:=if 0<=fl∧fl<=15 then(if fl / 2 % 4=0 then 0 else if fl / 2 % 4=1 then 1 else if fl / 2 % 4=2 then 2 else-1)else-1
theorem oH(h:0<=fD fl):(0<=fl∧fl<=15)∧iu (fD fl):=by
 unfold fD iu at*<;>grind
def rU(s:ap×ap)(a:Int):ap:=if a=0 then s.1 else s.2
def l9(s:ap×ap)(a:Int)(z:ap):ap×ap:=if a=0 then(z,s.2)else(s.1,z)
def qL(m0 m1:Int)(s:ap×ap)(a fl:Int):Int:=(if 8<=fl then(if a=0 then m0 else m1) / 2 else(if a=0 then m0 else m1))+(if a=0∧fl % 2=0 then(s.2.To-s.2.aE) / 32 else 0)
def eQ(m0 m1:Int)(s:ap×ap)(a o fl:Int):Prop:=qL m0 m1 s a fl<=fu (rU s a).ai-pw o
instance (m0 m1:Int) (s:ap×ap) (zi o fl:Int):Decidable (eQ m0 m1 s zi o fl):=inferInstanceAs (Decidable (_<=_))
inductive gi(m0 m1 zi t fl:Int):ap×ap->List Int->(ap×ap)×List Int->Prop
 | full {s:ap×ap} {l:List Int} (h:l.length=3):gi m0 m1 zi t fl s l (s,l)
 | nW {s:ap×ap} {l:List Int} (h:l.length<3) (he:¬eQ m0 m1 s zi 0 fl):gi m0 m1 zi t fl s l (s,l)
 | none {s:ap×ap} {l:List Int} {u:ap×Int×Int} (h:l.length<3) (he:eQ m0 m1 s zi 0 fl) (ht:gq (rU s zi) 0 t u) (hu:u.2.2≠0):gi m0 m1 zi t fl s l (s,l)
 | more {s:ap×ap} {l:List Int} {u:ap×Int×Int} {r:(ap×ap)×List Int} (h:l.length<3) (he:eQ m0 m1 s zi 0 fl) (ht:gq (rU s zi) 0 t u) (hu:u.2.2=0) (hr:gi m0 m1 zi t fl (l9 s zi u.1) (l++[u.2.1]) r):gi m0 m1 zi t fl s l r
theorem gi.c7{t:Int}{s:ap×ap}{l:List Int}{r g:(ap×ap)×List Int}(h:gi m0 m1 zi t fl s l r):gi m0 m1 zi t fl s l g->r=g:=by
 induction h with
 | full h=>intro k;cases k<;>grind
 | nW h i=>intro k;cases k<;>grind
 | none h i c d=>intro k;cases k with
   | full h'=>omega
   | nW _ f=>grind
   | none=>rfl
   | more _ _ a b=>rw[c.c7 a]at d;grind
 | more h i c d m n=>intro k;cases k with
   | full h'=>omega
   | nW _ f=>grind
   | none _ _ a b=>rw[c.c7 a]at d;grind
   | more _ _ a b j=>
     have e:=c.c7 a;grind
def dH(x:aC)(pg:List Int):aC:=⟨x.ep,x.ap,x.Ty,pg⟩
def rG(L:List aC)(x:aC)(pg:List Int):List aC:=if pg.length<=1 then L.eraseIdx (aW L x)else L.set (aW L x) (dH x pg.dropLast)
def jx(L:List aC)(x:aC)(pg:List Int):List aC:=if pg=[]then L else fZ L (dH x pg)
inductive iY(m0 m1 cpu zi o t fl:Int)(s:ap×ap)(L:List aC):Option ((ap×ap)×List aC×Int)->Prop
 | list (ho:o=0) (hk:bW L ⟨cpu,zi,t,[]⟩=true) (hp:bZ L ⟨cpu,zi,t,[]⟩≠[]):iY m0 m1 cpu zi o t fl s L (some (s,rG L ⟨cpu,zi,t,[]⟩ (bZ L ⟨cpu,zi,t,[]⟩),(bZ L ⟨cpu,zi,t,[]⟩).getLast hp))
 | nW (hn:¬(o=0∧bW L ⟨cpu,zi,t,[]⟩=true)) (he:¬eQ m0 m1 s zi o fl):iY m0 m1 cpu zi o t fl s L none
 | none {u:ap×Int×Int} (hn:¬(o=0∧bW L ⟨cpu,zi,t,[]⟩=true)) (he:eQ m0 m1 s zi o fl) (ht:gq (rU s zi) o t u) (hu:u.2.2≠0):iY m0 m1 cpu zi o t fl s L none
 | tz {u:ap×Int×Int} (ho:0<o) (he:eQ m0 m1 s zi o fl) (ht:gq (rU s zi) o t u) (hu:u.2.2=0):iY m0 m1 cpu zi o t fl s L (some (l9 s zi u.1,L,u.2.1))
 | fill {u:ap×Int×Int} {r:(ap×ap)×List Int} (ho:o=0) (hk:bW L ⟨cpu,zi,t,[]⟩=false) (he:eQ m0 m1 s zi o fl) (ht:gq (rU s zi) o t u) (hu:u.2.2=0) (hr:gi m0 m1 zi t fl (l9 s zi u.1) [] r):iY m0 m1 cpu zi o t fl s L (some (r.1,jx L ⟨cpu,zi,t,[]⟩ r.2,u.2.1))
theorem iY.c7{t:Int}{s:ap×ap}{r:Option ((ap×ap)×List aC×Int)}(h:iY m0 m1 cpu zi o t fl s L r)(k:iY m0 m1 cpu zi o t fl s L r'):r=r':=by
 cases h with
 | list i m u=>cases k<;>grind
 | nW n j=>cases k<;>grind
 | none n j b d=>cases k with
   | list i m=>grind
   | nW _ f=>grind
   | none=>rfl
   | tz _ _ a c|fill _ _ _ a c=>rw[b.c7 a]at d;grind
 | tz i j b d=>cases k with
   | list g=>omega
   | nW _ f=>grind
   | none _ _ a c=>rw[b.c7 a]at d;grind
   | tz _ _ a=>rw[b.c7 a]
   | fill g=>omega
 | fill i m j b d p=>cases k with
   | list _ q=>grind
   | nW _ f=>grind
   | none _ _ a c=>rw[b.c7 a]at d;grind
   | tz g=>omega
   | fill _ _ _ a _ l=>
     have e:=b.c7 a;subst e;rw[p.c7 l]
inductive iZ(m0 m1 cpu o t fl:Int)(s:ap×ap)(L:List aC):Option ((ap×ap)×List aC×Int)->Prop
 | tf {r:(ap×ap)×List aC×Int} (hf:fl % 2=0) (h:iY m0 m1 cpu 1 o t fl s L (some r)):iZ m0 m1 cpu o t fl s L (some r)
 | low {r:Option ((ap×ap)×List aC×Int)} (hf:fl % 2=0->iY m0 m1 cpu 1 o t fl s L none) (h:iY m0 m1 cpu 0 o t fl s L r):iZ m0 m1 cpu o t fl s L r
theorem iZ.c7{t:Int}{s:ap×ap}{r:Option ((ap×ap)×List aC×Int)}(h:iZ m0 m1 cpu o t fl s L r)(k:iZ m0 m1 cpu o t fl s L r'):r=r':=by
 cases h with
 | tf b h=>cases k with
   | tf _ h'=>exact h.c7 h'
   | low a=>cases h.c7 (a b)
 | low b h=>cases k with
   | tf a h'=>cases h'.c7 (b a)
   | low _ h'=>exact h.c7 h'
def cQ(h:Heap)(i:Nat):Int:=h.bY.getD i 0
def ma(h:Heap)(s:ap×ap)(L:List aC)(a:List Block):Heap:=⟨[s.1,s.2],h.bY,h.bl,L,a⟩
def dc(h:Heap)(a o t:Int):List Block:=aP h.Live (bB h.Live a) ⟨a,o,t⟩
inductive cj(h:Heap)(cpu o fl:Int):Heap×Int×Int->Prop
 | bad (hb:gd h=false):cj h cpu o fl (.zero,0,8)
 | range (hb:gd h=true) (hr:¬((0<=cpu∧cpu<h.bl)∧0<=o∧o<=4)):cj h cpu o fl (.zero,0,1)
 | form (hb:gd h=true) (hr:(0<=cpu∧cpu<h.bl)∧0<=o∧o<=4) (ht:fD fl<0):cj h cpu o fl (.zero,0,3)
 | once {z0 z1:ap} {r:(ap×ap)×List aC×Int} (hb:gd h=true) (hr:(0<=cpu∧cpu<h.bl)∧0<=o∧o<=4) (ht:0<=fD fl) (hz:h.aK=[z0,z1]) (ha:iZ (cQ h 0) (cQ h 1) cpu o (fD fl) fl (z0,z1) h.ak (some r)):
    cj h cpu o fl (ma h r.1 r.2.1 (dc h r.2.2 o (fD fl)),r.2.2,0)
 | kA {z0 z1:ap} {r:(ap×ap)×List aC×Int} (hb:gd h=true) (hr:(0<=cpu∧cpu<h.bl)∧0<=o∧o<=4) (ht:0<=fD fl) (hz:h.aK=[z0,z1]) (ha:iZ (cQ h 0) (cQ h 1) cpu o (fD fl) fl (z0,z1) h.ak none)
    (h2:iZ (cQ h 0) (cQ h 1) cpu o (fD fl) fl (bp (z0,z1) (aM h.ak)) [] (some r)):cj h cpu o fl (ma h r.1 r.2.1 (dc h r.2.2 o (fD fl)),r.2.2,0)
 | room {z0 z1:ap} (hb:gd h=true) (hr:(0<=cpu∧cpu<h.bl)∧0<=o∧o<=4) (ht:0<=fD fl) (hz:h.aK=[z0,z1]) (ha:iZ (cQ h 0) (cQ h 1) cpu o (fD fl) fl (z0,z1) h.ak none)
    (h2:iZ (cQ h 0) (cQ h 1) cpu o (fD fl) fl (bp (z0,z1) (aM h.ak)) [] none):cj h cpu o fl (.zero,0,6)
theorem cj.c7{h:Heap}{u v:Heap×Int×Int}(a:cj h cpu o fl u)(b:cj h cpu o fl v):u=v:=by
 cases a with
 | bad hb=>cases b<;>grind
 | range hb l=>cases b<;>grind
 | form hb l n=>cases b<;>grind
 | once hb l n f g=>cases b with
   | bad i=>grind
   | range _ j=>omega
   | form _ _ k=>omega
   | once _ _ _ c d=>rw[f]at c;simp only[List.cons.injEq,and_true]at c;obtain⟨rfl,rfl⟩:=c;cases g.c7 d;rfl
   | kA _ _ _ c d|room _ _ _ c d=>rw[f]at c;simp only[List.cons.injEq,and_true]at c;obtain⟨rfl,rfl⟩:=c;cases g.c7 d
 | kA hb l n f g m=>cases b with
   | bad i=>grind
   | range _ j=>omega
   | form _ _ k=>omega
   | once _ _ _ c d=>rw[f]at c;simp only[List.cons.injEq,and_true]at c;obtain⟨rfl,rfl⟩:=c;cases g.c7 d
   | kA _ _ _ c d e=>rw[f]at c;simp only[List.cons.injEq,and_true]at c;obtain⟨rfl,rfl⟩:=c;cases m.c7 e;rfl
   | room _ _ _ c d e=>rw[f]at c;simp only[List.cons.injEq,and_true]at c;obtain⟨rfl,rfl⟩:=c;cases m.c7 e
 | room hb l n f g m=>cases b with
   | bad i=>grind
   | range _ j=>omega
   | form _ _ k=>omega
   | once _ _ _ c d=>rw[f]at c;simp only[List.cons.injEq,and_true]at c;obtain⟨rfl,rfl⟩:=c;cases g.c7 d
   | kA _ _ _ c d e=>rw[f]at c;simp only[List.cons.injEq,and_true]at c;obtain⟨rfl,rfl⟩:=c;cases m.c7 e
   | room=>rfl
structure VS(s:ap×ap):Prop where
 kD:bV s.1
 j8:bV s.2
 nF:s.1.aE=0
 AT:s.1.To=s.2.aE
 G1:s.2.To=256
theorem VS.rU{s:ap×ap}(h:VS s)(a:Int):bV (rU s a):=by unfold Go.Proofs.YtdlfabkacdgneaaGreatDoor.rU;split;exact h.kD;exact h.j8
theorem VS.pK{s:ap×ap}(h:VS s)(d:Mu (Go.Proofs.YtdlfabkacdgneaaGreatDoor.rU s zi) z'):VS (l9 s zi z'):=by
 obtain⟨c,a,b⟩:=d;unfold Go.Proofs.YtdlfabkacdgneaaGreatDoor.rU at a b;unfold l9;split
 ·rename_i e;rw[if_pos e]at a b;exact⟨c,h.j8,by rw[a];exact h.nF,by rw[b];exact h.AT,h.G1⟩
 rename_i e;rw[if_neg e]at a b;exact⟨h.kD,c,h.nF,by rw[a];exact h.AT,by rw[b];exact h.G1⟩
theorem gi.vs{t:Int}{s:ap×ap}{l:List Int}{r:(ap×ap)×List Int}(h:gi m0 m1 zi t fl s l r):VS s->VS r.1∧r.2.length<=3:=by
 induction h with
 | full h=>grind
 | nW h a=>grind
 | none h=>grind
 | more h a b c e d=>exact λk=>d (k.pK (b.j7 c).1)
theorem oy.vs{s:ap×ap}(h:oy s bs):VS s:=⟨h.kD,h.j8,h.nF,h.AT,h.G1⟩
def xU(s:ap×ap)(L:List aC)(a:Int):Prop:=(∃x∈s.1.ai,x.At=a)∨(∃x∈s.2.ai,x.At=a)∨∃l∈L,a∈l.aq
theorem iY.found{t:Int}{s:ap×ap}(h:iY m0 m1 cpu zi o t fl s L (some r))(d:VS s):VS r.1∧xU s L r.2.2:=by
 have f:∀{u:ap×Int×Int},gq (rU s zi) o t u->u.2.2=0->VS (l9 s zi u.1)∧xU s L u.2.1:=λ{u}a b=>by
  obtain⟨j,⟨x,c,e⟩,_⟩:=a.j7 b;refine⟨d.pK j,?_⟩;unfold rU at c;split at c
  ·exact .inl ⟨x,c,e⟩
  exact .inr (.inl ⟨x,c,e⟩)
 cases h with
 | list g i m=>
   refine⟨d,.inr (.inr ?_)⟩;obtain⟨n,_⟩:=fK i
   grind[List.getElem_mem,fk,bZ,aW,List.getLast_mem]
 | tz g k a b=>grind
 | fill g i k a b l=>exact⟨(l.vs (f a b).1).1,(f a b).2⟩
theorem iZ.found{t:Int}{s:ap×ap}(h:iZ m0 m1 cpu o t fl s L (some r))(a:VS s):VS r.1∧xU s L r.2.2:=by
 cases h with
 | tf _ h=>exact h.found a
 | low _ h=>exact h.found a
variable {Nw:List cV} {args:List Value} {R':Value->World->Prop} {w1 wb:World}
theorem jX.mono{f:FuncId}{R:Value->World->Prop}(h:jX P f args w R)(b:∀v a,R v a->R' v a):jX P f args w R':=
 ⟨Calls.mono h.out λe a⟨v,c,d⟩=>⟨v,c,b v a d⟩⟩
structure HK where
 b:Nat
 g:Nat
 c:Nat
 m:jC
 lv:jC
 cp:Int
 M:List Int
 V:List Block
structure HP where
 u0:cM
 u1:cM
 li:jC
 ls:List cV
abbrev HK.h(k:HK)(p:HP):fB:=⟨⟨some ⟨k.g,0,none⟩,2,k.c⟩,k.m,k.cp,p.li,k.lv⟩
structure HS(wb w:World)(k:HK)(p:HP)(s:ap×ap)(L:List aC):Prop where
 dm:ay w k.b 34 (bg (k.h p))
 zs:dM w wb.heap.size k.g k.c p.u0 p.u1 s
 cx:Own w wb.heap.size 3 1 aT k.m.A k.m.n k.m.c k.M
 live:Own w wb.heap.size 129 3 aL k.lv.A k.lv.n k.lv.c k.V
 ls:dw w wb.heap.size p.li p.ls L
 sm:tc k.m [p.u0,p.u1] p.ls
 sf:vH k.lv [p.u0,p.u1]
 KG:wb.heap.size<=k.b
 base:Ext wb w
def ka(k:HK)(p:HP)(i:Nat):Prop:=i=k.b∨i=k.g∨ob p.li=some i∨∃y∈p.ls,ob y.aq=some i
section
variable {w w' w0 w1 w2 wb:World}{i t:Nat}{k:HK}{p p' p0 p1 p2:HP}{s:ap×ap}{L:List aC}{cs:List Value}{row:Option Nat}
theorem HS.ext(h:HS wb w k p s L)(a:Ext w w'):HS wb w' k p s L:=⟨h.dm.ext a,h.zs.ext a,h.cx.ext a,h.live.ext a,h.ls.ext a,h.sm,h.sf,h.KG,h.base.trans a⟩
theorem HS.D5(h:HS wb w k p s L){y:cV}(c:y∈p.ls):∃l∈L,mP w wb.heap.size y l:=by
 obtain⟨j,b,rfl⟩:=Pg c;have a:j<L.length:=by rw[<-h.ls.each.len];exact b
 exact⟨_,Pf a,h.ls.each.get j b a⟩
theorem HS.lt(h:HS wb w k p s L)(a:ka k p i):i<w.heap.size:=by
 rcases a with rfl|rfl|a|⟨y,b,a⟩
 ·exact h.dm.lt
 ·exact h.zs.row.lt_size _ h.zs.own
 ·exact h.ls.row.lt_size i a
 obtain⟨l,_,c⟩:=h.D5 b;exact c.bt.lt_size i a
theorem HS.not(h:HS wb w k p s L)(b:w.heap.size<=i):¬ka k p i:=λa=>by have:=h.lt a;omega
theorem HS.low(h:HS wb w k p s L):wb.heap.size<=w.heap.size:=PR (QV h.KG h.dm.lt)
structure nX(w0:World)(k:HK)(p0:HP)(w:World)(p:HP):Prop where
 os:w.os=w0.os
 tape:w.tape=w0.tape
 output:w.output=w0.output
 size:w0.heap.size<=w.heap.size
 block:∀i,i<w0.heap.size->¬ka k p0 i->w.heap[i]?=w0.heap[i]?
 IL:∀i,ka k p i->ka k p0 i∨w0.heap.size<=i
theorem nX.refl(w:World)(k:HK)(p:HP):nX w k p w p:=⟨Z,Z,Z,Ph _,λ_ _ _=>Z,λ_ h=> .inl h⟩
theorem nX.step(h:nX w0 k p0 w p)(a:w.grownBy w' row)(c:∀i,row=some i->ka k p i∨w0.heap.size<=i)(d:∀i,ka k p' i->ka k p i∨w0.heap.size<=i):nX w0 k p0 w' p':=
 ⟨a.os.trans h.os,a.tape.trans h.tape,a.output.trans h.output,Pj h.size a.size,λi b f=>by
  rw[a.block i (P1 b h.size) (λe=>by
   rcases c i e.symm with e|e
   ·rcases h.IL i e with e|e<;>grind
   omega)]
  exact h.block i b f,λi b=>by
  rcases d i b with e|e
  ·exact h.IL i e
  omega⟩
theorem nX.ext(h:nX w0 k p0 w p)(a:Ext w w'):nX w0 k p0 w' p:=h.step (a.gr none) (λi e=>by cases e) (λi e=> .inl e)
theorem nX.trans(h:nX w0 k p0 w1 p1)(h':nX w1 k p1 w2 p2):nX w0 k p0 w2 p2:=
 ⟨h'.os.trans h.os,h'.tape.trans h.tape,h'.output.trans h.output,Pj h.size h'.size,λi a b=>by
  rw[h'.block i (P1 a h.size) (λe=>by rcases h.IL i e with e|e<;>grind)];exact h.block i a b,λi a=>by
  rcases h'.IL i a with e|e
  ·exact h.IL i e
  exact .inr (Pj h.size e)⟩
theorem nX.dm(h:nX w0 k p0 w p)(a:ay w0 i t cs)(b:¬ka k p0 i):ay w i t cs:=(h.block i a.lt b).trans a
theorem nX.not(h:nX w0 k p0 w p)(a:¬ka k p0 i)(b:i<w0.heap.size):¬ka k p i:=λe=>by rcases h.IL i e with e|e<;>grind
end
def nf(p:HP)(a:Nat)(u:cM):HP:=if a=0 then⟨u,p.u1,p.li,p.ls⟩else⟨p.u0,u,p.li,p.ls⟩
theorem mq{p:HP}{a:Nat}{u:cM}:(nf p a u).li=p.li∧(nf p a u).ls=p.ls:=by unfold nf<;>grind
theorem uN{k:HK}{p:HP}{a:Nat}{u:cM}:ka k (nf p a u) i↔ka k p i:=by grind[ka,mq]
theorem HS.IM{k:HK}{p:HP}{s:ap×ap}{c:Nat}{u:cM}(n:HS wb w0 k p s L)(h:HS wb w k p s L)(G:c<2)
 (B:Own w' wb.heap.size 98 4 bu (some ⟨k.g,0,none⟩) 2 k.c ([p.u0,p.u1].set c u)) (C:w.grownBy w' (some k.g)) (o:fv w w0.heap.size u z):HS wb w' k (nf p c u) (l9 s (c:Int) z) L:=by
 have a:=h.zs.gr C;have D:Ext wb w':=h.base.own h.zs.xD C;have d:=(o.low n.low).aQ a Z;have E:∀g,aN u.Types.A u.Types.c=some g->w0.heap.size<=g:=λg e=>o.types.az g e;have q:∀g,aN u.ai.A u.ai.c=some g->w0.heap.size<=g:=λg e=>o.free.az g e;have r:∀(j:Nat)(f:j<p.ls.length)(g:Nat),aN p.ls[j].aq.A p.ls[j].aq.c=some g->g<w0.heap.size:=λj f g e=>n.lt (.inr (.inr (.inr ⟨_,Pf f,e⟩)))
 have i:∀b:List cM,(∀v∈b,v∈[p.u0,p.u1]∨v=u)->tc k.m b p.ls:=λb t=>⟨h.sm.cx,λj f g e v x=>by
  rcases t v x with y|rfl
  ·exact h.sm.types j f g e v y
  intro l;have:=E g l;have:=r j f g e;omega,h.sm.sep⟩
 have m:∀b:List cM,(∀v∈b,v∈[p.u0,p.u1]∨v=u)->vH k.lv b:=λb t v x g e=>by
  rcases t v x with y|rfl
  ·exact h.sf v y g e
  intro l;have:=q g e;have:=n.live.lt_size g l;omega
 unfold nf l9;by_cases A:c=0
 ·subst A;simp only[if_true,Int.ofNat_eq_natCast,Int.natCast_zero]at*;exact⟨h.dm.aQ a Z,⟨B,d,h.zs.z1.aQ a Z,h.zs.xD,h.zs.pos⟩,h.cx.aQ a Z,h.live.aQ a Z,h.ls.aQ a Z,i _ fy,m _ fy,h.KG,D⟩
 obtain rfl:c=1:=Y;have F:¬((1:Nat)=0):=Y;have l:¬(((1:Nat):Int)=0):=Y;simp only[if_neg F,if_neg l]at*;exact⟨h.dm.aQ a Z,⟨B,h.zs.z0.aQ a Z,d,h.zs.xD,h.zs.pos⟩,h.cx.aQ a Z,h.live.aQ a Z,h.ls.aQ a Z,i _ fy,m _ fy,h.KG,D⟩
theorem dw.Ga{a:List cV}(h:dw w lo li a L)(b:w.grownBy w' (ob li)):oe w w' 100:=h.row.gr b
theorem Hh{m:jC}{f:List cM}{k:List cV}(h:tc m f k)(n:FC Nw)(l:∀y∈Nw,∃x∈k,ob y.aq=ob x.aq):tc m f Nw:=by
 refine⟨λj a g e=>?_,λj a g e v o=>?_,n⟩
 ·obtain⟨x,b,c⟩:=l _ (Pf a);obtain⟨i,d,rfl⟩:=Pg b;exact h.cx i d g (c.symm.trans e)
 obtain⟨x,b,c⟩:=l _ (Pf a);obtain⟨i,d,rfl⟩:=Pg b;exact h.types i d g (c.symm.trans e) v o
theorem HS.setRow{k:HK}{p:HP}{s:ap×ap}{y:cV}{l:aC}(h:HS wb w k p s L)(d:i<p.ls.length)(o:Own w' wb.heap.size 100 4 fj p.li.A p.li.n p.li.c (p.ls.set i y))(f:w.grownBy w' (ob p.li))(q:mP w wb.heap.size y l)
 (m:ob y.aq=ob p.ls[i].aq):HS wb w' k ⟨p.u0,p.u1,p.li,p.ls.set i y⟩ s (L.set i l):=by
 have a:=h.ls.Ga f;have b:Ext wb w':=au h.base f (Ph _) h.ls.row.az
 have r:∀z∈p.ls.set i y,∃x∈p.ls,ob z.aq=ob x.aq:=λz t=>by
  rcases Pu t with n|rfl
  ·exact⟨z,n,Z⟩
  exact⟨_,Pf d,m⟩
 have c:∀x∈p.ls,∀g,ob x.aq=some g->g<w.heap.size:=λx b g e=>h.lt (.inr (.inr (.inr ⟨x,b,e⟩)));refine⟨h.dm.aQ a Z,h.zs.aQ a Z,h.cx.aQ a Z,h.live.aQ a Z,⟨o,?_⟩,Hh h.sm (AW.pK (li:=p.li) h.sm.sep c d (λg e=> .inl (m▸e))).sep r,h.sf,h.KG,b⟩;exact dR.setAt (R:=mP w wb.heap.size) h.ls.each (q.aQ a Z) (λj n v _ u=>u.aQ a Z)
theorem dR.erase{R:α->β->Prop}{xs:List α}(h:dR R xs ys)(i:Nat):dR R (xs.eraseIdx i) (ys.eraseIdx i):=by
 refine⟨by rw[P7,P7,h.len],λj a b=>?_⟩;have c:=h.len;rw[P7]at a b;rw[Qf,Qf];split
 ·exact h.get j _ _
 exact h.get (j+1) _ _
theorem HS.M3{k:HK}{p:HP}{s:ap×ap}(h:HS wb w k p s L)(e:Own w1 wb.heap.size 100 4 fj p.li.A (p.li.n-1) p.li.c (p.ls.eraseIdx i))(d:w.grownBy w1 (ob p.li))
 (hb:ay w' k.b 34 (bg (k.h ⟨p.u0,p.u1,⟨p.li.A,p.li.n-1,p.li.c⟩,p.ls.eraseIdx i⟩))) (b:w1.grownBy w' (some k.b)):HS wb w' k ⟨p.u0,p.u1,⟨p.li.A,p.li.n-1,p.li.c⟩,p.ls.eraseIdx i⟩ s (L.eraseIdx i):=by
 have c:=h.ls.Ga d;have a:=(h.dm.aQ c Z).gr b;have f:Ext wb w':=(au h.base d (Ph _) h.ls.row.az).own h.KG b;refine⟨hb,(h.zs.aQ c Z).aQ a Z,(h.cx.aQ c Z).aQ a Z,(h.live.aQ c Z).aQ a Z,⟨e.aQ a Z,(h.ls.each.erase i).mono λ_ _ g=>(g.aQ c Z).aQ a Z⟩,Hh h.sm ?_ (λy j=>⟨y,PH j,Z⟩),h.sf,h.KG,f⟩;exact tu.2 ((tu.1 h.sm.sep).sublist (Qh _ _))
theorem IN(k:HK)(p:HP)(s:ap×ap)(L:List aC)(x:aC)(y:cV)(a:Int)(A t:World)(H:HS A t k p s L)(hk:us y x)(I:y.aq= .nil)(J:x.aq=[])
 (hs:uk L) (hn:(p.li.n+1)*48<=140737488355328) (K:∀l∈L,l.aq.length<=1000):
 jX prog 159 [.pointer (some ⟨k.b,0,none⟩),.agg (fj y).toArray,Iv a] t λv M=>∃p',HS A M k p' s (fZ L ⟨x.ep,x.ap,x.Ty,bZ L x++[a]⟩)∧nX t k p M p':=by
 obtain⟨F,G⟩:∃F:World->Prop,F=λv=>dM v A.heap.size k.g k.c p.u0 p.u1 s∧Own v A.heap.size 3 1 aT k.m.A k.m.n k.m.c k.M∧Own v A.heap.size 129 3 aL k.lv.A k.lv.n k.lv.c k.V∧nX t k p v p:=⟨_,Z⟩;have m:=H.zs;have N:=H.cx;have O:=H.live;have n:=H.ls;have hb:=H.dm
 have P:LP F t:=by
  rw[G];exact⟨⟨m,N,O,nX.refl _ _ _⟩,λv u B b=>⟨b.1.ext B,b.2.1.ext B,b.2.2.1.ext B,b.2.2.2.ext B⟩⟩
 have Q:∀(v u:World)(row:Option Nat),v.grownBy u row->(∀i,row=some i->i=k.b∨aN p.li.A p.li.c=some i∨t.heap.size<=i)->F v->F u:=λv u row o c b=>by
  rw[G]at b⊢;refine⟨b.1.parts o ((m.row.tr n hb Z Z).ne c) ((m.z0.free.tr n hb Z Z).ne c) ((m.z0.types.tr n hb Z Z).ne c) ((m.z1.free.tr n hb Z Z).ne c) ((m.z1.types.tr n hb Z Z).ne c),b.2.1.apart o ((N.tr n hb Z Z).ne c),b.2.2.1.apart o ((O.tr n hb Z Z).ne c),b.2.2.2.step o (λi e=>?_) (λi e=> .inl e)⟩;rcases c i e with h|h|h
  ·exact .inl (.inl h)
  ·exact .inl (.inr (.inr (.inl h)))
  exact .inr h
 have R:∀(i:Nat)(d:i<p.ls.length)(v u:World),v.grownBy u (aN p.ls[i].aq.A p.ls[i].aq.c)->F v->F u:=λi d v u o b=>by
  rw[G]at b⊢;have q:=(n.each.get i d (by rw[<-n.each.len];exact d)).bt;exact⟨b.1.parts o (m.row.nI q Z) (m.z0.free.nI q Z) (λj e f=>H.sm.types i d j f p.u0 fy e) (m.z1.free.nI q Z) (λj e f=>H.sm.types i d j f p.u1 fy e),b.2.1.apart o (λj e f=>H.sm.cx i d j f e),b.2.2.1.apart o (O.nI q Z),b.2.2.2.step o (λj e=> .inl (.inr (.inr (.inr ⟨_,Pf d,e⟩)))) (λi e=> .inl e)⟩
 refine(Ec ⟨some ⟨k.g,0,none⟩,2,k.c⟩ k.m k.cp p.li k.lv L p.ls x y a F k.b A t H.base H.KG hb n hk I J H.sm.sep hs hn K P Q R).mono λv M D=>?_;obtain⟨B,E,S,r,T,U,b⟩:=D;rw[G]at E;obtain⟨V,W,X,hK⟩:=E
 have w:∀j(C:j<r.length)(g:Nat),aN r[j].aq.A r[j].aq.c=some g->(∃i,∃d:i<p.ls.length,aN p.ls[i].aq.A p.ls[i].aq.c=some g)∨t.heap.size<=g:=λj C g e=>by
  rcases b.of _ (Pf C) g e with⟨z,hz,f⟩|h
  ·obtain⟨i,d,rfl⟩:=Pg hz;exact .inl ⟨i,d,f⟩
  exact .inr h
 refine⟨⟨p.u0,p.u1,S,r⟩,⟨T,V,W,X,U,⟨λj C g e=>?_,λj C g e v D=>?_,b.sep⟩,H.sf,H.KG,B⟩,hK.step (World.grownBy.refl _ none) (λi e=>by cases e) (λi d=>?_)⟩
 ·rcases w j C g e with⟨i,d,f⟩|h
  ·exact H.sm.cx i d g f
  intro f;have:=N.lt_size g f;omega
 ·rcases w j C g e with⟨i,d,f⟩|h
  ·exact H.sm.types i d g f v D
  intro f;simp only[List.mem_cons,List.not_mem_nil,or_false]at D;rcases D with rfl|rfl
  ·have:=m.z0.types.lt_size g f;omega
  have:=m.z1.types.lt_size g f;omega
 rcases d with h|h|h|⟨z,hz,h⟩
 ·exact .inl (.inl h)
 ·exact .inl (.inr (.inl h))
 ·exact(b.row i h).imp (λe=> .inr (.inr (.inl e))) id
 exact(b.of z hz i h).imp (λe=> .inr (.inr (.inr e))) id
variable {l':List Slab} {j:Nat}
theorem mE{a b:jC}(h:apart a b∨apart b a):aN b.A b.c=none∨aN b.A b.c≠aN a.A a.c:=by
 cases e:aN b.A b.c with
 | none=>grind
 | some g=>
   right;intro c;rcases h with h|h
   ·exact h g c.symm e
   exact h g e c.symm
structure gh(w:World)(lo hi:Nat)(r:fB)(h:Heap):Prop where
 cpus:r.bl=h.bl
 cx:Own w lo 3 1 aT r.bY.A r.bY.n r.bY.c h.bY
 live:Own w lo 129 3 aL r.Live.A r.Live.n r.Live.c h.Live
 parts:∃zs ls,jM w lo r.aK zs h.aK∧dw w lo r.ak ls h.ak∧(∀g,aN r.bY.A r.bY.c=some g->g<hi)∧(∀u∈zs,∀g,aN u.Types.A u.Types.c=some g->g<hi)∧(∀u∈ls,∀g,aN u.aq.A u.aq.c=some g->g<hi)
section
variable {w w':World}{lo hi t g:Nat}{r:fB}{h:Heap}
theorem ik.kQ(a:ik w lo r h):gh w lo w.heap.size r h:=by
 obtain⟨i,c⟩:=a.bA;obtain⟨k,d⟩:=a.lists;refine⟨a.cpus,a.cx,a.live,i,k,c,d,a.cx.lt_size,λu f g e=>?_,λu f g e=>?_⟩
 ·obtain⟨j,b,rfl⟩:=Pg f;exact(c.each.get j b (by rw[<-c.each.len];exact b)).types.lt_size g e
 obtain⟨j,b,rfl⟩:=Pg f;exact(d.each.get j b (by rw[<-d.each.len];exact b)).bt.lt_size g e
theorem gh.own(a:gh w lo hi r h):ik w lo r h:=by
 obtain⟨b,c,d,e,_⟩:=a.parts;exact⟨a.cpus,a.cx,a.live,⟨b,d⟩,⟨c,e⟩⟩
theorem gh.ext(a:gh w lo hi r h)(b:Ext w w'):gh w' lo hi r h:=by
 obtain⟨c,d,e,f,hb⟩:=a.parts;exact⟨a.cpus,a.cx.ext b,a.live.ext b,c,d,e.ext b,f.ext b,hb⟩
theorem gh.aQ(a:gh w lo hi r h)(c:oe w w' t)(b:(Nat.beq t 3||(Nat.beq t 129||(Nat.beq t 98||Nat.beq t 100)))=false):gh w' lo hi r h:=by
 obtain⟨f,g,i,j,hb⟩:=a.parts;simp only[Bool.or_eq_false_iff]at b;obtain⟨d,e,k,l⟩:=b;exact⟨a.cpus,a.cx.aQ c d,a.live.aQ c e,f,g,i.aQ c (by simp[d,e,k]),j.aQ c (by simp[d,l]),hb⟩
theorem gh.xR(a:gh w lo hi r h)(l:w.grownBy w' (some g))(f:oe w w' 3)(hb:g<lo∨hi<=g):gh w' lo hi r h:=by
 obtain⟨s,t,m,n,o,p,q⟩:=a.parts;have c:∀k,lo<=k->k<hi->(some g:Option Nat)≠some k:=λk d i e=>by cases e;omega
 refine⟨a.cpus,a.cx.apart l λk e=>c k (a.cx.az k e) (o k e),a.live.aQ f Z,s,t,⟨m.row.aQ f Z,⟨m.each.len,λj d i=>?_⟩⟩,⟨n.row.aQ f Z,⟨n.each.len,λj d i=>?_⟩⟩,o,p,q⟩
 ·have b:=m.each.get j d i;exact⟨b.from_,b.kW,b.free.aQ f Z,b.types.apart l λk e=>c k (b.types.az k e) (p _ (Pf d) k e)⟩
 have b:=n.each.get j d i;exact⟨b.cpu,b.fX,b.ty,b.bt.apart l λk e=>c k (b.bt.az k e) (q _ (Pf d) k e)⟩
end
theorem Own.up{n c:Nat}{l:List α}(h:Own w lo e sz enc A n c l)(b:∀k,aN A c=some k->nn<=k):Own w nn e sz enc A n c l:=⟨h.len,by
 rcases h.row with i|⟨d,g,a,rfl,_,f⟩
 ·omega
 exact .inr ⟨d,g,a,Z,b g (by grind[aN,Nat.pos_iff_ne_zero]),f⟩⟩
structure nM(w:World)(lo:Nat)(r:cc)(s:aj)(Hc cs:List da):Prop where
 words:Own w lo 3 1 aT r.Words.A r.Words.n r.Words.c s.Words
 heap:ik w lo r.Heap s.Heap
 row:Own w lo 58 6 cr r.ab.A r.ab.n r.ab.c Hc
 each:dR (lf w lo) cs s.ab
 pair:cs.Pairwise kr
abbrev SX(w:World)(lo:Nat)(r:cc)(s:aj)(cs:List da):Prop:=nM w lo r s cs cs
structure SI(w:World)(lo:Nat)(r:cc)(s:aj)(cs:List da):Prop where
 ints:∃m1 m2,lo<=m1∧m1<=m2∧(∀g,aN r.Words.A r.Words.c=some g->g<m1)∧gh w m1 m2 r.Heap s.Heap∧dR (lf w m2) cs s.ab
theorem tA{cs:List da}(h:cs.Pairwise kr){u:da}(a:∀(j:Nat)(b:j<cs.length),j≠i->kr u cs[j]∧kr cs[j] u):(cs.set i u).Pairwise kr:=by
 rw[Pq]at h⊢;grind
theorem dX{a b:jC}(h:apart a b):apart b a:=λk c d=>h k d c
theorem kr.symm{u v:da}(h:kr u v):kr v u:=⟨dX h.names,dX h.av,dX h.aD⟩
theorem j9{cs:List da}(h:cs.Pairwise kr)(a:i<cs.length)(b:j<cs.length)(c:j≠i):kr cs[i] cs[j]:=by
 have d:=Pq.1 h;rcases PJ i j with g|g
 ·grind
 exact(d j i b a Y).symm
section
variable {w w':World}{lo t:Nat}{r:cc}{s:aj}{Hc cs:List da}
theorem nM.ext(h:nM w lo r s Hc cs)(a:Ext w w'):nM w' lo r s Hc cs:=⟨h.words.ext a,h.heap.ext a,h.row.ext a,h.each.mono λ_ _ h=>h.ext a,h.pair⟩
theorem nM.low(h:nM w lo r s Hc cs)(a:nn<=lo):nM w nn r s Hc cs:=⟨h.words.low a,h.heap.low a,h.row.low a,h.each.mono λ_ _ h=>h.low a,h.pair⟩
theorem nM.aQ(h:nM w lo r s Hc cs)(b:oe w w' t)(a:(Nat.beq t 58||(Nat.beq t 9||(Nat.beq t 60||(Nat.beq t 3||(Nat.beq t 129||(Nat.beq t 98||Nat.beq t 100))))))=false):nM w' lo r s Hc cs:=by
 simp only[Bool.or_eq_false_iff]at a;obtain⟨d,e,f,c,g,i,j⟩:=a;exact⟨h.words.aQ b c,h.heap.aQ b (by simp[c,g,i,j]),h.row.aQ b d,h.each.mono λ_ _ h=>h.aQ b (by simp[e,f,c]),h.pair⟩
theorem nM.len(h:SX w lo r s cs):cs.length=r.ab.n∧s.ab.length=r.ab.n:=⟨h.row.len,by rw[<-h.each.len,h.row.len]⟩
theorem nM.nb(h:SX w lo r s cs):gK w lo r s:=⟨h.words,h.heap,⟨cs,h.row,h.each⟩⟩
theorem SI.ext(h:SI w lo r s cs)(a:Ext w w'):SI w' lo r s cs:=by
 obtain⟨m1,b,c,d,e,f,g⟩:=h.ints;exact⟨m1,b,c,d,e,f.ext a,g.mono λ_ _ h=>h.ext a⟩
theorem SI.low(h:SI w lo r s cs)(a:nn<=lo):SI w nn r s cs:=by
 obtain⟨m1,b,c,d,e,f,g⟩:=h.ints;exact⟨m1,b,Pj a c,d,e,f,g⟩
theorem SI.aQ(h:SI w lo r s cs)(b:oe w w' t)(a:(Nat.beq t 9||(Nat.beq t 60||(Nat.beq t 3||(Nat.beq t 129||(Nat.beq t 98||Nat.beq t 100)))))=false):SI w' lo r s cs:=by
 simp only[Bool.or_eq_false_iff]at a;obtain⟨d,e,c,f,g,i⟩:=a;obtain⟨m1,j,k,l,m,n,o⟩:=h.ints;exact⟨m1,j,k,l,m,n.aQ b (by simp[c,f,g,i]),o.mono λ_ _ h=>h.aQ b (by simp[d,e,c])⟩
theorem nM.av(h:SX w lo r s cs)(f:i<cs.length)(g:i<s.ab.length)(l:Own w' lo 60 3 bG cs[i].ae.A n' cs[i].ae.c l')(k:w.grownBy w' (aN cs[i].ae.A cs[i].ae.c)):
 nM w' lo r ⟨s.Words,s.Heap,s.ab.set i ⟨s.ab[i].Names,s.ab[i].ax,s.ab[i].bd,s.ab[i].Order,l',s.ab[i].ao⟩⟩ cs (cs.set i ⟨cs[i].Names,cs[i].ax,cs[i].bd,cs[i].Order,⟨cs[i].ae.A,n',cs[i].ae.c⟩,cs[i].ao⟩):=by
 have c:=h.each.get i f g;have a:=c.av.gr k;refine⟨h.words.aQ a Z,h.heap.aQ a Z,h.row.aQ a Z,?_,?_⟩
 ·exact dR.setAt h.each ⟨c.size,c.per,c.order,c.names.aQ a Z,l,c.aD.aQ a Z⟩ λj m o b d=>⟨d.size,d.per,d.order,d.names.aQ a Z,d.av.grown k (mE (.inl (j9 h.pair f m b).av)),d.aD.aQ a Z⟩
 refine tA h.pair λj n b=>?_;have e:=j9 h.pair f n b;exact⟨⟨e.names,e.av,e.aD⟩,⟨dX e.names,dX e.av,dX e.aD⟩⟩
theorem nM.names{k:List ByteArray}(h:SX w lo r s cs)(f:i<cs.length)(g:i<s.ab.length)(m:Own w' lo 9 1 encStr cs[i].Names.A n' cs[i].Names.c k)(l:w.grownBy w' (aN cs[i].Names.A cs[i].Names.c)):
 nM w' lo r ⟨s.Words,s.Heap,s.ab.set i ⟨k,s.ab[i].ax,s.ab[i].bd,s.ab[i].Order,s.ab[i].ae,s.ab[i].ao⟩⟩ cs (cs.set i ⟨⟨cs[i].Names.A,n',cs[i].Names.c⟩,cs[i].ax,cs[i].bd,cs[i].Order,cs[i].ae,cs[i].ao⟩):=by
 have c:=h.each.get i f g;have a:=c.names.gr l;refine⟨h.words.aQ a Z,h.heap.aQ a Z,h.row.aQ a Z,?_,?_⟩
 ·exact dR.setAt h.each ⟨c.size,c.per,c.order,m,c.av.aQ a Z,c.aD.aQ a Z⟩ λj n p b d=>⟨d.size,d.per,d.order,d.names.grown l (mE (.inl (j9 h.pair f n b).names)),d.av.aQ a Z,d.aD.aQ a Z⟩
 refine tA h.pair λj o b=>?_;have e:=j9 h.pair f o b;exact⟨⟨e.names,e.av,e.aD⟩,⟨dX e.names,dX e.av,dX e.aD⟩⟩
theorem nM.Kt{c':Nat}(h:SX w lo r s cs)(e:lo<=w.heap.size)(k:i<cs.length)(f:i<s.ab.length)(a:Ext w w')(l:Own w' w.heap.size 60 3 bG A' n' c' l'):
 nM w' lo r ⟨s.Words,s.Heap,s.ab.set i ⟨s.ab[i].Names,s.ab[i].ax,s.ab[i].bd,s.ab[i].Order,l',s.ab[i].ao⟩⟩ cs (cs.set i ⟨cs[i].Names,cs[i].ax,cs[i].bd,cs[i].Order,⟨A',n',c'⟩,cs[i].ao⟩):=by
 have b:=(h.each.get i k f).ext a;refine⟨h.words.ext a,h.heap.ext a,h.row.ext a,?_,?_⟩
 ·exact dR.setAt h.each ⟨b.size,b.per,b.order,b.names,l.low e,b.aD⟩ λj o p c n=>n.ext a
 refine tA h.pair λj g c=>?_;have d:=j9 h.pair k g c;have m:apart cs[j].ae ⟨A',n',c'⟩:=mD (h.each.get j g (by rw[<-h.each.len];exact g)).av l.az;exact⟨⟨d.names,dX m,d.aD⟩,⟨dX d.names,m,dX d.aD⟩⟩
theorem nM.sw{u:da}(h:nM w lo r s Hc (Hc.set i u))(b:Own w' lo 58 6 cr r.ab.A r.ab.n r.ab.c (Hc.set i u))(c:w.grownBy w' (aN r.ab.A r.ab.c)):SX w' lo r s (Hc.set i u):=by
 have a:=h.row.gr c;exact⟨h.words.aQ a Z,h.heap.aQ a Z,b,h.each.mono λ_ _ h=>h.aQ a Z,h.pair⟩
theorem nM.aD{n:List Int}(h:SX w lo r s cs)(G:SI w lo r s cs)(q:i<cs.length)(t:i<s.ab.length)(B:Own w' lo 3 1 aT cs[i].ao.A cs[i].ao.n cs[i].ao.c n)(f:w.grownBy w' (aN cs[i].ao.A cs[i].ao.c)):
 SX w' lo r ⟨s.Words,s.Heap,s.ab.set i ⟨s.ab[i].Names,s.ab[i].ax,s.ab[i].bd,s.ab[i].Order,s.ab[i].ae,n⟩⟩ cs∧SI w' lo r ⟨s.Words,s.Heap,s.ab.set i ⟨s.ab[i].Names,s.ab[i].ax,s.ab[i].bd,s.ab[i].Order,s.ab[i].ae,n⟩⟩ cs:=by
 obtain⟨m1,u,o,v,C,D,E⟩:=G.ints;have p:=h.each.get i q t;have a:=E.get i q t;have d:=p.aD.gr f;have l:=a.aD.az;have c:cs.set i cs[i]=cs:=Qg q
 have F:gh w' m1 u r.Heap s.Heap:=by
  cases e:aN cs[i].ao.A cs[i].ao.c with
  | none=>rw[e]at f;exact D.aQ (⟨none,f,λk H=>by cases H⟩:oe w w' 37) Z
  | some g=>rw[e]at f;exact D.xR f d (.inr (l g e))
 have z:Own w' lo 3 1 aT r.Words.A r.Words.n r.Words.c s.Words:=h.words.apart f λg e I=>by
  have:=C g e;have:=l g I;omega
 refine⟨⟨z,F.own.low o,h.row.aQ d Z,?_,h.pair⟩,⟨m1,u,o,v,C,F,?_⟩⟩
 ·have:=dR.setAt (x:=cs[i]) (R':=lf w' lo) h.each (i:=i) (y:=⟨s.ab[i].Names,s.ab[i].ax,s.ab[i].bd,s.ab[i].Order,s.ab[i].ae,n⟩) ⟨p.size,p.per,p.order,p.names.aQ d Z,p.av.aQ d Z,B⟩ λj o v m b=>⟨b.size,b.per,b.order,b.names.aQ d Z,b.av.aQ d Z,b.aD.grown f (mE (.inl (j9 h.pair q o m).aD))⟩;rwa[c]at this
 have A:Own w' u 3 1 aT cs[i].ao.A cs[i].ao.n cs[i].ao.c n:=B.up l;have:=dR.setAt (x:=cs[i]) (R':=lf w' u) E (i:=i) (y:=⟨s.ab[i].Names,s.ab[i].ax,s.ab[i].bd,s.ab[i].Order,s.ab[i].ae,n⟩) ⟨a.size,a.per,a.order,a.names.aQ d Z,a.av.aQ d Z,A⟩ λj o v m b=>⟨b.size,b.per,b.order,b.names.aQ d Z,b.av.aQ d Z,b.aD.grown f (mE (.inl (j9 h.pair q o m).aD))⟩;rwa[c]at this
theorem nM.Ev{f:List Int}(h:SX w lo r s cs)(n:SI w lo r s cs)(o:Own w' lo 3 1 aT r.Words.A r.Words.n r.Words.c f)(a:w.grownBy w' (aN r.Words.A r.Words.c)):SX w' lo r ⟨f,s.Heap,s.ab⟩ cs:=by
 obtain⟨m1,p,q,y,i,l,t⟩:=n.ints;have d:=h.words.gr a
 have u:gh w' m1 p r.Heap s.Heap:=by
  cases e:aN r.Words.A r.Words.c with
  | none=>rw[e]at a;exact l.aQ (⟨none,a,λk v=>by cases v⟩:oe w w' 37) Z
  | some g=>rw[e]at a;exact l.xR a d (.inl (i g e))
 refine⟨o,u.own.low q,h.row.aQ d Z,⟨h.each.len,λj m c=>?_⟩,h.pair⟩;have b:=h.each.get j m c
 exact⟨b.size,b.per,b.order,b.names.aQ d Z,b.av.aQ d Z,b.aD.apart a λg e x=>by
  have:=i g x;have:=(t.get j m c).aD.az g e;omega⟩
end
theorem lm(r:cc)(s:aj)(w:World)(hr:mB w r s)(hs:s.small):
 aS prog 10 [.agg (ar r).toArray] w λv D=>∃q zr,v= .agg (ar q).toArray∧SX D w.heap.size q s zr∧SI D w.heap.size q s zr:=by
 refine Wj func10 ntmps10 ?_;refine Ww λb1 w1 j zw l=>?_;refine SW.alloc Z λb2 w2 zo zl e=>?_;have zx:=j.up zl;have zy:b2≠b1:=by have:=l.lt;omega
 obtain⟨j,l⟩:=bk zo j l;obtain⟨cs,hc⟩:=hr.aV;have zz:=hr.words.len;have s1:=hs.words;have s3:=hs.aV;obtain⟨c1,c2⟩:=hc.len;refine Wz ?_
 obtain⟨K,hK⟩:∃K:Env->World->Prop,K=λL' D=>∃X c1 G J m1 B,eA L' [(1,Pt b1),(2,Pt b2),(3,Pt J)]∧Ext w D∧ay D b1 37 (ar r)∧ay D b2 37 (ar .zero)∧
  ay D J 37 (ar ⟨⟨X,r.Words.n,c1⟩,G,.nil⟩)∧Own D w.heap.size 3 1 aT X r.Words.n c1 s.Words∧gh D m1 B G s.Heap∧(w.heap.size<=m1∧m1<=B∧B<=D.heap.size∧∀g,aN X c1=some g->g<m1)∧w.heap.size<=J∧b1≠J∧b2≠J:=⟨_,Z⟩
 refine CW.cut K ?_ ?_
 ·focus
   refine CW.any 8 mixed (cy bm) Z λw1 za zm=>?_;obtain⟨j,l,e⟩:=aY za j l e;refine Wa ?_;refine Wu 4 zm Z (cv Z Z ((e7 l))) ?_;refine SA.two 2 7 Z Z bm Z Z ?_ ?_
   focus
    refine Wk (eD _ _ _ _ _ (hr.words.ext j) Y) λv V d W=>?_;obtain⟨X,c4,rfl,m⟩:=W;have m:=m.low j.size;obtain⟨j,l,e⟩:=aY d j l e;try have f:=f.ext d
    refine SW.nil (ah.sa d ?_);refine SA.two 5 7 Z Z bm Z Z ?_ ?_
    focus
     refine Wk (rm _ _ _ (hr.heap.ext j) hs.heap) λv V d W=>?_;obtain⟨G,rfl,n⟩:=W;have zb:∃m1 B,w.heap.size<=m1∧m1<=B∧B<=V.heap.size∧(∀g,aN X c4=some g->g<m1)∧gh V m1 B G s.Heap:=⟨_,_,j.size,d.size,Ph _,m.lt_size,n.kQ⟩;obtain⟨m1,B,F,y,H,zc,n⟩:=zb;obtain⟨m,j,l,e⟩:=cG d m j l e;try have f:=f.ext d
     refine SW.nil (ah.sa d ?_);refine Wa ?_;refine SA.bD 7 ?_;refine SW.alloc Z λJ V d O f=>?_;have P:=j.up O;try have H:=Pj H d.size
     have R:b1≠J:=by have:=l.lt;omega
     have S:b2≠J:=by have:=e.lt;omega
     obtain⟨j,l,e⟩:=aY d j l e;try have m:=m.ext d
     try have n:=n.ext d
     refine SW.nil (ah.sa d ?_)
    rotate_left
    focus
     refine SW.alloc Z λJ V d O f=>?_;have P:=j.up O;try have H:=Pj H d.size
     have R:b1≠J:=by have:=l.lt;omega
     have S:b2≠J:=by have:=e.lt;omega
     obtain⟨j,l,e⟩:=aY d j l e;try have m:=m.ext d
     try have n:=n.ext d
     refine SW.nil (ah.sa d ?_);refine SA.bD 5 ?_;refine Wk (rm _ _ _ (hr.heap.ext j) hs.heap) λv V d W=>?_;obtain⟨G,rfl,n⟩:=W;have zb:∃m1 B,w.heap.size<=m1∧m1<=B∧B<=V.heap.size∧(∀g,aN X c4=some g->g<m1)∧gh V m1 B G s.Heap:=⟨_,_,j.size,d.size,Ph _,m.lt_size,n.kQ⟩;obtain⟨m1,B,F,y,H,zc,n⟩:=zb;obtain⟨m,j,l,e⟩:=cG d m j l e;try have f:=f.ext d
     refine SW.nil (ah.sa d ?_);refine Wa ?_
    rotate_left
   rotate_left 2
   focus
    refine SW.alloc Z λJ V d O f=>?_;have P:=j.up O;try have H:=Pj H d.size
    have R:b1≠J:=by have:=l.lt;omega
    have S:b2≠J:=by have:=e.lt;omega
    obtain⟨j,l,e⟩:=aY d j l e;try have m:=m.ext d
    try have n:=n.ext d
    refine SW.nil (ah.sa d ?_);refine SA.bD 2 ?_;refine Wk (eD _ _ _ _ _ (hr.words.ext j) Y) λv V d W=>?_;obtain⟨X,c4,rfl,m⟩:=W;have m:=m.low j.size;obtain⟨j,l,e⟩:=aY d j l e;try have f:=f.ext d
    refine SW.nil (ah.sa d ?_);refine SA.bD 5 ?_;refine Wk (rm _ _ _ (hr.heap.ext j) hs.heap) λv V d W=>?_;obtain⟨G,rfl,n⟩:=W;have zb:∃m1 B,w.heap.size<=m1∧m1<=B∧B<=V.heap.size∧(∀g,aN X c4=some g->g<m1)∧gh V m1 B G s.Heap:=⟨_,_,j.size,d.size,Ph _,m.lt_size,n.kQ⟩;obtain⟨m1,B,F,y,H,zc,n⟩:=zb;obtain⟨m,j,l,e⟩:=cG d m j l e;try have f:=f.ext d
    refine SW.nil (ah.sa d ?_);refine Wa ?_
   rotate_left
   all_goals
    refine SA.fH ?_;skip;refine Wg f (aB ⟨⟨X,r.Words.n,c4⟩,G,.nil⟩) λw5 zi C=>?_;have hG:=f.gr C;have zd:=Pj H C.size;have j:=j.own P C;obtain⟨m,n⟩:=bk hG m n;have l:=l.grown C (by simpa using R);have e:=e.grown C (by simpa using S);refine Wz ?_;exact ah.cut (K:=K) (by rw[hK];exact⟨X,c4,G,J,m1,B,⟨Z,Z,Z,trivial⟩,j,l,e,zi,m,n,⟨F,y,zd,zc⟩,P,R,S⟩)
 subst hK;rintro L' D ⟨X,c4,G,J,m1,B,zh,j,l,e,f,m,n,⟨F,y,zd,zc⟩,P,R,S⟩;refine ah.sub zh ?_;refine Wz ?_
 refine CW.loop (λs:Nat×Option Addr×Nat×List da=>[(2,Pt b2),(3,Pt J),(14,.slice r.ab.A r.ab.n r.ab.c),(15,Iv (r.ab.n:Int)),(16,Iv (s.1:Int))])
  (λt D=>t.1<=r.ab.n∧B<=D.heap.size∧Ext w D∧ay D b2 37 (ar .zero)∧ay D J 37 (ar ⟨⟨X,r.Words.n,c4⟩,G,⟨t.2.1,t.1,t.2.2.1⟩⟩)∧Own D w.heap.size 3 1 aT X r.Words.n c4 s.Words∧gh D m1 B G s.Heap∧
    dJ D B ⟨t.2.1,t.1,t.2.2.1⟩ t.2.2.2 (s.ab.take t.1)∧uK ⟨X,r.Words.n,c4⟩ t.2.2.2) (λt=>r.ab.n-t.1) (0,none,0,[]) ⟨Z,Z,Z,Z,Z,trivial⟩ ⟨by omega,zd,j,e,f,m,n,dJ.nil _ _,uK.nil _⟩ ?_
 rintro⟨k,A,c,zr⟩ D ⟨hk,zd,j,e,f,m,n,p,zj⟩;simp only at hk f p zj⊢;have hA:=hc.row.base;by_cases zp:k<r.ab.n
 ·have I:=hc.each.get k Y Y;have q:=hs.each _ (Pf (show k<s.ab.length by omega));have q1:=I.names.len;have q2:=I.av.len;have q3:=I.aD.len;have q4:=q.names;have q5:=q.av;have q6:=q.aD;have ze:=p.row.lt_size;repeat'(first|refine Wz ?_|refine Wo j ((hc.row.all zp)) ?_)
  refine Wr (ox _) λb5 w2 d T o=>?_;have zf:=j.up T;obtain⟨j,e,f,m,n,p⟩:=fi d j e f m n p;have zg:B<=b5:=Pj zd T;refine Wz ?_;refine CW.any 10 mixed (cy bm) Z λw1 za zm=>?_;obtain⟨j,e,f,o,m,n,p⟩:=iX za j e f o m n p;refine Wa ?_;refine SA.bD 2 ?_;refine Wk (C3 _ _ _ _ _ (I.names.ext j) Y) λv V d W=>?_;obtain⟨N,n4,rfl,E⟩:=W;have zq:=p.Of (b:=⟨N,cs[k].Names.n,n4⟩) E.az;have E:=E.low (Pj zg (PR o.lt));obtain⟨j,e,f,o,m,n,p⟩:=iX d j e f o m n p;refine SW.nil (ah.sa d ?_);refine Wa ?_;refine SA.bD 5 ?_;refine Wk (AS _ _ _ _ _ (I.av.ext j) Y) λv V d W=>?_;obtain⟨M,m4,rfl,L⟩:=W;have zs:=p.Og (b:=⟨M,cs[k].ae.n,m4⟩) L.az;have L:=L.low (Pj zg (PR o.lt));obtain⟨j,e,f,o,m,n,p,E⟩:=nS d j e f o m n p E;refine SW.nil (ah.sa d ?_);refine SA.bD 8 ?_;refine Wk (eD _ _ _ _ _ (I.aD.ext j) Y) λv V d W=>?_;obtain⟨Q,q7,rfl,U⟩:=W;have zt:=p.Oh (b:=⟨Q,cs[k].ao.n,q7⟩) U.az;have zu:=mD (a:=⟨X,r.Words.n,c4⟩) (b:=⟨Q,cs[k].ao.n,q7⟩) m U.az;have U:=U.low (Pj zg (PR o.lt));obtain⟨j,e,f,o,m,n,p,E,L⟩:=HG d j e f o m n p E L;refine SW.nil (ah.sa d ?_);refine SA.fH ?_;refine Wb (i:=0) o λw6 z C=>?_;have hG:=o.gr C;have j:=j.own zf C;have p:=p.dm o C ze T;obtain⟨e,f,m,n,E,L,U⟩:=iX hG e f m n E L U;have o:=z;refine Wz ?_;refine Wb (i:=4) o λw6 z C=>?_;have hG:=o.gr C;have j:=j.own zf C;have p:=p.dm o C ze T;obtain⟨e,f,m,n,E,L,U⟩:=iX hG e f m n E L U;have o:=z;refine Wz ?_;refine Wb (i:=5) o λw6 z C=>?_;have hG:=o.gr C;have j:=j.own zf C;have p:=p.dm o C ze T;obtain⟨e,f,m,n,E,L,U⟩:=iX hG e f m n E L U;have o:=z;refine Wz ?_;refine SW.bz Z Z Z Z Z λb w6 d hb hB=>?_;obtain⟨j,e,f,m,n,p,E,L,U⟩:=HG d j e f m n p E L U;refine SW.append p.row (ay.la (enc:=cr) (x:=⟨⟨N,_,n4⟩,cs[k].ax,cs[k].bd,cs[k].Order,⟨M,_,m4⟩,⟨Q,_,q7⟩⟩) hB) (Pj zg (Pj (PR o.lt) d.size)) Z Z Z dD dD λA2 c2 w5 zk C=>?_;have hG:=p.row.gr C;have zv:=Pj (Pj zg (Pj (PR o.lt) d.size)) C.size;have j:=au j C (Pj F y) p.row.az;obtain⟨e,f,m,n,E,L,U⟩:=iX hG e f m n E L U;have hE:=p.each.mono λ_ _ h=>h.aQ hG Z;refine Wz ?_;refine We (i:=6) f λw6 g zn=>?_;obtain⟨j,e,m,n,E,L,U,zk⟩:=nS g j e m n E L U zk;have hE:=hE.mono λ_ _ h=>h.aQ g.T Z;refine Wz ?_;refine ah.again (k+1,A2,c2,zr++[⟨⟨N,_,n4⟩,cs[k].ax,cs[k].bd,cs[k].Order,⟨M,_,m4⟩,⟨Q,_,q7⟩⟩]) ⟨Z,Z,Z,Z,Z,trivial⟩ dD ⟨by simp only;omega,Pj zv g.g.size,j,e,zn,m,n,⟨zk,?_⟩,zj.snoc (λu hu=>⟨zq u hu,zs u hu,zt u hu⟩) zu⟩;rw[Pk Y];exact hE.snoc ⟨I.size,I.per,I.order,E,L,U⟩
 obtain rfl:k=r.ab.n:=Y;rw[Pl Y]at p;refine Wz ?_;refine Wh e (aB _) λw5 g zi=>?_;obtain⟨j,m,n,p⟩:=cG g j m n p;refine Wz ?_;exact ah.nu Z Z zi Z ⟨_,Z,j,⟨_,G,_⟩,zr,Z,⟨m,n.own.low F,p.row.low (Pj F y),p.each.mono λ_ _ h=>h.low (Pj F y),zj.pair⟩,⟨m1,B,F,y,zc,n,p.each⟩⟩
variable {l:List Block}
def vM(l:List Block)(a:Int)(i:Nat):Int:=if(bx l a && decide (bB l a<i))=true then(l.getD (bB l a) ⟨0,0,0⟩).Order else-1
theorem Iy(l:List Block)(a:Int):vM l a 0= -1:=by simp[vM]
theorem Km(b:l.Pairwise λx y=>x.At<y.At)(c:i<l.length)(h:l[i].At=a):vM l a (i+1)=l[i].Order:=by
 obtain⟨d,e⟩:=lg b c h
 simp_all[List.getD_eq_getElem?_getD,List.getElem?_eq_getElem,vM,decide_eq_true,Nat.lt_succ_self]
theorem Iz(d:i<l.length)(h:l[i].At≠a):vM l a (i+1)=vM l a i:=by
 have b:(bx l a && decide (bB l a<i+1))=(bx l a && decide (bB l a<i)):=by
  cases e:bx l a with
  | false=>rfl
  | true=>
    obtain⟨f,c⟩:=fR e<;>grind
 grind[vM]
theorem Kn(h:bx l a=true)(b:k<l.length)(e:bB l a=k):vM l a l.length=l[k].Order:=by
 grind[List.getElem?_eq_getElem,vM,decide_eq_true]
theorem IA(h:bx l a=false)(i:Nat):vM l a i= -1:=by simp[vM,h]
theorem ml(r:fB)(h:Heap)(cpu a:Int)(w:World)(hr:AQ w r h)(hs:h.small)(zT:∀z∈h.aK,ew z)(ha: -9223372036854775808<=a∧a<=9223372036854775807):
 aS prog 42 [.agg (bg r).toArray,Iv cpu,Iv a] w (fc w.heap.size (ee h cpu a)):=by
 refine Wj func42 ntmps42 ?_;refine Ww λb3 w1 o yh p=>?_;refine SW.alloc Z λb6 w2 zU zr n=>?_;have N:=o.up zr;obtain⟨o,p⟩:=bk zU o p;have eC:=hr.cpus;obtain⟨q,hq⟩:=bq (gd h)
 have c1:∀J,Ext w J->aS prog 103 [.agg (bg r).toArray] J λv _=>v= .bool q:=λJ O=>by
  have:=tx r h J (hr.ext O) hs zT;rwa[hq]at this
 cases q
 ·rw[CP hq];repeat'(first|refine Wy ?_|(refine CW.bQ Z ?_)|refine Wm ((λ_ _=>p.cell)) ?_|(refine Wk (c1 _ o) ?_;intro v w1 y K;subst K;obtain⟨o,p,n⟩:=aY y o p n))
  refine Wg n (bw .zero) λw5 M H=>?_;have o:=o.own N H;repeat'(first|refine Wy ?_|fail);exact ah.a9 Z Z Z M Z ⟨_,Z,o,fc.zero 8 _ _⟩
 have hm:=ch.1 hq;obtain⟨U,z1,f⟩:=fC hm;have yr:=f.cpus;by_cases hc:0<=cpu∧cpu<h.bl
 ·repeat'(first|refine Wy ?_|(refine CW.bo Z ?_)|refine Wm ((λ_ _=>p.cell)) ?_|refine Wl (p.cell (i:=2) (v:=Iv r.bl) Z) ?_|((first|refine Wk (c1 _ o) ?_|refine Wk (bE _ _ _ _) ?_);intro v w1 y K;subst K;obtain⟨o,p,n⟩:=aY y o p n))
  all_goals try omega
  have ys:=hr.live.len;have s2:=hs.live;have zt:=jh f.live;have yt:=hr.live.base
  refine CW.loop (λi:Nat=>[(1,Iv cpu),(2,Iv a),(3,Pt b3),(6,Pt b6),(8,Iv (vM h.Live a i)),(9,Iv (i:Int))])
   (λi J=>i<=r.Live.n∧Ext w J∧ay J b3 34 (bg r)∧ay J b6 34 (bg .zero)) (λi=>r.Live.n-i) 0
   ⟨Z,Z,Z,Z,by rw[Iy];rfl,Z,trivial⟩ ⟨by omega,o,p,n⟩ ?_
  rintro i J ⟨hi,o,p,n⟩;by_cases zu:i<r.Live.n
  ·have zv:i<h.Live.length:=Y;have g0:=hr.live.dp zu (j:=0) (u:=Iv h.Live[i].At) Z;have g1:=hr.live.dp zu (j:=1) (u:=Iv h.Live[i].Order) Z;by_cases zw:h.Live[i].At=a
   ·have eo:=Km zt zv zw;repeat'(first|refine Wy ?_|refine Wl (p.cell (i:=4) (v:= .slice r.Live.A r.Live.n r.Live.c) Z) ?_|refine Wn o g0 ?_|refine Wn o g1 ?_)
    exact ah.again (i+1) ⟨Z,Z,Z,Z,by rw[eo];rfl,Z,trivial⟩ Y ⟨by omega,o,p,n⟩
   have eo:=Iz zv zw;repeat'(first|refine Wy ?_|refine Wl (p.cell (i:=4) (v:= .slice r.Live.A r.Live.n r.Live.c) Z) ?_|refine Wn o g0 ?_)
   exact ah.again (i+1) ⟨Z,Z,Z,Z,by rw[eo];rfl,Z,trivial⟩ Y ⟨by omega,o,p,n⟩
  have ei:i=h.Live.length:=Y;subst ei;cases hf:bx h.Live a
  ·rw[CQ hq hc hf,IA hf];repeat'(first|refine Wy ?_|refine Wl (p.cell (i:=4) (v:= .slice r.Live.A r.Live.n r.Live.c) Z) ?_)
   refine Wg n (bw .zero) λw5 M H=>?_;have o:=o.own N H;repeat'(first|refine Wy ?_|fail);exact ah.a9 Z Z Z M Z ⟨_,Z,o,fc.zero 4 _ _⟩
  rw[mi hq hc hf];obtain⟨hk,zh⟩:=fR hf;obtain⟨k,ek⟩:=bq (bB h.Live a);simp only[ek]at hk zh;have zV:=f.live.each k hk;have zx:=f.next hk;have yi:=zV.1;rw[Kn hf hk ek];repeat'(first|refine Wy ?_|refine Wl (p.cell (i:=4) (v:= .slice r.Live.A r.Live.n r.Live.c) Z) ?_|refine Wm ((λ_ _=>p.cell)) ?_)
  refine Wk (jY r h _ (hr.ext o) hs) λv w4 zW K=>?_;obtain⟨s,rfl,hO⟩:=K;have hO:=hO.low o.size;obtain⟨o,p,n⟩:=aY zW o p n;have yj:=n.lt;have yk:=p.lt;refine SW.alloc Z λza w1 y zb d=>?_;skip;refine Wg d (bw s) λw2 I H=>?_;have L:=y.own zb H;have zc:=o.up zb;obtain⟨o,p,n,hO⟩:=cG L o p n hO;have d:=I;have zj:b3≠za:=Y;have D:=hO.cx;have zk:=hO.live;have zl:=hO.cpus;obtain⟨g,c,u0,u1,ls,eZ,A,zy⟩:=hO.split f.d.bA;have F:=zy.lists;obtain⟨sz,m,V,li,lv⟩:=s;simp only at eZ D zk F zl;subst eZ;have yu:=zk.sl.len;repeat'(first|refine Wy ?_|refine Wl (d.cell (i:=4) (v:= .slice lv.A lv.n lv.c) Z) ?_)
  refine Wk (pY lv.A lv.n lv.c h.Live a h.Live[k].Order _ zk.sl Y) λv w5 zX K=>?_;obtain⟨B,S,rfl,E⟩:=K;have E:=E.low o.size;obtain⟨o,p,n,d,A,D,F⟩:=iX zX o p n d A D F;have W:b6≠za:=Y;repeat'(first|refine Wy ?_|fail);refine Wb (i:=4) d λw7 I H=>?_;have hG:=d.gr H;have o:=o.own zc H;have n:=n.grown H (by simpa using W);have p:=p.grown H (by simpa using zj);obtain⟨A,D,E,F⟩:=cG hG A D E F;have d:ay w7 za 34 (bg ⟨⟨some ⟨g,0,none⟩,2,c⟩,m,V,li,⟨B,(bJ h.Live a h.Live[k].Order).length,S⟩⟩):=I;have zn:=D4 zt hk zh Z;have z2:b6≠g:=λe=>A.row.cB n Z (by rw[A.own,e]);have zA:za≠g:=λe=>A.row.cB d Z (by rw[A.own,e]);by_cases ho:0<h.Live[k].Order
  ·rw[mU f.d.bA hk ek ho,zn];repeat'(first|refine Wy ?_|refine Wm ((λ_ _=>d.cell)) ?_)
   have zd:=λJ(h1:dM J w.heap.size g c u0 u1 (U,z1))(h2:w.heap.size<=J.heap.size)=>po m V li ⟨B,(bJ h.Live a h.Live[k].Order).length,S⟩ u0 u1 _ _ h.Live[k] w.heap.size g c J h1 h2 f.d.start zx;rw[zh]at zd;refine SW.cm Z Z (zd _ A o.size) λv w8 K=>?_;obtain⟨rfl,H,u2,u3,P⟩:=K;have hG:=A.gr H;have o:=o.own A.xD H;obtain⟨n,D,E,F⟩:=cG hG n D E F;refine Wg n (bw ⟨⟨some ⟨g,0,none⟩,2,c⟩,m,V,li,⟨B,(bJ h.Live a h.Live[k].Order).length,S⟩⟩) λw9 M H=>?_;have hG:=n.gr H;have o:=o.own N H;have P:=P.aQ hG Z;obtain⟨D,E,F⟩:=aY hG D E F;repeat'(first|refine Wy ?_|fail);exact ah.a9 Z Z Z M Z ⟨_,Z,o,⟨⟨some ⟨g,0,none⟩,2,c⟩,m,V,li,⟨B,(bJ h.Live a h.Live[k].Order).length,S⟩⟩,Z,⟨zl,D,E,⟨[u2,u3],⟨P.row,dR.two P.z0 P.z1⟩⟩,⟨ls,F⟩⟩⟩
  rw[mV f.d.bA hk ek ho,zn];have z3:=zx.at_;rw[zh]at z3;have yv:=f.d.AT;have yw:=f.d.G1;obtain⟨zs,Q⟩:=hr.bA;have l0:=Q.each.len;rw[f.d.bA]at l0;obtain⟨v0,v1,rfl⟩:=sk (show zs.length=2 from l0);have r0:=Q.each.get 0 fy (by simp[f.d.bA]);have r1:=Q.each.get 1 fy (by simp[f.d.bA]);simp only[f.d.bA]at r0 r1;have r0:vD w v0 U:=r0;have r1:vD w v1 z1:=r1;have yx:=r1.from_;have yy:=Q.row.base;have yl:2=r.aK.n:=Q.row.len
  have zB:∃(zi:Nat)(ui:cM)(zz:ap),∃k0:zi<2,[v0,v1][zi]'k0=ui∧(if a<v1.aE then(0:Int)else 1)=(zi:Int)∧vD w ui zz∧bV zz∧(zz.aE<=a∧a<zz.To)∧keyOf U z1 cpu a=⟨cpu,(zi:Int),rO zz a,[]⟩:=by
   by_cases O:a<U.To
   ·exact⟨0,v0,U,by omega,Z,by rw[if_pos Y];rfl,r0,f.d.kD,⟨by have:=f.d.nF;omega,O⟩,by unfold keyOf;rw[if_pos O,if_pos O];rfl⟩
   exact⟨1,v1,z1,by omega,Z,by rw[if_neg Y];rfl,r1,f.d.j8,⟨by omega,by omega⟩,by unfold keyOf;rw[if_neg O,if_neg O];rfl⟩
  obtain⟨zi,ui,zz,k0,zC,z4,zm,zD,⟨z5,z6⟩,zE⟩:=zB
  have cz:∀J,Ext w J->aS prog 114 [.agg (bg r).toArray,Iv a] J λv _=>v=Iv (zi:Int):=λJ O=>by
   have:=ve r v0 v1 a J (Q.row.ext O);rwa[z4]at this
  obtain⟨ti,z7,z8⟩:=vV zD z5 z6;have zF:zi<r.aK.n:=Y;have yz:=zm.from_;have yA:=zm.types.len;have yB:=zm.types.base;have z9:=Q.row.dp zF (j:=0) (u:=Iv ui.aE) (by simp only[zC];rfl);have ya:=Q.row.dp zF (j:=3) (u:= .slice ui.Types.A ui.Types.n ui.Types.c) (by simp only[zC];rfl);have zG:ti<ui.Types.n:=Y;have ft:=zm.types.one zG Z
  have zH:rO zz a=zz.Types[ti]:=by
   unfold rO;rw[z7,Int.toNat_natCast,Qq,Pp z8];rfl
  obtain⟨t,ht⟩:=bq (zz.Types[ti]);rw[ht]at ft zH;have yb:=zD.ok;unfold eu at yb;repeat'(first|refine Wy ?_|refine Wm ((λ_ _=>p.cell)) ?_|(refine Wk (cz _ o) ?_;intro v w1 y K;subst K;obtain⟨o,p,n,d,A,D,E,F⟩:=nS y o p n d A D E F))
  refine fq ?_;repeat'(first|refine Wy ?_|refine SW.st (aU (ti) Z Z ig Y Y) Z ?_|refine Wl (p.cell (i:=0) (v:= .slice r.aK.A r.aK.n r.aK.c) Z) ?_|refine Wn o z9 ?_|refine Wn o ya ?_|refine Wn o ft ?_|(refine SW.br λw1 y=>?_;obtain⟨o,p,n,d,A,D,E,F⟩:=nS y o p n d A D E F))
  obtain⟨x,O⟩:∃x:aC,x=⟨cpu,zi,t,[]⟩:=⟨_,Z⟩;have zo:keyOf U z1 cpu a=x:=by rw[zE,zH,O]
  rw[zo];obtain⟨pg,R⟩:=bq (bZ h.ak x++[a]);rw[R];have yc:∀l∈h.ak,l.aq.length*8<=140737488355328:=λl hl=>by have:=(f.lists l hl).2;omega
  have ym:=f.count;have yn:li.n<=256:=by have:=F.rd.len.2;omega
  have yo:(bZ h.ak x).length<=8:=by
   cases e:bW h.ak x with
   | false=>rw[iP e];simp
   | true=>
     obtain⟨h1,_⟩:=fK e;rw[fk e h1];exact(f.lists _ (Pf h1)).2
  have ze:pg.length=(bZ h.ak x).length+1:=by rw[<-R];simp
  repeat'(first|refine Wy ?_|refine Wm ((λ_ _=>d.cell)) ?_)
  have zI:=pn ⟨⟨some ⟨g,0,none⟩,2,c⟩,m,V,li,⟨B,(bJ h.Live a h.Live[k].Order).length,S⟩⟩ h.ak ls x _ F.rd f.iy dD yc;rw[O]at zI;refine SW.call Z Z zI λv w5 zf K=>?_;rw[<-O]at K;obtain⟨A3,c3,rfl,zg⟩:=K;repeat'(first|refine Wy ?_|fail);refine SW.bz Z Z Z Z Z λb w6 zJ hb hB=>?_;obtain⟨zg,zf⟩:=bk zJ zg zf;refine SW.append zg (ay.la (enc:=aT) hB) zf.size Z Z Z Y Y λA4 c4 w7 C H=>?_;have zK:=au zf H (Ph _) zg.az;have C:=C.low o.size;rw[R,<-ze]at C;rw[<-ze];obtain⟨o,n,d,A,D,E,F⟩:=iX zK o n d A D E F;obtain⟨n4,zL⟩:=bq pg.length;rw[zL]at C;rw[zL];have yp:=C.le;have yC:n4<=9:=Y;have yD:1<=n4:=Y;by_cases h8:8<pg.length
  ·have zM:bW h.ak x=true:=by
    cases e:bW h.ak x with
    | true=>rfl
    | false=>rw[iP e]at R;rw[<-R]at h8;simp at h8
   obtain⟨p0,zN⟩:=bq (aW h.ak x);have zO:p0<h.ak.length:=by rw[<-zN];exact(fK zM).1
   have yd:bZ h.ak x=h.ak[p0].aq:=by
    rw[fk zM Y];simp only[zN]
   rw[yd]at R ze;have zP:∀j,j<=4->pg.take j=h.ak[p0].aq.take j:=λj hj=>by rw[<-R,PQ Y]
   have zQ:∀(j:Nat)(hj:j<pg.length)(zR:j<h.ak[p0].aq.length),pg[j]=h.ak[p0].aq[j]:=λj hj zR=>by
    simp only[<-R];exact P2 zR
   have zp:iq h U z1 x pg (bJ h.Live a h.Live[k].Order)=⟨[(bp (U,z1) ((pg.take 4).map bC)).1,(bp (U,z1) ((pg.take 4).map bC)).2],h.bY,h.bl,fZ h.ak (kz x (pg.drop 4)),bJ h.Live a h.Live[k].Order⟩:=by
    unfold iq;rw[if_pos h8]
   rw[zp];repeat'(first|refine Wy ?_|fail)
   refine CW.loop (λt':Nat×cM×cM=>[(1,Iv cpu),(2,Iv a),(6,Pt b6),(10,Pt za),(11,Iv (zi:Int)),(12,Iv t),(13,.slice A4 n4 c4),(14,Iv (t'.1:Int))])
    (λt' J=>t'.1<=4∧Ext w J∧ay J za 34 (bg ⟨⟨some ⟨g,0,none⟩,2,c⟩,m,V,li,⟨B,(bJ h.Live a h.Live[k].Order).length,S⟩⟩)∧ay J b6 34 (bg .zero)∧dM J w.heap.size g c t'.2.1 t'.2.2 (bp (U,z1) ((pg.take t'.1).map bC))∧Own J w.heap.size 3 1 aT m.A m.n m.c h.bY∧Own J w.heap.size 129 3 aL B (bJ h.Live a h.Live[k].Order).length S (bJ h.Live a h.Live[k].Order)∧dw J w.heap.size li ls h.ak∧Own J w.heap.size 3 1 aT A4 n4 c4 pg) (λt'=>4-t'.1) (0,u0,u1)
    ⟨Z,Z,Z,Z,Z,Z,Z,Z,trivial⟩ ⟨by omega,o,d,n,by simpa[bp]using A,D,E,F,C⟩ ?_
   rintro⟨j,u0,u1⟩ J ⟨hj,o,d,n,A,D,E,F,C⟩;simp only at hj A⊢;have yq:=C.sl.base;by_cases yE:j<4
   ·have ye:j<n4:=Y;have zS:j<pg.length:=Y;have hD:=f.inv zO j Y;have hN:=f.D5 zO (show j<h.ak[p0].aq.length by omega)
    have yf:bp (U,z1) ((pg.take (j+1)).map bC)=eI (bp (U,z1) ((pg.take j).map bC)) (bC pg[j]):=by
     rw[Pk zS,PO,kK];rfl
    rw[<-zP j hj,<-zQ j zS Y]at hN;rw[<-zP j hj]at hD;repeat'(first|refine Wy ?_|fail);refine CW.any 5 mixed (cy bm) Z λw1 y G=>?_;obtain⟨o,d,n,A,D,E,F,C⟩:=nS y o d n A D E F C;refine Wu 0 G Z (cv Z Z ((λ_ _=>d.cell))) ?_;refine Wq 1 G Z Z ?_;refine Wq 2 G Z Z ?_;refine Wu 3 G Z (bO Z Z ig Y) ?_;refine Wu 4 G Z (aJ Z (C.sl.one ye Z)) ?_;refine SA.fH ?_;refine SW.cm Z Z (po m V li ⟨B,(bJ h.Live a h.Live[k].Order).length,S⟩ u0 u1 _ _ (bC pg[j]) w.heap.size g c _ A o.size hD hN) λv w8 K=>?_;obtain⟨rfl,H,u2,u3,P⟩:=K;have hG:=A.gr H;have o:=o.own A.xD H;obtain⟨d,n,D,E,F,C⟩:=fi hG d n D E F C;refine Wg d (bw ⟨⟨some ⟨g,0,none⟩,2,c⟩,m,V,li,⟨B,(bJ h.Live a h.Live[k].Order).length,S⟩⟩) λw9 I zq=>?_;have yg:=d.gr zq;have o:=o.own zc zq;have n:=n.grown zq (by simpa using W);obtain⟨P,D,E,F,C⟩:=dz yg P D E F C;repeat'(first|refine Wy ?_|fail);exact ah.again (j+1,u2,u3) ⟨Z,Z,Z,Z,Z,Z,Z,Z,trivial⟩ dD ⟨by simp only;omega,o,I,n,by simp only;rw[yf];exact P,D,E,F,C⟩
   obtain rfl:j=4:=Y;repeat'(first|refine Wy ?_|(refine SW.st (dG (k:=4) Z Z Y Y) Z ?_))
   refine CW.any 6 mixed (cy bm) Z λw1 y G=>?_;obtain⟨o,d,n,A,D,E,F,C⟩:=nS y o d n A D E F C;refine Wu 0 G Z (cv Z Z ((λ_ _=>d.cell))) ?_;refine Wq 1 G Z Z ?_;refine Wq 2 G Z Z ?_;refine Wq 3 G Z Z ?_;refine Wq 4 G Z Z ?_;refine SA.bD 5 ?_;refine Wk (iM _ _ _ _ _ (C.sl.drop 4 c4 Y Y) Y) λv w4 L K=>?_;obtain⟨X,c4,rfl,hX⟩:=K;have hX:=hX.low o.size;obtain⟨o,d,n,A,D,E,F⟩:=iX L o d n A D E F;refine SW.nil (ah.sa L ?_);refine SA.fH ?_;refine Wk (qD ⟨⟨some ⟨g,0,none⟩,2,c⟩,m,V,li,⟨B,(bJ h.Live a h.Live[k].Order).length,S⟩⟩ h.ak ls (kz x (pg.drop 4)) ⟨cpu,zi,t,⟨X,(n4-4),c4⟩⟩ w.heap.size _ F ⟨by rw[O];rfl,by rw[O];rfl,by rw[O];rfl,hX⟩ f.iy o.size (show 0<(n4-4)by omega) dD) λv w5 L K=>?_;obtain⟨s5,R5,rfl,T⟩:=K;obtain⟨o,d,n,A,D,E⟩:=fi L o d n A D E;refine Wg n (bw ⟨⟨some ⟨g,0,none⟩,2,c⟩,m,V,s5,⟨B,(bJ h.Live a h.Live[k].Order).length,S⟩⟩) λw9 M H=>?_;have hG:=n.gr H;have o:=o.own N H;obtain⟨A,D,E,T⟩:=cG hG A D E T;repeat'(first|refine Wy ?_|fail);exact ah.a9 Z Z Z M Z ⟨_,Z,o,⟨⟨some ⟨g,0,none⟩,2,c⟩,m,V,s5,⟨B,(bJ h.Live a h.Live[k].Order).length,S⟩⟩,Z,⟨zl,D,E,⟨[u0,u1],⟨A.row,dR.two A.z0 A.z1⟩⟩,⟨R5,T⟩⟩⟩
  have zp:iq h U z1 x pg (bJ h.Live a h.Live[k].Order)=⟨[U,z1],h.bY,h.bl,fZ h.ak (kz x pg),bJ h.Live a h.Live[k].Order⟩:=by
   unfold iq;rw[if_neg h8]
  rw[zp];repeat'(first|refine Wy ?_|fail);refine CW.any 6 mixed (cy bm) Z λw1 y G=>?_;obtain⟨o,d,n,A,D,E,F,C⟩:=nS y o d n A D E F C;refine Wu 0 G Z (cv Z Z ((λ_ _=>d.cell))) ?_;refine Wq 1 G Z Z ?_;refine Wq 2 G Z Z ?_;refine Wq 3 G Z Z ?_;refine Wq 4 G Z Z ?_;refine SA.bD 5 ?_;refine Wk (iM _ _ _ _ _ (C.sl) Y) λv w4 L K=>?_;obtain⟨X,c4,rfl,hX⟩:=K;have hX:=hX.low o.size;obtain⟨o,d,n,A,D,E,F⟩:=iX L o d n A D E F;refine SW.nil (ah.sa L ?_);refine SA.fH ?_;refine Wk (qD ⟨⟨some ⟨g,0,none⟩,2,c⟩,m,V,li,⟨B,(bJ h.Live a h.Live[k].Order).length,S⟩⟩ h.ak ls (kz x pg) ⟨cpu,zi,t,⟨X,n4,c4⟩⟩ w.heap.size _ F ⟨by rw[O];rfl,by rw[O];rfl,by rw[O];rfl,hX⟩ f.iy o.size (show 0<n4 by omega) dD) λv w5 L K=>?_;obtain⟨s5,R5,rfl,T⟩:=K;obtain⟨o,d,n,A,D,E⟩:=fi L o d n A D E;refine Wg n (bw ⟨⟨some ⟨g,0,none⟩,2,c⟩,m,V,s5,⟨B,(bJ h.Live a h.Live[k].Order).length,S⟩⟩) λw9 M H=>?_;have hG:=n.gr H;have o:=o.own N H;obtain⟨A,D,E,T⟩:=cG hG A D E T;repeat'(first|refine Wy ?_|fail);exact ah.a9 Z Z Z M Z ⟨_,Z,o,⟨⟨some ⟨g,0,none⟩,2,c⟩,m,V,s5,⟨B,(bJ h.Live a h.Live[k].Order).length,S⟩⟩,Z,⟨zl,D,E,⟨[u0,u1],⟨A.row,dR.two A.z0 A.z1⟩⟩,⟨R5,T⟩⟩⟩
 rw[v7 hq hc];repeat'(first|refine Wy ?_|(refine CW.bo Z ?_)|refine Wm ((λ_ _=>p.cell)) ?_|refine Wl (p.cell (i:=2) (v:=Iv r.bl) Z) ?_|((first|refine Wk (c1 _ o) ?_|refine Wk (bE _ _ _ _) ?_);intro v w1 y K;subst K;obtain⟨o,p,n⟩:=aY y o p n))
 all_goals try omega
 all_goals
  refine Wg n (bw .zero) λw5 M H=>?_;have o:=o.own N H;repeat'(first|refine Wy ?_|fail);exact ah.a9 Z Z Z M Z ⟨_,Z,o,fc.zero 1 _ _⟩
variable {n:ByteArray} {size:Int}
def c9(n:ByteArray)(c:aO):Bool:=vK c.Names n
def xE(z:Int)(c:aO):Bool:=decide (c.ax=z)
def aj.zero:aj:=⟨[],.zero,[]⟩
def jv(l:List ByteArray)(n:ByteArray):Nat:=(l.takeWhile λm=>cu m n).length
theorem tw(l:List ByteArray)(n:ByteArray):jv l n<=l.length:=by
 unfold jv<;>grind[jv,List.takeWhile_sublist]
theorem CU{l:List ByteArray}(h:j<jv l n)(b:j<l.length):cu l[j] n=true:=by
 unfold jv at h;have a:(l.takeWhile λm=>cu m n)[j]=l[j]:=List.IsPrefix.getElem (List.takeWhile_prefix _) h;rw[<-a];grind[List.all_takeWhile,cu,List.all_eq_true,List.getElem_mem]
theorem CV{l:List ByteArray}(h:jv l n<l.length):cu l[jv l n] n=false:=by
 induction l with
 | nil=>grind
 | cons a r b=>
   unfold jv at h b⊢;by_cases e:cu a n=true<;>simp_all
theorem BC{l:List ByteArray}(a:k<=l.length)(b:∀j(c:j<l.length),j<k->cu l[j] n=true)(d:∀h:k<l.length,cu l[k] n=false):jv l n=k:=by
 rcases PX (jv l n) k with h|h|h<;>grind[Nat.lt_trichotomy,jv,CV,CU,tw]
def CX(l:List ByteArray):Prop:=∀(i j:Nat)(a:i<l.length)(b:j<l.length),i<j->cu l[i] l[j]=true
theorem pj.iy{c l:List ByteArray}(h:pj c l):CX l:=by
 have:∀(d i:Nat)(b:i<l.length)(a:i+d+1<l.length),cu l[i] l[i+d+1]=true:=by
  intro d;induction d with
  | zero=>intro i b a;exact(h.each (i+1) a).2.2 Y
  | succ d e=>
    intro i b a;exact lM (e i b Y) ((h.each (i+(d+1)+1) a).2.2 Y)
 intro i j b a f;obtain⟨d,rfl⟩:∃d,j=i+d+1:=⟨j-i-1,by omega⟩<;>simp_all
theorem LQ{l:List ByteArray}(a:CX l)(h:jv l n<=j)(b:j<l.length):cu l[j] n=false:=by
 have d:=CV (l:=l) (n:=n) Y;by_cases e:jv l n=j
 ·grind
 cases c:cu l[j] n
 ·rfl
 have:=lM (a (jv l n) j Y b Y) c
 grind
def lY(size align:Int):Int:=(size+align-1) / align*align
def fL(a:Int):Prop:=a=1∨a=2∨a=4∨a=8
theorem v8{align:Int}(a:fL align)(h:1<=size∧size<=64):size<=lY size align∧lY size align<size+align∧lY size align % align=0∧lY size align<=64:=by
 unfold lY;rcases a with rfl|rfl|rfl|rfl<;>omega
theorem Ih{align z:Int}(a:fL align)(h:1<=size∧size<=64)(b:size<=z)(c:z % align=0)(d:∀y,size<=y->y<z->y % align≠0):z=lY size align:=by
 have⟨e,f,i,j⟩:=v8 a h;rcases(show z<lY size align∨z=lY size align∨lY size align<z by omega)with g|g|g
 ·exfalso;unfold lY at g;rcases a with rfl|rfl|rfl|rfl<;>omega
 all_goals grind
def dh(s:aj)(n:ByteArray)(z:Int):aO:=⟨[n],z,(cJ z).2.1,(cJ z).1,[],List.replicate s.Heap.bl.toNat (-1)⟩
def db(c:aO)(n:ByteArray):aO:=⟨aP c.Names (jv c.Names n) n,c.ax,c.bd,c.Order,c.ae,c.ao⟩
theorem pk.oB{s:aj}{c:i<s.ab.length}(h:pk s i c)(d:bf s.Heap)(e:∀(j:Nat)(h:j<s.ab.length),pk s j h):s.ab[i].Names.length<=3512479453921:=by
 have f:=xC d i Y (λj g _=>e j g);have b:=ll (l:=s.ab[i].Names) f.1.1 s.ab[i].Names.length (λk a _=>(h.names.each k a).2.1);rw[QG]at b;refine vd (Q6.1 b).2.1 λn m=>?_;obtain⟨k,a,rfl⟩:=Pg m;exact(h.names.each k a).1
inductive mj(s:aj)(n:ByteArray)(size align:Int):aj×Int->Prop where
 | bad (h:ef s=false):mj s n size align (.zero,8)
 | form (h:ef s=true) (hn:¬(dW n=true∧fL align)):mj s n size align (.zero,3)
 | range (h:ef s=true) (hn:dW n=true∧fL align) (hs:¬(1<=size∧size<=64)):mj s n size align (.zero,1)
 | kA (h:ef s=true) (hn:dW n=true∧fL align) (hs:1<=size∧size<=64) (ht:s.ab.any (c9 n)=true):mj s n size align (.zero,5)
 | xF {i:Nat} (h:ef s=true) (hn:dW n=true∧fL align) (hs:1<=size∧size<=64) (ht:s.ab.any (c9 n)=false) (hi:i<s.ab.length) (hz:s.ab[i].ax=lY size align) (ha:∀j(hj:j<s.ab.length),j<i->s.ab[j].ax≠lY size align):
    mj s n size align (⟨s.Words,s.Heap,s.ab.set i (db s.ab[i] n)⟩,0)
 | full (h:ef s=true) (hn:dW n=true∧fL align) (hs:1<=size∧size<=64) (ht:s.ab.any (c9 n)=false) (hz:∀j(hj:j<s.ab.length),s.ab[j].ax≠lY size align) (hc:s.ab.length=20):mj s n size align (.zero,9)
 | new (h:ef s=true) (hn:dW n=true∧fL align) (hs:1<=size∧size<=64) (ht:s.ab.any (c9 n)=false) (hz:∀j(hj:j<s.ab.length),s.ab[j].ax≠lY size align) (hc:s.ab.length<20):
    mj s n size align (⟨s.Words,s.Heap,s.ab++[dh s n (lY size align)]⟩,0)
theorem mj.c7{s:aj}{align:Int}{u v:aj×Int}(a:mj s n size align u)(b:mj s n size align v):u=v:=by
 cases a with
 | bad h=>cases b<;>grind
 | form h c=>cases b<;>grind
 | range h c d=>cases b<;>grind
 | kA h c d e=>cases b<;>grind
 | @xF i h c d e j f k=>cases b<;>grind
 | full h c d e f g=>cases b<;>grind
 | new h c d e f g=>cases b<;>grind
def cK(lo:Nat)(u:aj×Int)(v:Value)(w:World):Prop:=∃q,v= .tuple #[.agg (ar q).toArray,Iv u.2]∧gK w lo q u.1
theorem cK.zero(e:Int)(lo:Nat)(w:World):cK lo (.zero,e) (.tuple #[.agg (ar .zero).toArray,Iv e]) w:=
 ⟨.zero,Z,Own.cq _ _ _ _ _ _,ik.zero w lo,⟨[],dJ.nil _ _⟩⟩
theorem Heap.gu:Heap.zero.small:=by constructor<;>simp[Heap.zero]
theorem aj.gu:aj.zero.small:=⟨by simp[aj.zero],Heap.gu,by simp[aj.zero],by simp[aj.zero]⟩
theorem mj.small{s:aj}{align:Int}{u:aj×Int}(a:mj s n size align u)(d:s.small):u.1.small:=by
 cases a with
 | bad|form|range|kA|full=>exact aj.gu
 | @xF i h l f m k o p=>
   have e:=dg.1 h;have g:=d.each _ (Pf k);refine⟨d.words,d.heap,by simp only[List.length_set];exact d.aV,λc b=>?_⟩;rcases Pu b with b|rfl
   ·exact d.each c b
   have q:=(e.each i k).oB e.heap (λj h=>e.each j h);refine⟨?_,g.av,g.aD⟩;simp only[db];grind[db,bT,tw]
 | new h l f m o g=>
   have e:=dg.1 h;refine⟨d.words,d.heap,by grind,λc b=>?_⟩;rcases Px.1 b with b|b
   ·exact d.each c b
   simp only[List.mem_singleton]at b;subst b;have:=e.heap.cpus;refine⟨by simp[dh],by simp[dh],?_⟩;simp only[dh,List.length_replicate];grind
def vN(z:ap):Prop:=z.ai.length<=257∧z.Types.length<=32
theorem BL{s:ap×ap}(h:vN s.1∧vN s.2)(b:Block):vN (eI s b).1∧vN (eI s b).2:=by
 unfold eI;split
 ·exact⟨⟨(ld _ _ _).1,(ld _ _ _).2.1⟩,h.2⟩
 exact⟨h.1,(ld _ _ _).1,(ld _ _ _).2.1⟩
theorem vf:∀(l:List Block){s:ap×ap},vN s.1∧vN s.2->vN (bp s l).1∧vN (bp s l).2
 | [],_,h=>h
 | b::l,s,h=>vf l (s:=eI s b) (BL h b)
theorem vN.small(h:vN z):z.ai.length*24<=140737488355328∧z.Types.length*8<=140737488355328:=⟨Pj (PC 24 h.1) ir,by have:=h.2;omega⟩
theorem Ko{l:List α}{b x:α}(h:x∈aP l i b):x=b∨x∈l:=by
 unfold aP at h<;>grind
theorem Kq{x y:aC}(h:y∈fZ L x):y=x∨y∈L:=by
 unfold fZ at h<;>grind[fZ,List.mem_or_eq_of_mem_set,Ko]
theorem Kr(L:List aC)(x:aC):(fZ L x).length<=L.length+1:=by
 unfold fZ<;>grind[fZ,bT,jg]
theorem Eu{h:Heap}(f:iE h z0 z1)(x:aC):(bZ h.ak x).length<=8:=by
 cases e:bW h.ak x with
 | false=>grind[iP]
 | true=>
   obtain⟨a,_⟩:=fK e;rw[fk e a];exact(f.lists _ (Pf a)).2
theorem vg{h:Heap}(f:iE h z0 z1)(x:aC)(b:x.aq.length<=9):(fZ h.ak x).length*48<=140737488355328∧∀l∈fZ h.ak x,l.aq.length*8<=140737488355328:=by
 have:=f.count;have:=Kr h.ak x;refine⟨by omega,λl a=>?_⟩;rcases Kq a with rfl|a
 ·omega
 have:=(f.lists l a).2;omega
theorem vh(h:Heap)(cpu a:Int)(g:h.small):(ee h cpu a).2.small:=by
 have e:((8:Int),(⟨[],[],0,[],[]⟩:Heap)).2.small:=by constructor<;>simp
 cases n:gd h
 ·grind[CP]
 by_cases r:0<=cpu∧cpu<h.bl
 ·cases o:bx h.Live a
  ·grind[CQ]
  rw[mi n r o];obtain⟨c,d,f⟩:=fC (ch.1 n);obtain⟨p,_⟩:=fR o;have j:=js f.d.kD;have k:=js f.d.j8;have i:vN c∧vN d:=⟨⟨by omega,j.2⟩,⟨by omega,k.2⟩⟩
  have b:(h.Live.eraseIdx (bB h.Live a)).length*24<=140737488355328:=by
   have:=g.live;grind
  by_cases q:0<h.Live[bB h.Live a].Order
  ·rw[mU f.d.bA p Z q];have hb:=BL (s:=(c,d)) i h.Live[bB h.Live a];refine⟨by simp[qq],g.cx,g.lists,b,λz e=>?_,g.bt⟩;simp only[qq,List.mem_cons,List.not_mem_nil,or_false]at e;rcases e with rfl|rfl
   ·exact hb.1.small
   exact hb.2.small
  rw[mV f.d.bA p Z q];have t:=Eu f (keyOf c d cpu a);unfold iq;split
  ·have hb:=vf (((bZ h.ak (keyOf c d cpu a)++[a]).take 4).map bC) (s:=(c,d)) i;obtain⟨l,m⟩:=vg f (kz (keyOf c d cpu a) ((bZ h.ak (keyOf c d cpu a)++[a]).drop 4)) (by grind[kz,List.length_drop,List.length_append,List.length_singleton]);refine⟨by simp,g.cx,l,b,λz e=>?_,m⟩;simp only[List.mem_cons,List.not_mem_nil,or_false]at e;rcases e with rfl|rfl
   ·exact hb.1.small
   exact hb.2.small
  obtain⟨l,m⟩:=vg f (kz (keyOf c d cpu a) (bZ h.ak (keyOf c d cpu a)++[a])) (by grind[kz,List.length_append,List.length_singleton]);refine⟨by simp,g.cx,l,b,λz e=>?_,m⟩
  grind
 grind[v7]
variable {c:aO} {s:aj}
theorem IB(h:ew z)(a o:Int):ew (eX z a o).2:=by
 have b:ew ⟨0,0,[],[]⟩:=by grind[ew]
 unfold eX;(repeat' split)<;>first|exact h|exact b
theorem BM{s:ap×ap}(h:ew s.1∧ew s.2)(b:Block):ew (eI s b).1∧ew (eI s b).2:=by
 unfold eI<;>grind[eI,IB]
theorem vi:∀(l:List Block){s:ap×ap},ew s.1∧ew s.2->ew (bp s l).1∧ew (bp s l).2
 | [],_,h=>h
 | b::l,s,h=>vi l (s:=eI s b) (BM h b)
theorem C1{a b:ap}(h:ew a∧ew b):∀z∈[a,b],ew z:=λz c=>by
 grind
theorem IC(h:Heap)(cpu a:Int)(b:∀z∈h.aK,ew z):∀z∈(ee h cpu a).2.aK,ew z:=by
 have f:∀z∈(⟨[],[],0,[],[]⟩:Heap).aK,ew z:=λz e=>by grind
 unfold ee;split
 ·split
  ·split
   ·simp only[iQ];split
    ·rename_i c d e;have hb:ew c∧ew d:=⟨b _ (by grind),b _ (by grind)⟩;split
     ·exact C1 (BM (s:=(c,d)) hb _)
     grind[iq,C1,vi]
    omega
   omega
  omega
 omega
structure Ha(h:Heap):Prop where
 small:h.small
 tz:∀z∈h.aK,ew z
theorem Ha.free{h:Heap}(a:Ha h)(cpu b:Int):Ha (ee h cpu b).2:=⟨vh h cpu b a.small,IC h cpu b a.tz⟩
def dA(c:aO)(k:Nat):aO:=⟨c.Names,c.ax,c.bd,c.Order,c.ae.eraseIdx k,c.ao⟩
def gR(c:aO):aO:=⟨c.Names,c.ax,c.bd,c.Order,c.ae,List.replicate c.ao.length (-1)⟩
noncomputable def di:Nat->Heap×aO->Heap×aO
 | 0,p=>p
 | k+1,p=>di k (if h:k<p.2.ae.length then(if p.2.ae[k].ai=p.2.bd then((ee p.1 0 p.2.ae[k].At).2,dA p.2 k)else p)else p)
theorem nK{h:Heap}(a:k<c.ae.length)(e:c.ae[k].ai=c.bd):di (k+1) (h,c)=di k ((ee h 0 c.ae[k].At).2,dA c k):=by
 simp_all[di]
theorem mm{h:Heap}(a:k<c.ae.length)(e:¬c.ae[k].ai=c.bd):di (k+1) (h,c)=di k (h,c):=by
 simp_all[di]
def aZ(s:aj)(i:Nat)(p:Heap×aO):aj:=⟨s.Words,p.1,s.ab.set i p.2⟩
structure C2(c:aO):Prop where
 small:c.small
 at_:∀x∈c.ae,-9223372036854775808<=x.At∧x.At<=9223372036854775807
theorem C2.cut(h:C2 c)(k:Nat):C2 (dA c k):=by
 have b:=h.small.av;have d:=Qd c.ae k;exact⟨⟨h.small.names,by grind[dA],h.small.aD⟩,λx a=>h.at_ x (PH a)⟩
theorem C2.idle(h:C2 c):C2 (gR c):=⟨⟨h.small.names,h.small.av,by simp only[gR,List.length_replicate];exact h.small.aD⟩,h.at_⟩
theorem na:∀(k:Nat){p:Heap×aO},Ha p.1->C2 p.2->Ha (di k p).1∧C2 (di k p).2
 | 0,_,h1,h2=>⟨h1,h2⟩
 | k+1,(h,c),h1,h2=>by
   unfold di;simp only;split
   ·split
    ·exact na k (h1.free _ _) (h2.cut _)
    exact na k h1 h2
   exact na k h1 h2
theorem aj.bU.Lu(h:s.bU):Ha s.Heap:=⟨h.small.heap,h.bA⟩
theorem aj.bU.ID(h:s.bU)(a:i<s.ab.length):C2 s.ab[i]:=⟨h.small.each _ (Pf a),h.av _ (Pf a)⟩
theorem qE(h:s.small)(i:Nat){p:Heap×aO}(b:Ha p.1)(d:C2 p.2):(aZ s i p).small:=by
 refine⟨h.words,b.small,by simp only[aZ,List.length_set];exact h.aV,λc a=>?_⟩;rcases Pu a with a|rfl
 ·exact h.each c a
 exact d.small
variable {Hc:List da} {p:α -> Bool}
theorem eK{l:List α}(h:l.any p=true):∃(i:Nat)(d:i<l.length),p l[i]=true∧(∀(j:Nat)(b:j<l.length),j<i->p l[j]=false)∧idxOf p l=(i:Int):=by
 have a:l.findIdx p<l.length:=List.findIdx_lt_length_of_exists (by grind);exact⟨l.findIdx p,a,List.findIdx_getElem (w:=a),λj b c=>by grind,by unfold idxOf<;>grind⟩
noncomputable def ga(s:aj)(n:ByteArray)(cpu:Int):Int:=if ef s then(if s.ab.any (c9 n)then(if 0<=cpu∧cpu<s.Heap.bl then 0 else 1)else 4)else 8
theorem F3(h:ef s=false):ga s n cpu=8:=by simp[ga,h]
theorem F4(h:ef s=true)(a:s.ab.any (c9 n)=false):ga s n cpu=4:=by simp_all[ga,Bool.false_eq_true]
theorem F5(h:ef s=true)(a:s.ab.any (c9 n)=true)(b:¬(0<=cpu∧cpu<s.Heap.bl)):ga s n cpu=1:=by simp_all[ga,if_neg]
theorem F6(h:ef s=true)(a:s.ab.any (c9 n)=true)(b:0<=cpu∧cpu<s.Heap.bl):ga s n cpu=0:=by simp_all[ga]
theorem jj(h:ga s n cpu=0):ef s=true∧s.ab.any (c9 n)=true∧0<=cpu∧cpu<s.Heap.bl:=by
 unfold ga at h<;>grind
def M1(lo:Nat)(s:aj)(n:ByteArray)(cpu:Int)(v:Value)(w:World):Prop:=
 (ga s n cpu≠0∧v= .tuple #[.agg (ar .zero).toArray,Iv 0,Iv (ga s n cpu)])∨
 (ga s n cpu=0∧∃q cs,v= .tuple #[.agg (ar q).toArray,Iv (idxOf (c9 n) s.ab),Iv 0]∧SX w lo q s cs∧SI w lo q s cs)
theorem mF{p:Heap×aO}:(aZ s i p).ab.length=s.ab.length:=PS
theorem jk(a:i<s.ab.length):aZ s i (s.Heap,s.ab[i])=s:=by
 simp_all[aZ]
section
variable {w w':World}{lo:Nat}{r:cc}{s:aj}{cs:List da}{i:Nat}{p:Heap×aO}
theorem nM.rows(h:SX w lo r (aZ s i p) cs):cs.length=s.ab.length∧r.ab.n=s.ab.length:=by
 have a:=h.row.len;have b:=h.each.len;grind[mF]
theorem nM.get(h:SX w lo r (aZ s i p) cs)(a:i<cs.length)(b:i<s.ab.length):lf w lo cs[i] p.2:=by
 have:=h.each.get i a (by rw[mF];grind)
 grind[aZ]
theorem nM.C5(h:SX w lo r (aZ s i p) cs)(b:i<cs.length)(a:i<s.ab.length)(c:Own w' lo 60 3 bG cs[i].ae.A n' cs[i].ae.c l')(d:w.grownBy w' (aN cs[i].ae.A cs[i].ae.c)):
 nM w' lo r (aZ s i (p.1,⟨p.2.Names,p.2.ax,p.2.bd,p.2.Order,l',p.2.ao⟩)) cs (cs.set i ⟨cs[i].Names,cs[i].ax,cs[i].bd,cs[i].Order,⟨cs[i].ae.A,n',cs[i].ae.c⟩,cs[i].ao⟩):=by
 have:=h.av b (by rw[mF];exact a) c d;simpa[aZ]using this
theorem nM.L0{b:List ByteArray}(h:SX w lo r (aZ s i p) cs)(c:i<cs.length)(a:i<s.ab.length)(d:Own w' lo 9 1 encStr cs[i].Names.A n' cs[i].Names.c b)(e:w.grownBy w' (aN cs[i].Names.A cs[i].Names.c)):
 nM w' lo r (aZ s i (p.1,⟨b,p.2.ax,p.2.bd,p.2.Order,p.2.ae,p.2.ao⟩)) cs (cs.set i ⟨⟨cs[i].Names.A,n',cs[i].Names.c⟩,cs[i].ax,cs[i].bd,cs[i].Order,cs[i].ae,cs[i].ao⟩):=by
 have:=h.names c (by rw[mF];exact a) d e;simpa[aZ]using this
theorem nM.sy{c':Nat}(h:SX w lo r (aZ s i p) cs)(a:lo<=w.heap.size)(c:i<cs.length)(b:i<s.ab.length)(d:Ext w w')(e:Own w' w.heap.size 60 3 bG A' n' c' l'):
 nM w' lo r (aZ s i (p.1,⟨p.2.Names,p.2.ax,p.2.bd,p.2.Order,l',p.2.ao⟩)) cs (cs.set i ⟨cs[i].Names,cs[i].ax,cs[i].bd,cs[i].Order,⟨A',n',c'⟩,cs[i].ao⟩):=by
 have:=h.Kt a c (by rw[mF];exact b) d e;simpa[aZ]using this
theorem nM.EC{a:List Int}(h:SX w lo r (aZ s i p) cs)(c:SI w lo r (aZ s i p) cs)(d:i<cs.length)(b:i<s.ab.length)(e:Own w' lo 3 1 aT cs[i].ao.A cs[i].ao.n cs[i].ao.c a)(f:w.grownBy w' (aN cs[i].ao.A cs[i].ao.c)):
 SX w' lo r (aZ s i (p.1,⟨p.2.Names,p.2.ax,p.2.bd,p.2.Order,p.2.ae,a⟩)) cs∧SI w' lo r (aZ s i (p.1,⟨p.2.Names,p.2.ax,p.2.bd,p.2.Order,p.2.ae,a⟩)) cs:=by
 have:=h.aD c d (by rw[mF];exact b) e f;simpa[aZ]using this
theorem nM.KB{H:fB}{h':Heap}(h:nM w lo r (aZ s i p) Hc cs)(a:ik w lo H h'):nM w lo ⟨r.Words,H,r.ab⟩ (aZ s i (h',p.2)) Hc cs:=⟨h.words,a,h.row,h.each,h.pair⟩
end
variable {pg:List Int}
theorem xV{y:aC}(d:uk L)(e:bW L y=false):uk (aP L (aW L y) y):=by
 have a:=d;unfold uk at a⊢;rw[<-Pz (aW L y) L,PN]at a;obtain⟨g,i,k⟩:=a
 have l:∀z∈L.take (aW L y),cd z y:=λz b=>by
  obtain⟨j,c,rfl⟩:=Pg b;rw[P3]at c;grind[List.length_take,pf]
 have m:∀z∈L.drop (aW L y),cd y z:=λz b=>by
  obtain⟨j,c,rfl⟩:=Pg b;rw[QF]at c;rw[P8];have h:=G4 e Y;rcases Ps j with rfl|f
  ·exact h
  exact u9 h (d.get (show aW L y+j<L.length by omega) Y)
 unfold aP<;>grind
section
variable {L:List aC}{x:aC}{pg:List Int}
theorem ln:dT x (dH x pg):=⟨Z,Z,Z⟩
theorem lp:jx L x []=L:=by simp[jx]
theorem oI(a:bW L x=false)(b:pg≠[]):jx L x pg=aP L (aW L (dH x pg)) (dH x pg):=by
 rw[jx,if_neg b,qj (by rw[<-(ju (L:=L) (ln (x:=x) (pg:=pg))).2];exact a)]
theorem C7(c:uk L)(a:bW L x=false):uk (jx L x pg):=by
 by_cases b:pg=[]
 ·subst b<;>grind[lp]
 rw[oI a b];exact xV c (by rw[<-(ju (L:=L) (ln (x:=x) (pg:=pg))).2];exact a)
theorem BS(c:bW L x=false):∀l∈jx L x pg,l∈L∨l=dH x pg:=λl a=>by
 by_cases b:pg=[]
 ·subst b<;>grind[lp]
 rw[oI c b]at a;unfold aP at a<;>grind
theorem BU(a:bW L x=false):(jx L x pg).length<=L.length+1:=by
 by_cases b:pg=[]<;>grind[lp,oI,bT,jg]
theorem F8(i:bW L x=false)(a:Int):fZ (jx L x pg) ⟨x.ep,x.ap,x.Ty,bZ (jx L x pg) x++[a]⟩=jx L x (pg++[a]):=by
 have c:pg++[a]≠[]:=by simp
 by_cases g:pg=[]
 ·subst g;rw[lp,iP i,jx,if_neg c];rfl
 have e:jx L x pg=fZ L (dH x pg):=by rw[jx,if_neg g]
 obtain⟨j,m⟩:=ju (L:=fZ L (dH x pg)) (ln (x:=x) (pg:=pg));obtain⟨h,n⟩:=DV (L:=L) (x:=dH x pg);obtain⟨k,d⟩:=PF.1 (wU (L:=L) (x:=dH x pg))
 have f:bZ (fZ L (dH x pg)) x=pg:=by
  rw[fk (by grind) Y];simp only[j,h,d]
  rfl
 rw[e,f,jx,if_neg c];have b:dT (dH x pg) (⟨x.ep,x.ap,x.Ty,pg++[a]⟩:aC):=⟨Z,Z,Z⟩;obtain⟨l,o⟩:=ju (L:=fZ L (dH x pg)) b;rw[qi (by grind),<-l,h];exact DW b
end
theorem KF{x:aC}(h:1<pg.length):rG L x pg=L.set (aW L x) (dH x pg.dropLast):=by simp_all[rG,if_neg]
theorem F9{x:aC}(h:pg.length=1):rG L x pg=L.eraseIdx (aW L x):=by simp_all[rG]
theorem xW{l:List Int}(h:l≠[])(a:i<l.length)(e:i=l.length-1):l.getLast h=l[i]:=by
 grind
theorem IR(k:HK)(p:HP)(s:ap×ap)(L:List aC)(bs:List Block)(b:Block)(A w:World)(H:HS A w k p s L)(B:oy s bs)(K:nG bs b):
 jX prog 147 [.pointer (some ⟨k.b,0,none⟩),Iv b.At,Iv b.Order] w λv j=>∃p',p'.li=p.li∧p'.ls=p.ls∧HS A j k p' (eI s b) L∧nX w k p j p':=by
 refine c8 func147 rfl ntmps147 rfl ?_;have d:=Ext.refl w;have C:=H;have M:=H.zs.z0.kW;obtain⟨E,F,N,O⟩:=kM H.zs.z0 B.kD;obtain⟨G,I,P,Q⟩:=kM H.zs.z1 B.j8;have R:=H.zs.row.sl.base;have q:∀j,Sl j 4 bu (some ⟨k.g,0,none⟩) 2 [p.u0,p.u1]->aS prog 157 [.agg (bg (k.h p)).toArray,Iv b.At] j λv _=>v=Iv (if b.At<p.u0.To then 0 else 1):=λj h=>uB (k.h p) p.u0 p.u1 b.At j h;by_cases D:b.At<p.u0.To
 ·have r:eI s b=l9 s ((0:Nat):Int) (eX s.1 b.At b.Order).2:=by unfold eI;rw[if_pos Y];simp[l9]
  simp only[if_pos D]at q;have l:0<2:=Y;repeat'(first|refine Wz ?_|refine Wm ((λ_ _=>H.dm.cell)) ?_|(refine Wc (q _ H.zs.row.sl) λt c=>?_;obtain⟨d,H⟩:=bk c d H))
  refine CW.iF 19 19 (λ_=>True) mixed bm λt c a=>?_;obtain⟨d,H⟩:=bk c d H;refine Wp 0 [] [] a Z Z ?_;refine Wt 1 [] [] a Z (aX Z) ?_;refine Wt 2 [] [] a Z (aI Z) ?_;refine Wt 3 [] [] a Z (aJ Z (H.dm.cell Z)) ?_;refine Wp 4 [] [] a Z Z ?_;refine Wp 5 [] [] a Z Z ?_;refine Wt 6 [] [] a Z (aX Z) ?_;refine Wt 7 [] [] a Z (aI Z) ?_;refine Wt 8 [] [] a Z (aJ Z (H.dm.cell Z)) ?_;refine Wp 9 [] [] a Z Z ?_;refine Wt 10 [] [] a Z (bO Z Z ig Y) ?_;refine Wt 11 [] [] a Z (cv Z Z ((H.zs.row.sl.all l))) ?_;refine Wp 12 [] [] a Z Z ?_;refine Wp 13 [] [] a Z Z ?_;refine SF.bD 14 ?_;refine Wk (oq p.u0 s.1 b.At b.Order _ H.zs.z0.rd E F ⟨by omega,by omega⟩ ⟨by omega,by omega⟩) λv J g u=>?_;obtain⟨m,rfl,f⟩:=u;have f:=f.low d.size;obtain⟨d,H⟩:=bk g d H;refine SW.nil (ah.sf g ?_);refine Wp 15 [] [] a Z Z ?_;refine Wp 16 [] [] a Z Z ?_;refine SF.gm 17 a Z bm bm Z (λ_=>aH Z) Z ?_;refine Wt 18 [] [] a Z (bO Z Z ig Y) ?_;refine SF.dQ ?_;refine SW.iT (enc:=bu) 0 m H.zs.row Z Z l λx n o=>?_;rw[H.zs.own]at o;have y:=HS.IM C H l n o f;have z:nX w k p x (nf p 0 m):=((nX.refl w k p).ext d).step o (λi e=>by cases e;exact .inl (.inr (.inl Z))) (λi e=> .inl (uN.1 e));refine Wz ?_;exact ah.vG Z ⟨_,Z,nf p 0 m,mq.1,mq.2,by rw[r];exact y,z⟩
 have r:eI s b=l9 s ((1:Nat):Int) (eX s.2 b.At b.Order).2:=by unfold eI;rw[if_neg Y];simp[l9]
 simp only[if_neg D]at q;have l:1<2:=Y;repeat'(first|refine Wz ?_|refine Wm ((λ_ _=>H.dm.cell)) ?_|(refine Wc (q _ H.zs.row.sl) λt c=>?_;obtain⟨d,H⟩:=bk c d H))
 refine CW.iF 19 19 (λ_=>True) mixed bm λt c a=>?_;obtain⟨d,H⟩:=bk c d H;refine Wp 0 [] [] a Z Z ?_;refine Wt 1 [] [] a Z (aX Z) ?_;refine Wt 2 [] [] a Z (aI Z) ?_;refine Wt 3 [] [] a Z (aJ Z (H.dm.cell Z)) ?_;refine Wp 4 [] [] a Z Z ?_;refine Wp 5 [] [] a Z Z ?_;refine Wt 6 [] [] a Z (aX Z) ?_;refine Wt 7 [] [] a Z (aI Z) ?_;refine Wt 8 [] [] a Z (aJ Z (H.dm.cell Z)) ?_;refine Wp 9 [] [] a Z Z ?_;refine Wt 10 [] [] a Z (bO Z Z ig Y) ?_;refine Wt 11 [] [] a Z (cv Z Z ((H.zs.row.sl.all l))) ?_;refine Wp 12 [] [] a Z Z ?_;refine Wp 13 [] [] a Z Z ?_;refine SF.bD 14 ?_;refine Wk (oq p.u1 s.2 b.At b.Order _ H.zs.z1.rd G I ⟨by omega,by omega⟩ ⟨by omega,by omega⟩) λv J g u=>?_;obtain⟨m,rfl,f⟩:=u;have f:=f.low d.size;obtain⟨d,H⟩:=bk g d H;refine SW.nil (ah.sf g ?_);refine Wp 15 [] [] a Z Z ?_;refine Wp 16 [] [] a Z Z ?_;refine SF.gm 17 a Z bm bm Z (λ_=>aH Z) Z ?_;refine Wt 18 [] [] a Z (bO Z Z ig Y) ?_;refine SF.dQ ?_;refine SW.iT (enc:=bu) 1 m H.zs.row Z Z l λx n o=>?_;rw[H.zs.own]at o;have y:=HS.IM C H l n o f;have z:nX w k p x (nf p 1 m):=((nX.refl w k p).ext d).step o (λi e=>by cases e;exact .inl (.inr (.inl Z))) (λi e=> .inl (uN.1 e));refine Wz ?_;exact ah.vG Z ⟨_,Z,nf p 1 m,mq.1,mq.2,by rw[r];exact y,z⟩
theorem HS.drop{k:HK}{p:HP}{s:ap×ap}(h:HS wb w k p s L)(hb:ay w' k.b 34 (bg (k.h ⟨p.u0,p.u1,.nil,[]⟩)))(b:w.grownBy w' (some k.b)):HS wb w' k ⟨p.u0,p.u1,.nil,[]⟩ s []:=by
 have a:=h.dm.gr b;exact⟨hb,h.zs.aQ a Z,h.cx.aQ a Z,h.live.aQ a Z,dw.nil _ _,tc.nil _ _,h.sf,h.KG,h.base.own h.KG b⟩
theorem IS{k:HK}{p:HP}(h:ka k ⟨p.u0,p.u1,.nil,[]⟩ i):ka k p i:=by
 rcases h with h|h|h|⟨z,a,h⟩
 ·exact .inl h
 ·exact .inr (.inl h)
 ·cases h
 grind
theorem Gc(k:HK)(p:HP)(h:Heap)(l m:ap)(Q:me h l m)(R:h.small)(x w:World)(H:HS x w k p (l,m) h.ak):
 jX prog 73 [.pointer (some ⟨k.b,0,none⟩)] w λv b=>∃p',HS x b k p' (bp (l,m) (aM h.ak)) []∧nX w k p b p':=by
 refine c8 func73 rfl ntmps73 rfl ?_;have z:=Ext.refl w;have za:=H.ls.rd.len;have s4:=R.lists;have I:=H.ls.row.sl.base;repeat'(first|refine Wz ?_|refine Wl (H.dm.cell rfl) ?_)
 refine CW.loop (λt:Nat×HP=>[(0,.pointer (some ⟨k.b,0,none⟩)),(9,.slice p.li.A p.li.n p.li.c),(10,Iv (p.li.n:Int)),(11,Iv (t.1:Int))])
  (λt b=>t.1<=p.li.n∧t.2.li=p.li∧t.2.ls=p.ls∧HS x b k t.2 (iz h l m (iG h.ak t.1)) h.ak∧nX w k p b t.2) (λt=>p.li.n-t.1) (0,p)
  ⟨rfl,rfl,rfl,rfl,trivial⟩ ⟨by omega,rfl,rfl,by simpa[iz,iG,aM,bp]using H,nX.refl _ _ _⟩ ?_
 rintro⟨i,A⟩ w ⟨hi,r,d,H,n⟩;simp only at hi r d H n⊢;have z:=Ext.refl w;have f:Sl w 4 fj p.li.A p.li.n p.ls:=by have:=H.ls.row.sl;rwa[r,d]at this
 have hA:=f.base;by_cases J:i<p.li.n
 ·have g:i<h.ak.length:=Y;have c:i<p.ls.length:=Y
  have K:h.ak[i].aq.length=(p.ls[i]'c).aq.n:=by
   have:=(H.ls.each.get i (by rw[d];exact c) g).bt.len;simpa only[d]using this
  have zb:=R.bt _ (Pf g);obtain⟨y,S⟩:=bq (p.ls[i]'c);have a:=f.all J;rw[S]at a K;repeat'(first|refine Wz ?_|refine Wm a ?_)
  refine Wr (gG.one (enc:=fj) _) λb3 w2 o u L=>?_;have B:w.heap.size<=b3:=Pj z.size u;replace z:=Ext.trans z o;replace H:=H.ext o;replace n:=n.ext o
  have C:∀(b:World)(q:HP)(s:ap×ap),q.ls=p.ls->HS x b k q s h.ak->Own b x.heap.size 3 1 aT y.aq.A y.aq.n y.aq.c h.ak[i].aq:=λb q s T hh=>by
   have:=(hh.ls.each.get i (by rw[T];exact c) g).bt;simpa only[T,S]using this
  have D:=C _ A _ d H;have E:=D.sl.base;repeat'(first|refine Wz ?_|fail)
  refine CW.loop (λt:Nat×HP=>[(0,.pointer (some ⟨k.b,0,none⟩)),(9,.slice p.li.A p.li.n p.li.c),(10,Iv (p.li.n:Int)),(11,Iv (i:Int)),(16,.slice y.aq.A y.aq.n y.aq.c),(17,Iv (y.aq.n:Int)),(18,Iv (t.1:Int))])
   (λt b=>t.1<=y.aq.n∧t.2.li=p.li∧t.2.ls=p.ls∧HS x b k t.2 (iz h l m (iG h.ak i+t.1)) h.ak∧nX _ k p b t.2) (λt=>y.aq.n-t.1) (0,A)
   ⟨Z,Z,Z,Z,Z,Z,Z,trivial⟩ ⟨by omega,r,d,H,n⟩ ?_
  rintro⟨j,A⟩ b ⟨hj,r,d,H,n⟩;simp only at hj r d H n⊢;have z:=Ext.refl b;have D:=C _ A _ d H;have E:=D.sl.base;by_cases M:j<y.aq.n
  ·have N:j<h.ak[i].aq.length:=Y;obtain⟨U,O⟩:=th g N;have V:=Q.next U;have hD:=Q.inv (iG h.ak i+j) Y;have W:=kJ (l,m) (aM h.ak) _ U;rw[O]at V W;have P:iz h l m (iG h.ak i+(j+1))=eI (iz h l m (iG h.ak i+j)) (bC h.ak[i].aq[j]):=W;repeat'(first|refine Wz ?_|refine Wl (D.sl.one M Z) ?_)
   refine SW.cm Z Z (IR k A _ h.ak _ (bC h.ak[i].aq[j]) x _ H hD V) λv w5 hv=>?_;obtain⟨p2,e3,e4,H5,K5⟩:=hv;repeat'(first|refine Wz ?_|fail);refine ah.again (j+1,p2) ⟨Z,Z,Z,Z,Z,Z,Z,trivial⟩ dD ⟨by simp only;omega,e3.trans r,e4.trans d,?_,n.trans K5⟩;simp only;rw[P];exact H5
  have ej:iG h.ak i+j=iG h.ak (i+1):=by rw[tg g];omega
  rw[ej]at H;repeat'(first|refine Wz ?_|fail);exact ah.again (i+1,A) ⟨Z,Z,Z,Z,trivial⟩ dD ⟨by simp only;omega,r,d,H,n⟩
 have ei:i=h.ak.length:=Y
 have F:iz h l m (iG h.ak i)=bp (l,m) (aM h.ak):=by
  rw[ei,v3,iz,Pl (Ph _)]
 rw[F]at H;repeat'(first|refine Wz ?_|fail);refine SW.mJ (i:=3) H.dm Z Z Z Z λw6 G X=>?_;have H6:=H.drop G X;have K6:=n.step X (λi e=>by cases e;exact .inl (.inl Z)) (λi e=> .inl (IS e));repeat'(first|refine Wz ?_|fail);exact ah.vG Z ⟨_,Z,_,H6,K6⟩
theorem iE.nO{h:Heap}(f:iE h z0 z1)(q:a=(i:Int))(k:ed (z0.ai++z1.ai++aM h.ak) i=true):∀b∈h.Live,b.At≠a:=λb hb e=>by
 obtain⟨l,m,n⟩:=List.append_of_mem hb;have c:=f.all;rw[n,<-Po]at c;have o:=pe c;obtain⟨j,p,rfl⟩:=Pg hb;have d:=(f.live.each j p).1;have r:=bP d.1 d.2;obtain⟨_,_,s⟩:=o;unfold ed at k;rw[Pn]at k;obtain⟨y,t,g⟩:=k;unfold rf at g;rw[PT,decide_eq_true_eq,decide_eq_true_eq]at g
 have:gQ (z0.ai++z1.ai++aM h.ak++l) h.Live[j].At h.Live[j].Order=true:=by
  unfold gQ<;>grind
 grind
theorem oJ(b:bV z){x:Block}(c:x∈z.ai):∃i:Nat,x.At=(i:Int)∧i<256∧ed z.ai i=true:=by
 obtain⟨j,d,rfl⟩:=Pg c;have a:=(b.dm j d).1;have e:=b.ok;obtain⟨f,g,h,k,l⟩:=e;have m:=bP a.1 a.2.1;obtain⟨n,o,p,q,r⟩:=a;refine⟨z.ai[j].At.toNat,by omega,by omega,?_⟩;unfold ed;rw[Pn];refine⟨_,c,?_⟩;unfold rf<;>grind
theorem lq{h:Heap}(f:iE h z0 z1)(k:xU (z0,z1) h.ak a):∃i:Nat,a=(i:Int)∧i<256∧ed (z0.ai++z1.ai++aM h.ak) i=true:=by
 rcases k with⟨x,b,rfl⟩|⟨x,b,rfl⟩|⟨l,p,q⟩
 ·obtain⟨i,c,m,n⟩:=oJ f.d.kD b<;>grind[oJ,kx]
 ·obtain⟨i,c,m,n⟩:=oJ f.d.j8 b<;>grind[oJ,kx]
 have d:bC a∈aM h.ak:=by
  unfold aM<;>grind
 obtain⟨j,o,e⟩:=Pg d;have g:=f.d.next o;rw[e]at g;have c:=g.at_;simp only[bC]at c;refine⟨a.toNat,by omega,by omega,?_⟩;rw[kx]
 have:ed (aM h.ak) a.toNat=true:=by
  unfold ed;rw[Pn];refine⟨_,d,?_⟩;unfold rf;rw[PT,decide_eq_true_eq,decide_eq_true_eq];have:pw 0=1:=by decide
  change a<=_∧_<a+pw 0
  omega
 grind
theorem dN{h:Heap}(d:me h z0 z1):oy (bp (z0,z1) (aM h.ak)) (z0.ai++z1.ai++aM h.ak):=by
 have:=d.inv (aM h.ak).length (Ph _);grind
theorem ku{h:Heap}(f:iE h z0 z1)(j:xU (bp (z0,z1) (aM h.ak)) [] a):∃i:Nat,a=(i:Int)∧i<256∧ed (z0.ai++z1.ai++aM h.ak) i=true:=by
 have b:=dN f.d;rcases j with⟨x,c,rfl⟩|⟨x,c,rfl⟩|⟨l,k,m⟩
 ·obtain⟨i,d,e,g⟩:=oJ b.kD c;exact⟨i,d,e,by rw[<-b.G0,g];rfl⟩
 ·obtain⟨i,d,e,g⟩:=oJ b.j8 c;exact⟨i,d,e,by rw[<-b.G0,g];simp⟩
 grind
theorem xX{h:Heap}(f:iE h z0 z1):h.Live.length<=256:=by
 have d:=jh f.live;rw[Pq]at d
 have a:∀(i:Nat)(c:i<h.Live.length),(i:Int)<=h.Live[i].At:=by
  intro i;induction i with
  | zero=>intro c;have:=(f.next c).at_;grind
  | succ i e=>grind
 rcases PJ 256 h.Live.length with b|b
 ·have g:=a 256 b;have j:=(f.next b).at_;omega
 omega
theorem cX(r:cc)(s:aj)(w:World)(hr:mB w r s)(hs:s.small):
 aS prog 39 [.agg (ar r).toArray] w λv E=>∃q zr,v= .agg (ar q).toArray∧SX E w.heap.size q s zr∧SI E w.heap.size q s zr:=by
 refine Wj func39 ntmps39 ?_;refine Ww λb1 w1 n zD e=>?_;refine SW.alloc Z λb2 w2 zv zo f=>?_;have zE:=n.up zo;have zF:b2≠b1:=by have:=e.lt;omega
 obtain⟨n,e⟩:=bk zv n e;obtain⟨cs,hc⟩:=hr.aV;have zG:=hr.words.len;have s1:=hs.words;have s3:=hs.aV;obtain⟨c1,c2⟩:=hc.len;refine Wz ?_
 obtain⟨K,hK⟩:∃K:Env->World->Prop,K=λL' E=>∃X c1 G O m1 J,eA L' [(1,Pt b1),(2,Pt b2),(3,Pt O)]∧Ext w E∧ay E b1 37 (ar r)∧ay E b2 37 (ar .zero)∧
  ay E O 37 (ar ⟨⟨X,r.Words.n,c1⟩,G,.nil⟩)∧Own E w.heap.size 3 1 aT X r.Words.n c1 s.Words∧gh E m1 J G s.Heap∧(w.heap.size<=m1∧m1<=J∧J<=E.heap.size∧∀g,aN X c1=some g->g<m1)∧w.heap.size<=O∧b1≠O∧b2≠O:=⟨_,Z⟩
 refine CW.cut K ?_ ?_
 ·focus
   refine CW.any 8 mixed (cy bm) Z λw1 zb zw=>?_;obtain⟨n,e,f⟩:=aY zb n e f;refine Wa ?_;refine Wu 4 zw Z (cv Z Z ((e7 e))) ?_;refine SA.two 2 7 Z Z bm Z Z ?_ ?_
   focus
    refine Wk (iM _ _ _ _ _ (hr.words.ext n) Y) λv w4 l hv=>?_;obtain⟨X,c4,rfl,y⟩:=hv;have y:=y.low n.size;obtain⟨n,e,f⟩:=aY l n e f;try have o:=o.ext l
    refine SW.nil (ah.sa l ?_);refine SA.two 5 7 Z Z bm Z Z ?_ ?_
    focus
     refine Wk (jY _ _ _ (hr.heap.ext n) hs.heap) λv w4 l hv=>?_;obtain⟨G,rfl,z⟩:=hv;have zc:∃m1 J,w.heap.size<=m1∧m1<=J∧J<=w4.heap.size∧(∀g,aN X c4=some g->g<m1)∧gh w4 m1 J G s.Heap:=⟨_,_,n.size,l.size,Ph _,y.lt_size,z.kQ⟩;obtain⟨m1,J,P,F,R,zd,z⟩:=zc;obtain⟨y,n,e,f⟩:=cG l y n e f;try have o:=o.ext l
     refine SW.nil (ah.sa l ?_);refine Wa ?_;refine SA.bD 7 ?_;refine SW.alloc Z λO w4 l S o=>?_;have T:=n.up S;try have R:=Pj R l.size
     have U:b1≠O:=by have:=e.lt;omega
     have V:b2≠O:=by have:=f.lt;omega
     obtain⟨n,e,f⟩:=aY l n e f;try have y:=y.ext l
     try have z:=z.ext l
     refine SW.nil (ah.sa l ?_)
    rotate_left
    focus
     refine SW.alloc Z λO w4 l S o=>?_;have T:=n.up S;try have R:=Pj R l.size
     have U:b1≠O:=by have:=e.lt;omega
     have V:b2≠O:=by have:=f.lt;omega
     obtain⟨n,e,f⟩:=aY l n e f;try have y:=y.ext l
     try have z:=z.ext l
     refine SW.nil (ah.sa l ?_);refine SA.bD 5 ?_;refine Wk (jY _ _ _ (hr.heap.ext n) hs.heap) λv w4 l hv=>?_;obtain⟨G,rfl,z⟩:=hv;have zc:∃m1 J,w.heap.size<=m1∧m1<=J∧J<=w4.heap.size∧(∀g,aN X c4=some g->g<m1)∧gh w4 m1 J G s.Heap:=⟨_,_,n.size,l.size,Ph _,y.lt_size,z.kQ⟩;obtain⟨m1,J,P,F,R,zd,z⟩:=zc;obtain⟨y,n,e,f⟩:=cG l y n e f;try have o:=o.ext l
     refine SW.nil (ah.sa l ?_);refine Wa ?_
    rotate_left
   rotate_left 2
   focus
    refine SW.alloc Z λO w4 l S o=>?_;have T:=n.up S;try have R:=Pj R l.size
    have U:b1≠O:=by have:=e.lt;omega
    have V:b2≠O:=by have:=f.lt;omega
    obtain⟨n,e,f⟩:=aY l n e f;try have y:=y.ext l
    try have z:=z.ext l
    refine SW.nil (ah.sa l ?_);refine SA.bD 2 ?_;refine Wk (iM _ _ _ _ _ (hr.words.ext n) Y) λv w4 l hv=>?_;obtain⟨X,c4,rfl,y⟩:=hv;have y:=y.low n.size;obtain⟨n,e,f⟩:=aY l n e f;try have o:=o.ext l
    refine SW.nil (ah.sa l ?_);refine SA.bD 5 ?_;refine Wk (jY _ _ _ (hr.heap.ext n) hs.heap) λv w4 l hv=>?_;obtain⟨G,rfl,z⟩:=hv;have zc:∃m1 J,w.heap.size<=m1∧m1<=J∧J<=w4.heap.size∧(∀g,aN X c4=some g->g<m1)∧gh w4 m1 J G s.Heap:=⟨_,_,n.size,l.size,Ph _,y.lt_size,z.kQ⟩;obtain⟨m1,J,P,F,R,zd,z⟩:=zc;obtain⟨y,n,e,f⟩:=cG l y n e f;try have o:=o.ext l
    refine SW.nil (ah.sa l ?_);refine Wa ?_
   rotate_left
   all_goals
    refine SA.fH ?_;skip;refine Wg o (aB ⟨⟨X,r.Words.n,c4⟩,G,.nil⟩) λw5 zl D=>?_;have hG:=o.gr D;have ze:=Pj R D.size;have n:=n.own T D;obtain⟨y,z⟩:=bk hG y z;have e:=e.grown D (by simpa using U);have f:=f.grown D (by simpa using V);refine Wz ?_;exact ah.cut (K:=K) (by rw[hK];exact⟨X,c4,G,O,m1,J,⟨Z,Z,Z,trivial⟩,n,e,f,zl,y,z,⟨P,F,ze,zd⟩,T,U,V⟩)
 subst hK;rintro L' E ⟨X,c4,G,O,m1,J,zk,n,e,f,o,y,z,⟨P,F,ze,zd⟩,T,U,V⟩;refine ah.sub zk ?_;refine Wz ?_
 refine CW.loop (λs:Nat×Option Addr×Nat×List da=>[(1,Pt b1),(2,Pt b2),(3,Pt O),(4,Iv (s.1:Int))])
  (λt E=>t.1<=r.ab.n∧J<=E.heap.size∧Ext w E∧ay E b1 37 (ar r)∧ay E b2 37 (ar .zero)∧ay E O 37 (ar ⟨⟨X,r.Words.n,c4⟩,G,⟨t.2.1,t.1,t.2.2.1⟩⟩)∧Own E w.heap.size 3 1 aT X r.Words.n c4 s.Words∧gh E m1 J G s.Heap∧
    dJ E J ⟨t.2.1,t.1,t.2.2.1⟩ t.2.2.2 (s.ab.take t.1)∧uK ⟨X,r.Words.n,c4⟩ t.2.2.2) (λt=>r.ab.n-t.1) (0,none,0,[]) ⟨Z,Z,Z,Z,trivial⟩ ⟨by omega,ze,n,e,f,o,y,z,dJ.nil _ _,uK.nil _⟩ ?_
 rintro⟨k,A,c,zr⟩ E ⟨hk,ze,n,e,f,o,y,z,C,zm⟩;simp only at hk o C zm⊢;have hA:=hc.row.base;by_cases zx:k<r.ab.n
 ·have zy:k<cs.length:=Y;have zp:k<s.ab.length:=Y;have N:=hc.each.get k zy zp;have q:=hs.each _ (Pf zp);have q1:=N.names.len;have q2:=N.av.len;have q3:=N.aD.len;have q4:=q.names;have q5:=q.av;have q6:=q.aD;have zf:=C.row.lt_size;repeat'(first|refine Wz ?_|refine Wo n ((hc.row.all zx)) ?_)
  refine Wr (ox _) λb5 w2 l W p=>?_;have zg:=n.up W;obtain⟨n,e,f,o,y,z,C⟩:=iX l n e f o y z C;have zh:J<=b5:=Pj ze W;refine Wz ?_;have zq:Ext w w2:=n
  refine CW.loop (λt:Nat×Option Addr×Nat=>[(1,Pt b1),(2,Pt b2),(3,Pt O),(4,Iv (k:Int)),(5,Pt b5),(6,.slice t.2.1 t.1 t.2.2),(7,Iv (t.1:Int))])
   (λt E=>t.1<=cs[k].Names.n∧Ext w2 E∧Own E w2.heap.size 9 1 encStr t.2.1 t.1 t.2.2 (s.ab[k].Names.take t.1)) (λt=>cs[k].Names.n-t.1) (0,none,0) ⟨Z,Z,Z,Z,Z,Z,Z,trivial⟩ ⟨by omega,Ext.refl _,by simpa using Own.cq _ _ _ _ _ _⟩ ?_
  rintro⟨j,B,d⟩ w3 ⟨hj,n,H⟩;simp only at hj H⊢;have zH:=N.names.base;by_cases zn:j<cs[k].Names.n
  ·repeat'(first|refine Wz ?_|refine Wn n (p.cell (i:=0) (v:= .slice cs[k].Names.A cs[k].Names.n cs[k].Names.c) Z) ?_|refine Wn n ((N.names.ext zq).one zn Z) ?_)
   refine SW.bz Z Z Z Z Z λb w1 zb hb zi=>?_;obtain⟨n,H⟩:=bk zb n H;refine SW.append H (ay.la (enc:=encStr) zi) n.size Z Z Z Y Y λA2 c2 w4 za D=>?_;have n:=au n D (Ph _) H.az;refine Wz ?_;refine ah.again (j+1,A2,c2) ⟨Z,Z,Z,Z,Z,Z,Z,trivial⟩ dD ⟨by simp only;omega,n,?_⟩;rw[Pk Y];exact za
  obtain rfl:j=cs[k].Names.n:=Y;rw[Pl Y]at H;repeat'(first|refine Wz ?_|refine Wn n (p.cell (i:=0) (v:= .slice cs[k].Names.A cs[k].Names.n cs[k].Names.c) Z) ?_)
  have zj:=n;have zz:=C.Of (b:=⟨B,cs[k].Names.n,d⟩) H.az;have H:=H.low (Pj zh (PR p.lt));have n:=zq;obtain⟨n,e,f,o,p,y,z,C⟩:=nS zj n e f o p y z C;have zs:Ext w w3:=n
  refine CW.loop (λt:Nat×Option Addr×Nat=>[(1,Pt b1),(2,Pt b2),(3,Pt O),(4,Iv (k:Int)),(5,Pt b5),(6,.slice B cs[k].Names.n d),(8,.slice t.2.1 t.1 t.2.2),(9,Iv (t.1:Int))])
   (λt E=>t.1<=cs[k].ae.n∧Ext w3 E∧Own E w3.heap.size 60 3 bG t.2.1 t.1 t.2.2 (s.ab[k].ae.take t.1)) (λt=>cs[k].ae.n-t.1) (0,none,0) ⟨Z,Z,Z,Z,Z,Z,Z,Z,trivial⟩ ⟨by omega,Ext.refl _,by simpa using Own.cq _ _ _ _ _ _⟩ ?_
  rintro⟨j,M,m⟩ w4 ⟨hj,n,L⟩;simp only at hj L⊢;have zI:=N.av.base;by_cases zn:j<cs[k].ae.n
  ·repeat'(first|refine Wz ?_|refine Wn n (p.cell (i:=4) (v:= .slice cs[k].ae.A cs[k].ae.n cs[k].ae.c) Z) ?_|refine Wo n (((N.av.ext zs).all zn)) ?_)
   refine SW.bz Z Z Z Z Z λb w1 zb hb zi=>?_;obtain⟨n,L⟩:=bk zb n L;refine SW.append L (ay.la (enc:=bG) zi) n.size Z Z Z Y Y λA2 c2 w5 za D=>?_;have n:=au n D (Ph _) L.az;refine Wz ?_;refine ah.again (j+1,A2,c2) ⟨Z,Z,Z,Z,Z,Z,Z,Z,trivial⟩ dD ⟨by simp only;omega,n,?_⟩;rw[Pk Y];exact za
  obtain rfl:j=cs[k].ae.n:=Y;rw[Pl Y]at L;repeat'(first|refine Wz ?_|refine Wn n (p.cell (i:=4) (v:= .slice cs[k].ae.A cs[k].ae.n cs[k].ae.c) Z) ?_)
  have zj:=n;have zt:=C.Og (b:=⟨M,cs[k].ae.n,m⟩) L.az;have L:=L.low (Pj zh (PR p.lt));have n:=zs;obtain⟨n,e,f,o,p,y,z,C,H⟩:=HG zj n e f o p y z C H;refine Wb (i:=0) p λw6 I D=>?_;have hG:=p.gr D;have n:=n.own zg D;have C:=C.dm p D zf W;obtain⟨e,f,o,y,z,H,L⟩:=iX hG e f o y z H L;have p:=I;refine Wz ?_;refine Wb (i:=4) p λw6 I D=>?_;have hG:=p.gr D;have n:=n.own zg D;have C:=C.dm p D zf W;obtain⟨e,f,o,y,z,H,L⟩:=iX hG e f o y z H L;have p:=I;refine Wz ?_;refine Wk (iM _ _ _ _ _ (N.aD.ext n) Y) λv w7 l hv=>?_;obtain⟨Q,q7,rfl,hQ⟩:=hv;have zA:=C.Oh (b:=⟨Q,cs[k].ao.n,q7⟩) hQ.az;have zB:=mD (a:=⟨X,r.Words.n,c4⟩) (b:=⟨Q,cs[k].ao.n,q7⟩) y hQ.az;have hQ:=hQ.low (Pj zh (PR p.lt));(obtain⟨n,e,f,o,p,y,z,C,H⟩:=HG l n e f o p y z C H;have L:=L.ext l);refine Wz ?_;refine Wb (i:=5) p λw6 I D=>?_;have hG:=p.gr D;have n:=n.own zg D;have C:=C.dm p D zf W;obtain⟨e,f,o,y,z,H,L,hQ⟩:=nS hG e f o y z H L hQ;have p:=I;refine Wz ?_;refine SW.bz Z Z Z Z Z λb w6 l hb zi=>?_;(obtain⟨n,e,f,o,y,z,C,H,L⟩:=HG l n e f o y z C H L;have hQ:=hQ.ext l);refine SW.append C.row (ay.la (enc:=cr) (x:=⟨⟨B,_,d⟩,cs[k].ax,cs[k].bd,cs[k].Order,⟨M,_,m⟩,⟨Q,_,q7⟩⟩) zi) (Pj zh (Pj (PR p.lt) l.size)) Z Z Z dD dD λA2 c2 w5 za D=>?_;have hG:=C.row.gr D;have zC:=Pj (Pj zh (Pj (PR p.lt) l.size)) D.size;have n:=au n D (Pj P F) C.row.az;obtain⟨e,f,o,y,z,H,L,hQ⟩:=nS hG e f o y z H L hQ;have hE:=C.each.mono λ_ _ h=>h.aQ hG Z;refine Wz ?_;refine We (i:=6) o λw6 g zu=>?_;obtain⟨n,e,f,y,z,H,L,hQ,za⟩:=HG g n e f y z H L hQ za;have hE:=hE.mono λ_ _ h=>h.aQ g.T Z;refine Wz ?_;refine ah.again (k+1,A2,c2,zr++[⟨⟨B,_,d⟩,cs[k].ax,cs[k].bd,cs[k].Order,⟨M,_,m⟩,⟨Q,_,q7⟩⟩]) ⟨Z,Z,Z,Z,trivial⟩ dD ⟨by simp only;omega,Pj zC g.g.size,n,e,f,zu,y,z,⟨za,?_⟩,zm.snoc (λu hu=>⟨zz u hu,zt u hu,zA u hu⟩) zB⟩;rw[Pk Y];exact hE.snoc ⟨N.size,N.per,N.order,H,L,hQ⟩
 obtain rfl:k=r.ab.n:=Y;rw[Pl Y]at C;refine Wz ?_;refine Wh f (aB _) λw5 g zl=>?_;obtain⟨n,y,z,C⟩:=cG g n y z C;refine Wz ?_;exact ah.nu Z Z zl Z ⟨_,Z,n,⟨_,G,_⟩,zr,Z,⟨y,z.own.low P,C.row.low (Pj P F),C.each.mono λ_ _ h=>h.low (Pj P F),zm.pair⟩,⟨m1,J,P,F,zd,z,C.each⟩⟩
variable {f:Int}
theorem iY.lists{t:Int}{s:ap×ap}(h:iY m0 m1 cpu zi o t f s L (some r))(i:VS s)(j:∀l∈L,l.aq.length<=8):r.2.1.length<=L.length+1∧∀l∈r.2.1,l.aq.length<=8:=by
 cases h with
 | list c b q=>
   obtain⟨a,_⟩:=fK b;have e:=fk b a;have k:=j _ (Pf a);rw[<-e]at k;simp only;unfold rG;split
   ·grind[List.length_eraseIdx_le,aW,List.mem_of_mem_eraseIdx]
   refine⟨by grind,λl a=>?_⟩;rcases Pu a with m|rfl
   all_goals grind[dH,List.length_dropLast]
 | tz c n d g=>grind
 | @fill u v c b n d g p=>
   have w:=(p.vs (i.pK (d.j7 g).1)).2
   exact⟨BU b,λl a=>by
    rcases BS b l a with m|rfl
    all_goals grind[dH]⟩
theorem iZ.lists{t:Int}{s:ap×ap}(h:iZ m0 m1 cpu o t f s L (some r))(a:VS s)(b:∀l∈L,l.aq.length<=8):r.2.1.length<=L.length+1∧∀l∈r.2.1,l.aq.length<=8:=by
 cases h with
 | tf _ h=>exact h.lists a b
 | low _ h=>exact h.lists a b
theorem cj.small{h:Heap}{u:Heap×Int×Int}(a:cj h cpu o f u)(p:h.small):u.1.small:=by
 have b:(Heap.zero).small:=by constructor<;>simp[Heap.zero]
 have d:∀(e g:ap)(F:iE h e g)(s:ap×ap)(L:List aC)(x:Int)(t:Int),VS s->L.length<=257->(∀l∈L,l.aq.length<=8)->(ma h s L (dc h x o t)).small:=λe g F s L x t c B i=>by
  have q:=js c.kD;have r:=js c.j8;have v:=xX F
  have w:(dc h x o t).length<=257:=by
   unfold dc<;>grind[dc,bB,List.findIdx_le_length,bT]
  refine⟨by simp[ma],p.cx,?_,?_,λz b=>?_,λl j=>?_⟩
  ·grind[ma]
  ·grind[ma]
  ·simp only[ma,List.mem_cons,List.not_mem_nil,or_false]at b;grind
  have:=i l j;omega
 cases a with
 | bad|range|form|room=>exact b
 | once hb y A b k=>
   obtain⟨e,g,F⟩:=fC (ch.1 hb);rw[F.d.bA]at b;simp only[List.cons.injEq,and_true]at b;obtain⟨rfl,rfl⟩:=b;have c:=F.d.start.vs;obtain⟨n,m⟩:=k.lists c (λl j=>(F.lists l j).2);have:=F.count;exact d _ _ F _ _ _ _ (k.found c).1 Y m
 | kA hb y A b k i=>
   obtain⟨e,g,F⟩:=fC (ch.1 hb);rw[F.d.bA]at b;simp only[List.cons.injEq,and_true]at b;obtain⟨rfl,rfl⟩:=b;have c:=(dN F.d).vs;obtain⟨n,m⟩:=i.lists c (λl j=>by grind);simp only[List.length_nil]at n;exact d _ _ F _ _ _ _ (i.found c).1 Y m
theorem cj.at_{h:Heap}{u:Heap×Int×Int}(a:cj h cpu o f u)(d:u.2.2=0):0<=u.2.1∧u.2.1<256:=by
 cases a with
 | bad|range|form|room=>simp at d
 | once hb g j b c=>
   obtain⟨k,l,F⟩:=fC (ch.1 hb);rw[F.d.bA]at b;simp only[List.cons.injEq,and_true]at b;obtain⟨rfl,rfl⟩:=b;obtain⟨i,e,m,_⟩:=lq F (c.found F.d.start.vs).2<;>grind
 | kA hb g j b c n=>
   obtain⟨k,l,F⟩:=fC (ch.1 hb);rw[F.d.bA]at b;simp only[List.cons.injEq,and_true]at b;obtain⟨rfl,rfl⟩:=b;obtain⟨i,e,m,_⟩:=ku F (n.found (dN F.d).vs).2<;>grind
variable {s':aj} {cs':List da}
structure SJ(G:Nat->Prop)(w:World)(lo:Nat)(r:cc)(s:aj)(cs:List da):Prop where
 ints:∃m1 m2,lo<=m1∧gh w m1 m2 r.Heap s.Heap∧(∀g,((∃u∈cs,aN u.ao.A u.ao.c=some g)∨G g)->(g<m1∨m2<=g)∧aN r.Words.A r.Words.c≠some g)∧∀g,aN r.Words.A r.Words.c=some g->g<m1∨m2<=g
 sep:∀u∈cs,∀g,G g->aN u.ao.A u.ao.c≠some g
section
variable {w w':World}{lo t:Nat}{r:cc}{s:aj}{cs:List da}{i:Nat}{p:Heap×aO}{G:Nat->Prop}
theorem SJ.rows(h:SJ G w lo r s cs)(l:s'.Heap=s.Heap)(a:∀u∈cs',∃v∈cs,aN u.ao.A u.ao.c=aN v.ao.A v.ao.c):SJ G w lo r s' cs':=by
 obtain⟨m1,b,c,m,d,f⟩:=h.ints;refine⟨⟨m1,b,c,by grind,λg e=>d g ?_,f⟩,λu i=>?_⟩
 ·grind
 obtain⟨v,j,k⟩:=a u i;rw[k];exact h.sep v j
theorem SI.sj(h:SI w lo r s cs):SJ (λ_=>False) w lo r s cs:=by
 obtain⟨m1,d,f,l,i,k,a⟩:=h.ints;refine⟨⟨m1,d,f,k,λg e=>?_,λg e=> .inl (i g e)⟩,λu b g e=>e.elim⟩;rcases e with⟨u,b,e⟩|e
 ·obtain⟨j,c,rfl⟩:=Pg b;have:=(a.get j c (by rw[<-a.len];exact c)).aD.az g e
  grind
 grind
theorem SJ.ext(h:SJ G w lo r s cs)(a:Ext w w'):SJ G w' lo r s cs:=by
 obtain⟨m1,b,c,d,e⟩:=h.ints;exact⟨⟨m1,b,c,d.ext a,e⟩,h.sep⟩
theorem SJ.aQ(h:SJ G w lo r s cs)(b:oe w w' t)(a:(Nat.beq t 3||(Nat.beq t 129||(Nat.beq t 98||Nat.beq t 100)))=false):SJ G w' lo r s cs:=by
 obtain⟨m1,c,d,e,f⟩:=h.ints;exact⟨⟨m1,c,d,e.aQ b a,f⟩,h.sep⟩
theorem SJ.ne(h:SJ G w lo r s cs){g:Nat}(a:G g)(b:i<cs.length):some g≠aN cs[i].ao.A cs[i].ao.c:=λe=>h.sep _ (Pf b) g a e.symm
theorem SJ.words{d:List Int}(f:SJ G w lo r s cs)(h:SX w lo r s cs)(q:Own w' lo 3 1 aT r.Words.A r.Words.n r.Words.c d)(a:w.grownBy w' (aN r.Words.A r.Words.c)):SX w' lo r ⟨d,s.Heap,s.ab⟩ cs∧SJ G w' lo r ⟨d,s.Heap,s.ab⟩ cs:=by
 obtain⟨m1,i,j,l,m,n⟩:=f.ints;have c:=h.words.gr a
 have o:gh w' m1 i r.Heap s.Heap:=by
  cases e:aN r.Words.A r.Words.c with
  | none=>rw[e]at a;exact l.aQ (⟨none,a,λk t=>by cases t⟩:oe w w' 37) Z
  | some g=>rw[e]at a;exact l.xR a c (n g e)
 refine⟨⟨q,o.own.low j,h.row.aQ c Z,⟨h.each.len,λk p u=>?_⟩,h.pair⟩,⟨⟨m1,i,j,o,m,n⟩,f.sep⟩⟩;have b:=h.each.get k p u;exact⟨b.size,b.per,b.order,b.names.aQ c Z,b.av.aQ c Z,b.aD.apart a λg e v=>(m g (.inl ⟨_,Pf p,e⟩)).2 v⟩
theorem nM.act{m:List Int}(h:SX w lo r (aZ s i p) cs)(z:SJ G w lo r (aZ s i p) cs)(l:i<cs.length)(o:i<s.ab.length)(C:Own w' lo 3 1 aT cs[i].ao.A cs[i].ao.n cs[i].ao.c m)(a:w.grownBy w' (aN cs[i].ao.A cs[i].ao.c)):
 SX w' lo r (aZ s i (p.1,⟨p.2.Names,p.2.ax,p.2.bd,p.2.Order,p.2.ae,m⟩)) cs∧SJ G w' lo r (aZ s i (p.1,⟨p.2.Names,p.2.ax,p.2.bd,p.2.Order,p.2.ae,m⟩)) cs:=by
 obtain⟨m1,A,n,q,t,D⟩:=z.ints;have c:=h.get l o;have d:=c.aD.gr a;have b:cs.set i cs[i]=cs:=Qg l
 have B:gh w' m1 A r.Heap p.1:=by
  cases e:aN cs[i].ao.A cs[i].ao.c with
  | none=>rw[e]at a;exact q.aQ (⟨none,a,λk E=>by cases E⟩:oe w w' 37) Z
  | some g=>rw[e]at a;exact q.xR a d (t g (.inl ⟨_,Pf l,e⟩)).1
 have u:Own w' lo 3 1 aT r.Words.A r.Words.n r.Words.c s.Words:=h.words.apart a λg e F=>(t g (.inl ⟨_,Pf l,F⟩)).2 e;refine⟨⟨u,B.own.low n,h.row.aQ d Z,?_,h.pair⟩,⟨⟨m1,A,n,B,t,D⟩,z.sep⟩⟩;have:=dR.setAt (x:=cs[i]) (R':=lf w' lo) h.each (i:=i) (y:=⟨p.2.Names,p.2.ax,p.2.bd,p.2.Order,p.2.ae,m⟩) ⟨c.size,c.per,c.order,c.names.aQ d Z,c.av.aQ d Z,C⟩ λj n q v f=>⟨f.size,f.per,f.order,f.names.aQ d Z,f.av.aQ d Z,f.aD.grown a (mE (.inl (j9 h.pair l n v).aD))⟩;rw[b]at this;simpa[aZ]using this
theorem nM.fresh{X:jC}{d:List Int}{H:fB}{h':Heap}(h:SX w lo r (aZ s i p) cs)(a:lo<=m)(n:∀u∈cs,∀g,aN u.ao.A u.ao.c=some g->g<m)(b:∀g,G g->g<m∧∀u∈cs,aN u.ao.A u.ao.c≠some g)(j:Own w m 3 1 aT X.A X.n X.c d)(l:gh w m k H h')(o:∀g,aN X.A X.c=some g->k<=g):
 SX w lo ⟨X,H,r.ab⟩ (aZ ⟨d,s.Heap,s.ab⟩ i (h',p.2)) cs∧SJ G w lo ⟨X,H,r.ab⟩ (aZ ⟨d,s.Heap,s.ab⟩ i (h',p.2)) cs:=by
 have c:∀g,((∃u∈cs,aN u.ao.A u.ao.c=some g)∨G g)->g<m:=λg e=>by
  rcases e with⟨u,f,e⟩|e
  ·exact n u f g e
  exact(b g e).1
 refine⟨⟨j.low a,l.own.low a,h.row,h.each,h.pair⟩,⟨m,k,a,l,λg e=>⟨.inl (c g e),λq=>?_⟩,λg e=> .inr (o g e)⟩,λu f g e=>(b g e).2 u f⟩;have:=c g e;have:=j.az g q;omega
theorem nM.BQ{c':Nat}(h:SX w lo r (aZ s i p) cs)(l:i<cs.length)(m:i<s.ab.length)(z:Own w' lo 60 3 bG A' n' c' l')(q:w.grownBy w' (aN cs[i].ae.A cs[i].ae.c))(f:∀k,aN A' c'=some k->aN cs[i].ae.A cs[i].ae.c=some k∨w.heap.size<=k):
 nM w' lo r (aZ s i (p.1,⟨p.2.Names,p.2.ax,p.2.bd,p.2.Order,l',p.2.ao⟩)) cs (cs.set i ⟨cs[i].Names,cs[i].ax,cs[i].bd,cs[i].Order,⟨A',n',c'⟩,cs[i].ao⟩):=by
 have c:=h.get l m;have a:=c.av.gr q;refine⟨h.words.aQ a Z,h.heap.aQ a Z,h.row.aQ a Z,?_,?_⟩
 ·have:=dR.setAt (R':=lf w' lo) (i:=i) (x:=⟨cs[i].Names,cs[i].ax,cs[i].bd,cs[i].Order,⟨A',n',c'⟩,cs[i].ao⟩) (y:=⟨p.2.Names,p.2.ax,p.2.bd,p.2.Order,l',p.2.ao⟩) h.each ⟨c.size,c.per,c.order,c.names.aQ a Z,z,c.aD.aQ a Z⟩ λj A B b d=>⟨d.size,d.per,d.order,d.names.aQ a Z,d.av.grown q (mE (.inl (j9 h.pair l A b).av)),d.aD.aQ a Z⟩;simpa[aZ]using this
 refine tA h.pair λj n b=>?_;have g:=j9 h.pair l n b;have o:=(h.each.get j n (by rw[<-h.each.len];exact n)).av.lt_size
 have t:apart ⟨A',n',c'⟩ cs[j].ae:=λk e u=>by
  rcases f k e with v|v
  ·exact g.av k v u
  have:=o k u;omega
 exact⟨⟨g.names,t,g.aD⟩,⟨dX g.names,dX t,dX g.aD⟩⟩
theorem nM.C6(h:SX w lo r s cs):∀u∈cs,∀g,aN u.ao.A u.ao.c=some g->g<w.heap.size:=λu b g e=>by
 obtain⟨j,a,rfl⟩:=Pg b;exact(h.each.get j a (by rw[<-h.each.len];exact a)).aD.lt_size g e
end
def kX(w:World)(lo:Nat)(r:cc)(s:aj):Prop:=∃cs,SX w lo r s cs∧SJ (λ_=>False) w lo r s cs
section
variable {w w':World}{lo nn t k:Nat}{r:cc}{s:aj}{cs:List da}
theorem kX.own(h:kX w lo r s):gK w lo r s:=h.elim λ_ h=>h.1.nb
theorem kX.ext(h:kX w lo r s)(a:Ext w w'):kX w' lo r s:=h.elim λ_ h=>⟨_,h.1.ext a,h.2.ext a⟩
theorem kX.aQ(h:kX w lo r s)(b:oe w w' t)(a:(Nat.beq t 58||(Nat.beq t 3||(Nat.beq t 9||(Nat.beq t 60||(Nat.beq t 129||(Nat.beq t 98||Nat.beq t 100))))))=false):kX w' lo r s:=by
 simp only[Bool.or_eq_false_iff]at a;obtain⟨cs,c,d⟩:=h;exact⟨cs,c.aQ b (by simp[a]),d.aQ b (by simp[a])⟩
theorem kX.low(h:kX w lo r s)(a:nn<=lo):kX w nn r s:=by
 obtain⟨cs,b,⟨m1,c,d,e⟩,f⟩:=h;exact⟨cs,b.low a,⟨m1,c,Pj a d,e⟩,f⟩
theorem kX.zero(w:World)(lo:Nat):kX w lo .zero .zero:=
 ⟨[],⟨Own.cq _ _ _ _ _ _,ik.zero _ _,Own.cq _ _ _ _ _ _,.nil,.nil⟩,⟨lo,w.heap.size,Ph _,(ik.zero w lo).kQ,λg e=>by grind,λg e=>by cases e⟩,λu a=>by cases a⟩
theorem kX.heap{H:fB}{h':Heap}(a:SX w k r s cs)(l:SI w k r s cs)(c:gh w lo k H h')(b:lo<=k):kX w lo ⟨r.Words,H,r.ab⟩ ⟨s.Words,h',s.ab⟩:=by
 obtain⟨m1,m,n,o,p,q,d⟩:=l.ints;refine⟨cs,⟨a.words.low b,c.own,a.row.low b,a.each.mono λ_ _ h=>h.low b,a.pair⟩,⟨lo,k,Ph _,c,λg e=>?_,λg e=> .inr (a.words.az g e)⟩,λu f g e=>e.elim⟩;rcases e with⟨u,f,e⟩|e
 ·obtain⟨j,i,rfl⟩:=Pg f;have:=(d.get j i (by rw[<-d.len];exact i)).aD.az g e
  grind
 grind
theorem kX.words{a:List Int}(h:kX w lo r s)(b:Own w' lo 3 1 aT r.Words.A r.Words.n r.Words.c a)(c:w.grownBy w' (aN r.Words.A r.Words.c)):kX w' lo r ⟨a,s.Heap,s.ab⟩:=
 h.elim λ_ h=>⟨_,h.2.words h.1 b c⟩
end
def nY(x:aC)(L:List aC):List aC:=L.filter λl=> !decide (dT l x)
theorem BZ{x:aC}(a:i<L.length):nY x (L.take (i+1))=if dT L[i] x then nY x (L.take i)else nY x (L.take i)++[L[i]]:=by
 unfold nY<;>grind[nY,List.take_succ_eq_append_getElem,dT]
theorem KO(x:aC)(L:List aC)(i:Nat):(nY x (L.take i)).length<=i:=by
 unfold nY<;>grind
theorem vq{x:aC}(c:uk L):nY x L=if bW L x=true then L.eraseIdx (aW L x)else L:=by
 unfold nY;split
 ·rename_i h;obtain⟨g,d⟩:=fK h;have e:L=L.take (aW L x)++L[aW L x]::L.drop (aW L x+1):=by simp_all
  have i:(L.take (aW L x)).filter (λl=> !decide (dT l x))=L.take (aW L x):=by
   rw[QU];intro z a;obtain⟨j,b,rfl⟩:=Pg a;rw[P3]at b;grind[List.length_take,mC,pf]
  have k:(L.drop (aW L x+1)).filter (λl=> !decide (dT l x))=L.drop (aW L x+1):=by
   rw[QU];intro z a;obtain⟨j,b,rfl⟩:=Pg a;rw[QF]at b;rw[P8];have:=c.get (show aW L x+1+j<L.length by omega) (show aW L x<aW L x+1+j by omega)
   grind[dT,aW,cd]
  grind
 rename_i h;rw[QU];intro z a;obtain⟨j,b,rfl⟩:=Pg a;have:¬dT L[j] x:=λf=>h (J0 c b f).2;grind
theorem Db(r:fB)(L:List aC)(q:List cV)(x:aC)(y:cV)(lo:Nat)(w:World)(F:dw w lo r.ak q L)(T:mP w lo y x)(ze:lo<=w.heap.size)(zf:y.aq.n=0)(hn:(r.ak.n+1)*48<=140737488355328):
 aS prog 116 [.agg (bg r).toArray,Iv y.ep,Iv y.ap,Iv y.Ty,.slice y.aq.A y.aq.n y.aq.c] w λv z=>∃s R,v= .agg (bg ⟨r.aK,r.bY,r.bl,s,r.Live⟩).toArray∧dw z lo s R (nY x L):=by
 refine Wj func116 ntmps116 ?_;refine Ww λU w1 k O f=>?_;have zb:=O;refine SW.alloc Z λH w2 V I a=>?_;have W:=k.up I;have B:U≠H:=by have:=f.lt;omega
 obtain⟨k,f⟩:=bk V k f;obtain⟨l1,l2⟩:=F.rd.len;have hA:=F.row.sl.base;have y1:=T.cpu;have y2:=T.fX;have y3:=T.ty;refine Wz ?_;refine Wr (u6 y) λo w2 C J d=>?_;have K:=k.up J;obtain⟨k,f,a⟩:=aY C k f a;refine Wz ?_;have d:ay w2 o 100 (fj y):=d;have q0:true=decide ((y.aq.n:Int)=0):=by rw[decide_eq_true Y]
 refine CW.loop (λt:Nat×Option Addr×Nat×List cV=>[(1,Iv y.ep),(2,Iv y.ap),(3,Iv y.Ty),(5,Pt U),(10,Pt H),(11,Pt o),(12,.slice t.2.1 (nY x (L.take t.1)).length t.2.2.1),(13,.bool true),(14,Iv (t.1:Int))])
  (λt z=>t.1<=r.ak.n∧Ext w z∧ay z U 34 (bg r)∧ay z H 34 (bg .zero)∧ay z o 100 (fj y)∧Own z (o+1) 100 4 fj t.2.1 (nY x (L.take t.1)).length t.2.2.1 t.2.2.2∧m9 z lo t.2.2.2 (nY x (L.take t.1))) (λt=>r.ak.n-t.1) (0,none,0,[])
  ⟨Z,Z,Z,Z,Z,Z,Z,by rw[q0];rfl,Z,trivial⟩ ⟨by omega,k,f,a,d,Own.cq _ _ _ _ _ _,m9.nil _ _⟩ ?_
 rintro⟨i,A,c,R⟩ z ⟨hi,k,f,a,d,l,n⟩;simp only at hi l n⊢;have zc:=KO x L i;have P:∀m:Nat,m<=r.ak.n->(m+1)*48<=140737488355328∧m+1<=9223372036854775807:=λm hm=>by omega
 by_cases D:i<r.ak.n
 ·have Q:(nY x (L.take i)).length<=r.ak.n:=Y;have E:i<L.length:=Y;have G:i<q.length:=Y;have M:=F.each.get i G E;have e1:=M.cpu;have e2:=M.fX;have e3:=M.ty;have g0:=F.row.sl.dp D (j:=0) (u:=Iv q[i].ep) Z;have g1:=F.row.sl.dp D (j:=1) (u:=Iv q[i].ap) Z;have g2:=F.row.sl.dp D (j:=2) (u:=Iv q[i].Ty) Z;by_cases S:dT L[i] x
  ·have N:nY x (L.take (i+1))=nY x (L.take i):=by rw[BZ E,if_pos S]
   obtain⟨k1,k2,k3⟩:=id S;repeat'(first|refine Wz ?_|(first|refine CW.bo Z ?_|(apply CW.dF mixed;(·kernel_rfl);rotate_left;intro w1 p;obtain⟨k,f,a,d,l,n⟩:=fi p k f a d l n;rotate_right))|refine SW.skip Z Z Z Z ?_|refine Wn k g0 ?_|refine Wn k g1 ?_|refine Wn k g2 ?_|exact SW.br Z)
   all_goals try omega
   exact ah.again (i+1,A,c,R) ⟨Z,Z,Z,Z,Z,Z,by simp only;rw[N];rfl,Z,Z,trivial⟩ dD ⟨by simp only;omega,k,f,a,d,by simp only;rw[N];exact l,by simp only;rw[N];exact n⟩
  have zg:¬(q[i].ep=y.ep∧q[i].ap=y.ap∧q[i].Ty=y.Ty):=by unfold dT at S;omega
  have N:nY x (L.take (i+1))=nY x (L.take i)++[L[i]]:=by rw[BZ E,if_neg S]
  have el:(nY x (L.take (i+1))).length=(nY x (L.take i)).length+1:=by rw[N];simp
  repeat'(first|refine Wz ?_|refine fq ?_|refine SW.dP Z Z Z (λh=>?_) (λh=>?_)|refine SW.skip Z Z Z Z ?_|refine Wn k g0 ?_|refine Wn k g1 ?_|refine Wn k g2 ?_|refine Wo k ((F.row.sl.all D)) ?_|(refine SW.br λw1 p=>?_;obtain⟨k,f,a,d,l,n⟩:=fi p k f a d l n))
  all_goals try omega
  all_goals
   refine SW.bz Z Z Z Z Z λb w4 C hb hB=>?_;obtain⟨k,f,a,d,l,n⟩:=fi C k f a d l n;refine SW.append l (ay.la (enc:=fj) (x:=q[i]) hB) d.lt Z Z Z (P _ Q).1 (P _ Q).2 λA2 c2 w5 X hg=>?_;have hG:=l.gr hg;have k:=au k hg (Pj K (PW _)) l.az;have d:=d.grown hg (λe=>P6 _ (l.az o e.symm));obtain⟨f,a,n⟩:=aY hG f a n;refine Wz ?_;refine ah.again (i+1,A2,c2,R++[q[i]]) ⟨Z,Z,Z,Z,Z,Z,by simp only;rw[el];rfl,Z,Z,trivial⟩ dD ⟨by simp only;omega,k,f,a,d,by simp only;rw[el];exact X,?_⟩;simp only;rw[N];exact n.snoc ((F.each.get i G E).ext k)
 have ei:i=L.length:=Y;subst ei;rw[Pl (Ph _)]at l n;rw[Pl (Ph _)];repeat'(first|refine Wz ?_|(refine CW.bo Z ?_))
 refine We (i:=3) f λw6 g zd=>?_;have k:=jc g k;have a:=a.grown g.g (by simpa using Ne.symm B);(obtain⟨l,n⟩:=bk g.T l n);refine Wz ?_;refine Wh a (bw ⟨r.aK,r.bY,r.bl,⟨A,_,c⟩,r.Live⟩) λw7 g za=>?_;obtain⟨k,l,n⟩:=aY g k l n;refine Wz ?_;exact ah.nu Z Z za Z ⟨_,Z,k,⟨A,_,c⟩,R,Z,⟨l.low Y,n.each⟩⟩
def IX(L:List aC)(x:aC):List aC:=if x.aq=[]then nY x L else fZ L x
theorem mr(r:fB)(L:List aC)(c:List cV)(x:aC)(y:cV)(lo:Nat)(w:World)(e:dw w lo r.ak c L)(d:mP w lo y x)(g:uk L)(b:lo<=w.heap.size)(f:(r.ak.n+1)*48<=140737488355328):
 aS prog 116 [.agg (bg r).toArray,Iv y.ep,Iv y.ap,Iv y.Ty,.slice y.aq.A y.aq.n y.aq.c] w λv i=>∃s R,v= .agg (bg ⟨r.aK,r.bY,r.bl,s,r.Live⟩).toArray∧dw i lo s R (IX L x):=by
 have a:=d.bt.len;unfold IX;split
 ·rename_i h;rw[h]at a;exact Db r L c x y lo w e d b (by simpa using a.symm) f
 rename_i h;exact qD r L c x y lo w e d g b (by rw[<-a];exact List.length_pos_iff.2 h) f
theorem KP{x:aC}(a:uk L)(b:bW L x=true):IX L (dH x pg.dropLast)=rG L x pg:=by
 obtain⟨c,d⟩:=ju (L:=L) (ln (x:=x) (pg:=pg.dropLast));unfold IX rG;by_cases h:pg.length<=1
 ·simp_all[List.eq_nil_of_length_eq_zero,List.length_dropLast,if_pos,dH,vq]
 have f:¬pg.dropLast=[]:=λe=>by
  have:=congrArg List.length e;grind
 simp_all[if_neg,dH,qi]
theorem uO{x:aC}(a:uk L)(b:bW L x=false):IX L (dH x pg)=jx L x pg:=by
 obtain⟨c,d⟩:=ju (L:=L) (ln (x:=x) (pg:=pg));unfold IX jx
 simp_all[if_pos,dH,vq,if_neg]
theorem vr(h:Heap)(A B:ap)(hd:me h A B)(hs:h.small)(m:jC)(I:Int)(li r:jC)(o:List cV)(C D:cM)(g c:Nat)(w E:World)(e:Ext w E)
 (f:dM E w.heap.size g c C D (A,B)) (d:lQ E w.heap.size m li r o h):
 jX prog 106 [.agg (bg ⟨⟨some ⟨g,0,none⟩,2,c⟩,m,I,li,r⟩).toArray] E λv n=>v= .agg (bg ⟨⟨some ⟨g,0,none⟩,2,c⟩,m,I,.nil,r⟩).toArray∧Ext w n∧G2 E n g g∧lQ n w.heap.size m li r o h∧∃C D,dM n w.heap.size g c C D (bp (A,B) (aM h.ak)):=by
 refine c8 func106 rfl ntmps106 rfl ?_;have U:w.heap.size<=g:=f.xD;have k:=G2.refl E g g;have zf:=d.lists.rd.len;have s4:=hs.lists;refine Ww λM w1 N s a=>?_;have G:=e.up s;have H:=s;obtain⟨e,f,d,k⟩:=cG N e f d k;refine SW.alloc Z λK w2 V x b=>?_;have O:=e.up x;have P:E.heap.size<=K:=Pj N.size x;have Q:M≠K:=by have:=a.lt;omega
 obtain⟨e,a,f,d,k⟩:=dz V e a f d k;repeat'(first|refine Wy ?_|fail)
 refine CW.loop (λt:Nat×cM×cM=>[(1,Pt M),(2,Pt K),(3,Iv (t.1:Int))])
  (λt n=>t.1<=li.n∧Ext w n∧G2 E n g g∧ay n M 34 (bg ⟨⟨some ⟨g,0,none⟩,2,c⟩,m,I,li,r⟩)∧ay n K 34 (bg .zero)∧dM n w.heap.size g c t.2.1 t.2.2 (iz h A B (iG h.ak t.1))∧lQ n w.heap.size m li r o h) (λt=>li.n-t.1) (0,C,D)
  ⟨Z,Z,Z,trivial⟩ ⟨by omega,e,k,a,b,by simpa[iz,iG,aM,bp]using f,d⟩ ?_
 rintro⟨i,C,D⟩ n ⟨hi,e,k,a,b,f,d⟩;simp only at hi f⊢;by_cases R:i<li.n
 ·have p:i<h.ak.length:=Y;have y:i<o.length:=Y;have zg:=(d.lists.each.get i y p).bt.sl.len;have zh:=hs.bt _ (Pf p);repeat'(first|refine Wy ?_|refine Wl (a.cell (i:=3) (v:= .slice li.A li.n li.c) Z) ?_)
  refine CW.loop (λt:Nat×cM×cM=>[(1,Pt M),(2,Pt K),(3,Iv (i:Int)),(4,Iv (t.1:Int))])
   (λt n=>t.1<=o[i].aq.n∧Ext w n∧G2 E n g g∧ay n M 34 (bg ⟨⟨some ⟨g,0,none⟩,2,c⟩,m,I,li,r⟩)∧ay n K 34 (bg .zero)∧dM n w.heap.size g c t.2.1 t.2.2 (iz h A B (iG h.ak i+t.1))∧lQ n w.heap.size m li r o h) (λt=>o[i].aq.n-t.1) (0,C,D)
   ⟨Z,Z,Z,Z,trivial⟩ ⟨by omega,e,k,a,b,f,d⟩ ?_
  rintro⟨j,C,D⟩ n ⟨hj,e,k,a,b,f,d⟩;simp only at hj f⊢;have W:=d.lists.each.get i y p;have zi:=W.bt.sl.base;have hA:=d.lists.row.sl.base;have f3:=d.lists.row.sl.dp R (j:=3) (u:= .slice o[i].aq.A o[i].aq.n o[i].aq.c) Z;by_cases X:j<o[i].aq.n
  ·have za:j<h.ak[i].aq.length:=Y;obtain⟨hK,zb⟩:=th p za;have hN:=hd.next hK;have hD:=hd.inv (iG h.ak i+j) Y;have hT:=kJ (A,B) (aM h.ak) _ hK;rw[zb]at hN hT;have zc:iz h A B (iG h.ak i+(j+1))=eI (iz h A B (iG h.ak i+j)) (bC h.ak[i].aq[j]):=hT;repeat'(first|refine Wy ?_|refine Wl (a.cell (i:=3) (v:= .slice li.A li.n li.c) Z) ?_|refine Wl f3 ?_)
   refine CW.any 10 mixed (cy bm) Z λw1 S l=>?_;obtain⟨e,a,b,f,d,k⟩:=fi S e a b f d k;refine Wu 0 l Z (cv Z Z ((λ_ _=>a.cell))) ?_;refine Wu 1 l Z (aI Z) ?_;refine Wu 2 l Z (aJ Z (a.cell (i:=3) (v:= .slice li.A li.n li.c) Z)) ?_;refine Wq 3 l Z Z ?_;refine Wu 4 l Z (bO Z Z ig Y) ?_;refine Wu 5 l Z (aI Z) ?_;refine Wu 6 l Z (aJ Z (d.lists.row.sl.dp R (j:=3) (u:= .slice o[i].aq.A o[i].aq.n o[i].aq.c) Z)) ?_;refine Wq 7 l Z Z ?_;refine Wu 8 l Z (bO Z Z ig Y) ?_;refine Wu 9 l Z (aJ Z ((d.lists.each.get i y p).bt.sl.one X Z)) ?_;refine SA.fH ?_;refine SW.cm Z Z (po m I li r C D _ _ (bC h.ak[i].aq[j]) w.heap.size g c _ f e.size hD hN) λv w5 hv=>?_;obtain⟨rfl,q,u2,u3,J⟩:=hv;have L:=f.gr q;have e:=e.own U q;have k:=k.LS q;obtain⟨a,b,d⟩:=aY L a b d;refine Wg a (bw ⟨⟨some ⟨g,0,none⟩,2,c⟩,m,I,li,r⟩) λw6 z F=>?_;have zd:=a.gr F;have e:=e.own G F;have k:=k.new F H;obtain⟨J,d⟩:=bk zd J d;have b:=b.grown F (by simpa using Ne.symm Q);repeat'(first|refine Wy ?_|fail);refine ah.again (j+1,u2,u3) ⟨Z,Z,Z,Z,trivial⟩ dD ⟨by simp only;omega,e,k,z,b,?_,d⟩;simp only;rw[zc];exact J
  have ej:iG h.ak i+j=iG h.ak (i+1):=by rw[tg p];omega
  rw[ej]at f;repeat'(first|refine Wy ?_|refine Wl (a.cell (i:=3) (v:= .slice li.A li.n li.c) Z) ?_|refine Wl f3 ?_)
  exact ah.again (i+1,C,D) ⟨Z,Z,Z,trivial⟩ dD ⟨by simp only;omega,e,k,a,b,f,d⟩
 have ei:i=h.ak.length:=Y
 have T:iz h A B (iG h.ak i)=bp (A,B) (aM h.ak):=by
  rw[ei,v3,iz,Pl (Ph _)]
 rw[T]at f;repeat'(first|refine Wy ?_|refine Wl (a.cell (i:=3) (v:= .slice li.A li.n li.c) Z) ?_)
 refine Wb (i:=3) a λw6 z q=>?_;have L:=a.gr q;have e:=e.own G q;have k:=k.new q H;have b:=b.grown q (by simpa using Ne.symm Q);obtain⟨d,f⟩:=bk L d f;repeat'(first|refine Wy ?_|refine Wm ((λ_ _=>z.cell)) ?_)
 refine Wg b (bw ⟨⟨some ⟨g,0,none⟩,2,c⟩,m,I,.nil,r⟩) λw7 ze q=>?_;have L:=b.gr q;have e:=e.own O q;repeat'(first|refine Wy ?_|fail);exact ah.nu Z Z ze Z ⟨_,Z,Z,e,k.new q P,d.aQ L Z,C,D,f.aQ L Z⟩
noncomputable def mc(h:Heap):Int×Heap:=if gd h then(match h.aK with| [z0,z1]=>(0,nH h z0 z1)|_=>(8,⟨[],[],0,[],[]⟩))else(8,⟨[],[],0,[],[]⟩)
theorem Ab{h:Heap}(hb:gd h=false):mc h=(8,⟨[],[],0,[],[]⟩):=by simp[mc,hb]
theorem tH{h:Heap}(hb:gd h=true)(a:h.aK=[z0,z1]):mc h=(0,nH h z0 z1):=by grind[mc]
theorem I3(r:fB)(h:Heap)(w:World)(R:AQ w r h)(J:h.small)(K:∀z∈h.aK,ew z):
 aS prog 27 [.agg (bg r).toArray] w (fc w.heap.size (mc h)):=by
 refine Wj func27 ntmps27 ?_;refine Ww λS T d t a=>?_;have k:=t;refine SW.alloc Z λU w2 L u b=>?_;have l:=d.up u;have x:S≠U:=by have:=a.lt;omega
 obtain⟨d,a⟩:=bk L d a;obtain⟨q,F⟩:=bq (gd h)
 have y:∀G,Ext w G->aS prog 70 [.agg (bg r).toArray] G λv _=>v=Iv (if q then 0 else 8):=λG X=>by
  have:=ph r h G (R.ext X) J K;rwa[F]at this
 cases q
 ·simp only[Bool.false_eq_true,if_false]at y;rw[Ab F];repeat'(first|refine Wz ?_|(refine Wk (y _ d) ?_;intro v T f n;subst n;obtain⟨d,a,b⟩:=aY f d a b))
  refine Wg b (bw .zero) λw5 o j=>?_;have d:=d.own l j;refine Wz ?_;exact ah.a9 Z Z Z o Z ⟨_,Z,d,fc.zero 8 _ _⟩
 simp only[if_true]at y;have hm:=ch.1 F;obtain⟨z0,z1,M⟩:=wS hm;rw[tH F M.bA];repeat'(first|refine Wz ?_|(refine Wk (y _ d) ?_;intro v T f n;subst n;obtain⟨d,a,b⟩:=aY f d a b))
 refine Wk (rm r h _ (R.ext d) J) λv w4 N n=>?_;obtain⟨s,rfl,A⟩:=n;have A:=A.low d.size;obtain⟨d,a,b⟩:=aY N d a b;obtain⟨g,c,u0,u1,ls,V,p,B⟩:=A.split M.bA;have C:=A.cpus;obtain⟨sz,m,H,li,I⟩:=s;simp only at V B C;subst V;refine Wg a (bw ⟨⟨some ⟨g,0,none⟩,2,c⟩,m,H,li,I⟩) λw5 i j=>?_;have D:=a.gr j;have d:=d.own k j;have b:=b.grown j (by simpa using Ne.symm x);obtain⟨p,B⟩:=bk D p B;have a:=i;refine Wz ?_;have O:U≠g:=λe=>p.row.cB b Z (by rw[p.own,e]);refine SW.cm Z Z (Ix h z0 z1 M J m H li I ls u0 u1 g c S w.heap.size w _ d (Ph _) d.size k a p B) λv w6 n=>?_;obtain⟨E,W,i,P,u2,u3,Q⟩:=n;have b:=W.dm b O (Ne.symm x);have d:=E;refine Wz ?_;refine Wg b (bw ⟨⟨some ⟨g,0,none⟩,2,c⟩,m,H,.nil,I⟩) λw7 o j=>?_;have D:=b.gr j;have d:=d.own l j;refine Wz ?_;exact ah.a9 Z Z Z o Z ⟨_,Z,d,⟨⟨some ⟨g,0,none⟩,2,c⟩,m,H,.nil,I⟩,Z,(P.aQ D Z).join (Q.aQ D Z) C⟩
theorem Bd(r:fB)(h:Heap)(w:World)(M:AQ w r h)(B:h.small)(C:∀z∈h.aK,ew z):
 aS prog 51 [.agg (bg r).toArray] w (fc w.heap.size (mc h)):=by
 refine Wj func51 ntmps51 ?_;refine Ww λb1 N b O d=>?_;refine SW.alloc Z λS w2 D l a=>?_;have i:=b.up l;obtain⟨b,d⟩:=bk D b d;obtain⟨q,u⟩:=bq (gd h)
 have E:∀x,Ext w x->aS prog 103 [.agg (bg r).toArray] x λv _=>v= .bool q:=λx T=>by
  have:=tx r h x (M.ext T) B C;rwa[u]at this
 cases q
 ·rw[Ab u];repeat'(first|refine Wz ?_|(refine CW.bQ Z ?_)|(refine Wk (E _ b) ?_;intro v N f j;subst j;obtain⟨b,d,a⟩:=aY f b d a))
  refine Wg a (bw .zero) λw5 k y=>?_;have b:=b.own i y;refine Wz ?_;exact ah.a9 Z Z Z k Z ⟨_,Z,b,fc.zero 8 _ _⟩
 have U:=ch.1 u;obtain⟨V,W,F⟩:=wS U;rw[tH u F.bA];repeat'(first|refine Wz ?_|(refine CW.bo Z ?_)|(refine Wk (E _ b) ?_;intro v N f j;subst j;obtain⟨b,d,a⟩:=aY f b d a))
 refine Wk (jY r h _ (M.ext b) B) λv w4 G j=>?_;obtain⟨s,rfl,n⟩:=j;have n:=n.low b.size;obtain⟨b,d,a⟩:=aY G b d a;obtain⟨g,c,X,u1,ls,P,A,H⟩:=n.split F.bA;have o:=n.cpus;obtain⟨sz,m,I,li,J⟩:=s;simp only at P H o;subst P;have p:S≠g:=λe=>A.row.cB a Z (by rw[A.own,e]);refine SW.cm Z Z (vr h V W F B m I li J ls X u1 g c w _ b A H) λv w6 j=>?_;obtain⟨rfl,t,Q,K,u2,u3,L⟩:=j;have a:=Q.dm a p p;have b:=t;refine Wg a (bw ⟨⟨some ⟨g,0,none⟩,2,c⟩,m,I,.nil,J⟩) λw7 k y=>?_;have R:=a.gr y;have b:=b.own i y;refine Wz ?_;exact ah.a9 Z Z Z k Z ⟨_,Z,b,⟨⟨some ⟨g,0,none⟩,2,c⟩,m,I,.nil,J⟩,Z,(K.aQ R Z).join (L.aQ R Z) o⟩
theorem Hl(h:bV z):z.ai.length*24<=140737488355328∧z.Types.length*8<=140737488355328:=by
 have:=js h;grind
theorem De(h:Heap)(c:h.small):(mc h).2.small:=by
 cases a:gd h
 ·rw[Ab a];constructor<;>simp
 obtain⟨f,g,d⟩:=wS (ch.1 a);rw[tH a d.bA];have b:=d.inv _ (Ph _);rw[QG]at b;refine⟨by simp[nH],c.cx,by simp[nH],c.live,λz e=>?_,λl i=>by grind[nH]⟩;simp only[nH,List.mem_cons,List.not_mem_nil,or_false]at e;rcases e with rfl|rfl
 ·exact Hl b.kD
 exact Hl b.j8
theorem SI.NZ{r:cc}{cs:List da}(h:SI w lo r s cs)(c:cs.Pairwise kr):uK r.Words cs:=by
 obtain⟨m1,f,g,i,l,_,a⟩:=h.ints;refine⟨c,λu d k m e=>?_⟩;obtain⟨j,b,rfl⟩:=Pg d;have:=(a.get j b (by rw[<-a.len];exact b)).aD.az k e
 grind
theorem FY(r:cc)(s:aj)(w:World)(b:mB w r s)(c:s.small):
 aS prog 10 [.agg (ar r).toArray] w λv d=>∃q e,v= .agg (ar q).toArray∧Hb d w.heap.size q s e:=
 (lm r s w b c).mono λ_ _ _⟨q,cs,f,a,g⟩=>⟨q,cs,f,a.words,a.heap,⟨a.row,a.each⟩,g.NZ a.pair⟩
variable {u:aj×Int}
def du(c:aO)(k:Nat):aO:=⟨c.Names.eraseIdx k,c.ax,c.bd,c.Order,c.ae,c.ao⟩
def Cb(c:aO):Bool:=c.ae.any λx=>decide (x.ai<c.bd)
inductive ng(s:aj)(n:ByteArray):aj×Int->Prop where
 | ask (h:ga s n 0≠0):ng s n (.zero,ga s n 0)
 | name {i:Nat} (h:ga s n 0=0) (e:idxOf (c9 n) s.ab=i) (hi:i<s.ab.length) (hl:1<s.ab[i].Names.length):ng s n (aZ s i (s.Heap,du s.ab[i] (jv s.ab[i].Names n)),0)
 | busy {i:Nat} (h:ga s n 0=0) (e:idxOf (c9 n) s.ab=i) (hi:i<s.ab.length) (hl:¬1<s.ab[i].Names.length) (hb:Cb s.ab[i]=true):ng s n (.zero,7)
 | cache {i:Nat} (h:ga s n 0=0) (e:idxOf (c9 n) s.ab=i) (hi:i<s.ab.length) (hl:¬1<s.ab[i].Names.length) (hb:Cb s.ab[i]=false):ng s n (⟨s.Words,(di s.ab[i].ae.length (s.Heap,gR s.ab[i])).1,s.ab.eraseIdx i⟩,0)
theorem ng.c7{v:aj×Int}(x:ng s n u)(y:ng s n v):u=v:=by
 cases x with
 | ask h=>cases y<;>grind
 | @name i h e a b=>cases y<;>grind
 | @busy i h e a b hb=>cases y<;>grind
 | @cache i h e a b hb=>cases y<;>grind
theorem ng.small(x:ng s n u)(a:s.bU):u.1.small:=by
 cases x with
 | ask|busy=>exact aj.gu
 | @name i h e d g=>
   have b:=a.ID d;have f:=b.small.names;have j:=Qd s.ab[i].Names (jv s.ab[i].Names n);exact qE a.small _ a.Lu ⟨⟨by grind[du],b.small.av,b.small.aD⟩,b.at_⟩
 | @cache i h e d g hb=>
   have f:=(na s.ab[i].ae.length (p:=(s.Heap,gR s.ab[i])) a.Lu (a.ID d).idle).1;have j:=a.small.aV;have k:=Qd s.ab i;exact⟨a.small.words,f.small,by grind,λc b=>a.small.each c (PH b)⟩
theorem tG{l:List ByteArray}(d:CX l)(f:n∈l):∃k:jv l n<l.length,l[jv l n]=n∧∀(j:Nat)(a:j<l.length),l[j]=n->j=jv l n:=by
 have g:∀(j:Nat)(a:j<l.length),l[j]=n->jv l n=j:=λj a e=>BC Y (λi c b=>by rw[<-e];exact d i j c a b) (λh=>by grind[ta]);obtain⟨i,c,e⟩:=Pg f<;>grind
theorem dR.KU{R:α->β->Prop}{xs:List α}(h:dR R xs ys)(i:Nat):dR R (xs.eraseIdx i) (ys.eraseIdx i):=by
 refine⟨by rw[P7,P7,h.len],λj a b=>?_⟩;have c:=h.len;rw[P7]at a b;rw[Qf,Qf];split
 ·exact h.get j _ _
 exact h.get (j+1) _ _
theorem qN{p:Heap×aO}:(aZ s i p).ab.eraseIdx i=s.ab.eraseIdx i:=by
 simp only[aZ];grind
end Go.Proofs.YtdlfabkacdgneaaGreatDoor
