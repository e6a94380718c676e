/- Part 14 of what kmemRuns_holds leans on. -/
import Derived.Test.YtdlfabkacdgneaaGreatDoorPackKmemRuns10
import Derived.Test.YtdlfabkacdgneaaGreatDoorPackKmemRuns9
set_option maxHeartbeats 16000000
set_option linter.unusedVariables false
set_option linter.unusedSimpArgs false
set_option linter.defProp false
namespace Go.Proofs.YtdlfabkacdgneaaGreatDoor
open Go.RowKit
variable {n:ByteArray} {a cpu most o:Int} {c:aO} {s:aj} {u:aj×Int} {acc:List Int} {i k:Nat}
theorem eH.Ms{l:List Int}{x:Int}{r:Option (List Int)}(h:eH l most x acc r):(acc.length:Int)<=most->∀a,r=some a->(a.length:Int)<=most:=by
 induction h<;>grind
theorem jl{x n:Int}(h:cJ x=(o,n,0)):(o=0∧n*x<=16)∨(o=1∧n*x<=32)∨(o=2∧n*x<=64):=by
 unfold cJ at h;split at h
 ·rename_i a;have b:=Rf 16 (show x≠0 by omega);have c:=Rf 32 (show x≠0 by omega);have d:=Rf 64 (show x≠0 by omega)
  grind
 grind
theorem KC(f:aA s)(c:kh s a i k):0<=a∧a<4096:=by
 have g:=(f.each i c.hi).may;have m:=g.av k c.hk;have n:=jl g.lay;have d:=c.obj;rw[nc c.hi c.hk]at d;unfold fG at d;simp only[Bool.and_eq_true,decide_eq_true_eq]at d;have b:=m.live;cases h:bx s.Heap.Live ((s.ab[i]'c.hi).ae[k]'c.hk).At with
 | false=>
   grind[so]
 | true=>
   obtain⟨j,e⟩:=fR h;rw[ur h j]at b;obtain⟨_,o,l,_⟩:=f.heap.live.each _ j;rw[b]at l;rw[e]at o l;obtain⟨p,q⟩:=bq ((s.ab[i]'c.hi).bd*(s.ab[i]'c.hi).ax);rw[q]at n d;grind[pw]
def jH(c:aO)(x:Slab):Bool:=decide (x.ai=c.bd) && !decide (x.At∈c.ao)
def iW(c:aO)(k:Nat)(x:Slab)(a:Int):aO:=⟨c.Names,c.ax,c.bd,c.Order,c.ae.set k ⟨x.At,x.ai+1,a⟩,c.ao⟩
theorem C2.put(h:C2 c)(d:k<c.ae.length)(a:Int):C2 (iW c k c.ae[k] a):=by
 refine⟨⟨h.small.names,by simp only[iW,List.length_set];exact h.small.av,h.small.aD⟩,λy b=>?_⟩;rcases Pu b with b|rfl
 ·exact h.at_ y b
 exact h.at_ c.ae[k] (Pf d)
def F7(s:aj)(x:Slab)(a:Int):aj:=⟨s.Words.set a.toNat x.bR,s.Heap,s.ab⟩
noncomputable def tC(s:aj)(c:aO)(k:Nat)(x:Slab)(cpu a:Int):Heap×aO:=
 if jH (iW c k x a) ⟨x.At,x.ai+1,a⟩ && decide (1<(iW c k x a).ae.countP (jH (iW c k x a)))then((ee s.Heap cpu x.At).2,dA (iW c k x a) k)else(s.Heap,iW c k x a)
inductive nt(s:aj)(n:ByteArray)(cpu a:Int):aj×Int->Prop where
 | ask (h:ga s n cpu≠0):nt s n cpu a (.zero,ga s n cpu)
 | none {u:Int×Int×Int} (h:ga s n cpu=0) (hF:gx s a u) (OA:¬(u.2.2=0∧u.1=idxOf (c9 n) s.ab)):nt s n cpu a (.zero,4)
 | put {i k:Nat} (h:ga s n cpu=0) (hF:gx s a (i,k,0)) (e:idxOf (c9 n) s.ab=i) (hi:i<s.ab.length) (hk:k<s.ab[i].ae.length):nt s n cpu a (aZ (F7 s s.ab[i].ae[k] a) i (tC s s.ab[i] k s.ab[i].ae[k] cpu a),0)
theorem nt.c7{v:aj×Int}(x:nt s n cpu a u)(y:nt s n cpu a v):u=v:=by
 cases x with
 | ask h=>cases y<;>grind
 | none h d f=>cases y with
   | ask h'=>omega
   | none=>rfl
   | put h' b g=>exact absurd (by rw[d.c7 b];grind) f
 | put h d e i j=>cases y with
   | ask h'=>omega
   | none h' b c=>exact absurd (by rw[b.c7 d];grind) c
   | put h' b g=>
     have:=d.c7 b;grind
theorem Ha.tC(h:Ha s.Heap)(b:C2 c)(d:k<c.ae.length)(cpu a:Int):Ha (tC s c k c.ae[k] cpu a).1∧C2 (tC s c k c.ae[k] cpu a).2:=by
 unfold Go.Proofs.YtdlfabkacdgneaaGreatDoor.tC;split
 ·exact⟨h.free _ _,(b.put d a).cut _⟩
 exact⟨h,b.put d a⟩
theorem nt.small(x:nt s n cpu a u)(b:s.bU):u.1.small:=by
 cases x with
 | ask|none=>exact aj.gu
 | @put i k h j e d f=>
   have c:=b.Lu.tC (b.ID d) f cpu a;have g:(F7 s s.ab[i].ae[k] a).small:=⟨by simp only[F7,List.length_set];exact b.small.words,b.small.heap,b.small.aV,b.small.each⟩;exact qE g _ c.1 c.2
theorem gx.Mt{i k:Int}(h:gx s a (i,k,0)):∃(b d:Nat),i=b∧k=d∧ef s=true∧∃c:kh s a b d,0<=((s.ab[b]'c.hi).ae[d]'c.hk).ai∧((s.ab[b]'c.hi).ae[d]'c.hk).ai<=64:=by
 cases h with
 | @hit b d e h c f j=>
   refine⟨b,d,Z,Z,h,c,?_⟩;have g:=((dg.1 h).each b c.hi).may;have l:=bM g.lay;have m:=f.1.Ms (by grind) e Z;have n:=f.2.1;omega
variable {per size:Int} {ws M2:List Int}
inductive jQ(ws:List Int)(size per t:Int):Int->Nat->Prop where
 | zero (x:Int):jQ ws size per t x 0
 | succ {k n:Nat} (hk:k<ws.length) (ho:fG size per t k=true) (h:jQ ws size per t ws[k] n):jQ ws size per t k (n+1)
theorem jQ.IK{t x:Int}{r:Option (List Int)}(h:eH ws most x acc r):∀out,r=some out->(∀a∈out,fG size per t a=true)->jQ ws size per t x (out.length-acc.length):=by
 induction h with
 | done out=>
   intro o e _;cases e;rw[Qy];exact .zero _
 | bad=>grind
 | @step k acc r h1 hk h3 h ih=>
   intro o e ho;have h2:=ih o e ho
   have hm:∀{x':Int}{L2:List Int}{r':Option (List Int)},eH ws most x' L2 r'->∀o',r'=some o'->(∀a∈L2,a∈o')∧L2.length<=o'.length:=by
    intro x' L2 r' hf;induction hf<;>grind
   obtain⟨a1,a2⟩:=hm h o e;rw[PI,List.length_singleton]at a2 h2;have e2:o.length-acc.length=(o.length-(acc.length+1))+1:=Y;rw[e2];exact .succ hk (ho _ (a1 _ fy)) h2
theorem jQ.L4{x:Slab}{a:List Int}(h:bK ws size per x a):jQ ws size per x.At x.bR x.ai.toNat:=by
 have b:=jQ.IK (t:=x.At) h.1 a Z h.2.2;have c:=h.2.1;grind
theorem jQ.head{t x:Int}{n:Nat}(h:jQ ws size per t x (n+1)):(0<=x∧x<(ws.length:Int))∧jQ ws size per t (ws.getD x.toNat 0) n:=by
 cases h<;>grind
theorem jQ.j7{t x:Int}{n:Nat}(h:jQ ws size per t x n)(c:M2.length=ws.length)(d:∀(k:Nat)(a:k<ws.length),fG size per t k=true->M2[k]'Y=ws[k]):jQ M2 size per t x n:=by
 induction h with
 | zero=>exact .zero _
 | @succ k n a b h e=>
   refine .succ Y b ?_
   grind
theorem jR(a s m:Nat)(l:List Int):∀k,(jm a s m l k).length=l.length
 | 0=>rfl
 | k+1=>by simp only[jm,List.length_set];exact jR a s m l k
theorem pu(a s m:Nat)(l:List Int)(j:Nat):∀(k:Nat),(∀i,i<k->j≠a+i*s)->(jm a s m l k)[j]?=l[j]?
 | 0,_=>rfl
 | k+1,h=>by
   simp only[jm];rw[List.getElem?_set,if_neg (λe=>h k Y e.symm)];exact pu a s m l j k (λi b=>h i Y)
theorem uM(a s m:Nat)(c:0<s)(l:List Int)(i:Nat)(d:a+i*s<l.length):∀(k:Nat),i<k->(jm a s m l k)[a+i*s]?=some (if i+1<m then(a:Int)+((i:Int)+1)*s else-1)
 | 0,h=>by omega
 | k+1,h=>by
   simp only[jm];rw[List.getElem?_set];by_cases e:k=i
   ·subst e;rw[if_pos Z,if_pos (by rw[jR];exact d)]
   have b:a+k*s≠a+i*s:=λf=>by
    have:=Nat.eq_of_mul_eq_mul_right c (Nat.add_left_cancel f);exact e this
   rw[if_neg b];exact uM a s m c l i d k Y
structure OB(ws:List Int)(lv:List Block)(c:aO)(x:Slab):Prop where
 at_:0<=x.At∧x.At<=255
 al:x.At % pw c.Order=0
 live:∃b∈lv,b.At=x.At
 free:0<=x.ai∧x.ai<=64
 walk:jQ ws c.ax c.bd x.At x.bR x.ai.toNat
structure mn(s:aj)(c:aO):Prop where
 words:s.Words.length=4096
 most:s.ab.length<=20
 lay:cJ c.ax=(c.Order,c.bd,0)
 ns:∀(k:Nat)(h:k<c.ao.length),c.ao[k]= -1∨c.ae.any (sq c.ao[k])=true
 next:c.ae.Pairwise λx y=>x.At<y.At
 oK:∀x∈c.ae,OB s.Words s.Heap.Live c x
theorem mn.of(f:aA s)(p:i<s.ab.length):mn s s.ab[i]:=by
 have j:=(f.each i p).may;have q:=bM j.lay;refine⟨f.words,f.most,j.lay,λk h=>?_,?_,λx r=>?_⟩
 ·rcases j.ns k h with g|⟨_,g⟩<;>grind
 ·rw[Pq]
  have t:∀(a b:Nat)(u:a<s.ab[i].ae.length)(hb:b<s.ab[i].ae.length),a<b->s.ab[i].ae[a].At<s.ab[i].ae[b].At:=by
   intro a b;induction b with
   | zero=>omega
   | succ b y=>
     intro u hb h;have z:=(j.av (b+1) hb).next Y
     grind
  omega
 obtain⟨k,v,rfl⟩:=Pg r;have l:=j.av k v;obtain⟨m,h⟩:=l.chain;obtain⟨n,w⟩:=l.at_ f.heap q.2.1.1;obtain⟨d,e⟩:=fR n;obtain⟨A,B,o,_⟩:=f.heap.live.each _ d;have c:=l.live;rw[ur n d]at c;rw[e,c]at o;have C:=h.1.Ms (by grind) m Z;have D:=h.2.1;exact⟨w,o,⟨_,Pf d,e⟩,by omega,.L4 h⟩
variable {α:Type} {j:Nat} {p:α -> Bool}
def nd(c:aO)(x:Slab):Bool:=decide (0<x.ai) && !decide (x.At∈c.ao)
def xZ(c:aO)(cpu:Nat):Int:=idxOf (sq (c.ao.getD cpu 0)) c.ae
def ey(c:aO)(k:Nat):Slab:=c.ae.getD k ⟨0,0,0⟩
theorem eR(h:k<c.ae.length):ey c k=c.ae[k]:=by simp[ey,h]
def jS(c:aO)(cpu:Nat):Int:=if 0<=xZ c cpu∧0<(ey c (xZ c cpu).toNat).ai then xZ c cpu else idxOf (nd c) c.ae
def dl(c:aO)(cpu k:Nat)(v:Int):aO:=⟨c.Names,c.ax,c.bd,c.Order,c.ae.set k ⟨(ey c k).At,(ey c k).ai-1,v⟩,c.ao.set cpu (ey c k).At⟩
def eU(c:aO)(a:Int):Nat:=(c.ae.takeWhile λx=>decide (x.At<a)).length
theorem lD(c:aO)(a:Int):eU c a<=c.ae.length:=(List.takeWhile_sublist _).length_le
def de(c:aO)(a:Int):aO:=⟨c.Names,c.ax,c.bd,c.Order,aP c.ae (eU c a) ⟨a,c.bd,16*a⟩,c.ao⟩
def jJ(s:aj)(l:List Int):aj:=⟨l,s.Heap,s.ab⟩
def gI(n:Nat)(x s m:Int):Prop:=1<=s∧s<=64∧1<=m∧m<=n∧0<=x∧x+s*m<=n
def df(l:List Int)(x s m:Int):List Int:=jm x.toNat s.toNat m.toNat l m.toNat
structure He where
 ws:List Int
 h:Heap
 c:aO
 k:Nat
inductive mb(s:aj)(c:aO)(cpu:Nat):Option He×Int->Prop where
 | xF {k:Nat} (h:jS c cpu=k):mb s c cpu (some ⟨s.Words,s.Heap,c,k⟩,0)
 | room {u:Heap×Int×Int} (h:jS c cpu<0) (ha:cj s.Heap (cpu:Int) c.Order 0 u) (he:u.2.2≠0):mb s c cpu (none,u.2.2)
 | chain {u:Heap×Int×Int} (h:jS c cpu<0) (ha:cj s.Heap (cpu:Int) c.Order 0 u) (he:u.2.2=0) (hc:¬gI s.Words.length (16*u.2.1) c.ax c.bd):mb s c cpu (none,1)
 | new {u:Heap×Int×Int} (h:jS c cpu<0) (ha:cj s.Heap (cpu:Int) c.Order 0 u) (he:u.2.2=0) (hc:gI s.Words.length (16*u.2.1) c.ax c.bd):mb s c cpu (some ⟨df s.Words (16*u.2.1) c.ax c.bd,u.1,de c u.2.1,eU c u.2.1⟩,0)
theorem mb.c7{cpu:Nat}{u v:Option He×Int}(x:mb s c cpu u)(y:mb s c cpu v):u=v:=by
 cases x with
 | @xF k h=>cases y<;>grind
 | room h d f=>cases y with
   | xF h'=>omega
   | room h' a b=>rw[d.c7 a]
   | chain h' a b|new h' a b=>exact absurd (by rw[d.c7 a];grind) f
 | chain h d f g=>cases y with
   | xF h'=>omega
   | room h' a b=>exact absurd (by rw[a.c7 d];exact f) b
   | chain h' a b e=>rfl
   | new h' a b e=>exact absurd (by rw[d.c7 a];grind) g
 | new h d f g=>cases y with
   | xF h'=>omega
   | room h' a b=>exact absurd (by rw[a.c7 d];exact f) b
   | chain h' a b e=>exact absurd (by rw[a.c7 d];exact g) e
   | new h' a b e=>rw[d.c7 a]
def kC(s:aj)(i cpu:Nat):Option He×Int->aj×Int×Int
 | (some m,_)=>(aZ (jJ s m.ws) i (m.h,dl m.c cpu m.k (m.ws.getD (ey m.c m.k).bR.toNat 0)),(ey m.c m.k).bR,0)
 | (none,e)=>(.zero,0,e)
theorem vn{cpu:Nat}{m:Option He×Int}(f:i<s.ab.length)(x:mb s s.ab[i] cpu m)(e:s.bU)(l:(s.ab[i].ae.length+1)*24<=140737488355328):(kC s i cpu m).1.small:=by
 have g:=e.ID f;have b:=e.small;have d:=g.small;cases x with
 | room|chain=>exact aj.gu
 | xF h=>
   refine⟨b.words,b.heap,by simp only[kC,aZ,jJ,List.length_set];exact b.aV,λc a=>?_⟩;rcases Pu a with a|rfl
   ·exact b.each c a
   exact⟨d.names,by simp only[dl,List.length_set];grind,by simp only[dl,List.length_set];exact d.aD⟩
 | new h j n k=>
   refine⟨by simp only[kC,aZ,jJ,df,jR];exact b.words,j.small b.heap,by simp only[kC,aZ,jJ,List.length_set];exact b.aV,λc a=>?_⟩;rcases Pu a with a|rfl
   ·exact b.each c a
   refine⟨d.names,?_,by simp only[dl,de,List.length_set];exact d.aD⟩
   grind[dl,de,List.length_set,bT,lD]
inductive mo(s:aj)(n:ByteArray)(cpu:Int):aj×Int×Int->Prop where
 | ask (h:ga s n cpu≠0):mo s n cpu (.zero,0,ga s n cpu)
 | A9 {i:Nat} {m:Option He×Int} (h:ga s n cpu=0) (e:idxOf (c9 n) s.ab=i) (hi:i<s.ab.length) (hm:mb s s.ab[i] cpu.toNat m):mo s n cpu (kC s i cpu.toNat m)
theorem mo.c7{u v:aj×Int×Int}(x:mo s n cpu u)(y:mo s n cpu v):u=v:=by
 cases x with
 | ask h=>cases y<;>grind
 | @A9 i _ h e c b=>cases y with
   | ask h'=>omega
   | @A9 j _ h' d f a=>
     obtain rfl:i=j:=Y;rw[b.c7 a]
theorem C8(h:j<eU c a)(b:j<c.ae.length):c.ae[j].At<a:=by
 unfold eU at h;have d:(c.ae.takeWhile λx=>decide (x.At<a))[j]=c.ae[j]:=List.IsPrefix.getElem (List.takeWhile_prefix _) h;have:=List.all_takeWhile (p:=λx:Slab=>decide (x.At<a)) (l:=c.ae);grind
theorem Hf:∀(l:List α)(x:α),l[(l.takeWhile p).length]?=some x->p x=false
 | [],x,h=>by simp at h
 | a::r,x,h=>by
   rw[List.takeWhile_cons]at h;cases e:p a with
   | false=>
     rw[e]at h;simp at h;subst h;exact e
   | true=>
     rw[e]at h;simp at h;exact Hf r x h
theorem wa(e:k<=c.ae.length)(f:∀(j:Nat)(g:j<c.ae.length),j<k->c.ae[j].At<a)(b:∀h:k<c.ae.length,¬c.ae[k].At<a):eU c a=k:=by
 rcases PX (eU c a) k with h|h|h
 ·exfalso;have d:eU c a<c.ae.length:=Y;have i:=Hf (p:=λx:Slab=>decide (x.At<a)) c.ae c.ae[eU c a] (Pp d);grind
 ·exact h
 exact absurd (C8 h (by grind[lD])) (b _)
theorem oL(a:mn s c):c.ae.length<=256:=by
 have e:=a.next;rw[Pq]at e
 have b:∀(k:Nat)(d:k<c.ae.length),(k:Int)<=c.ae[k].At:=by
  intro k;induction k with
  | zero=>intro d;have:=(a.oK _ (Pf d)).at_;omega
  | succ k f=>
    grind
 rcases PJ 256 c.ae.length with h|h
 ·have g:=b 256 h;have i:=(a.oK _ (Pf h)).at_;omega
 omega
theorem BX(a:mn s c){cpu:Nat}(d:cpu<c.ao.length):
 (c.ao[cpu]= -1∧xZ c cpu= -1)∨(0<=c.ao[cpu]∧∃(k:Nat)(b:k<c.ae.length),xZ c cpu=k∧c.ae[k].At=c.ao[cpu]):=by
 have f:=a.ns cpu d;have e:c.ao.getD cpu 0=c.ao[cpu]:=by grind
 unfold xZ;rw[e];rcases f with h|h
 ·left;refine⟨h,(iv λj g=>?_).1⟩;rw[h];have:=(a.oK _ (Pf g)).at_;grind[List.getElem_mem,sq,decide_eq_false]
 right;obtain⟨k,b,i,_,l⟩:=eK h;have m:=of_decide_eq_true i;have:=(a.oK _ (Pf b)).at_;grind
theorem mn.first(a:mn s c){x:Slab}(b:x∈c.ae)(e:0<x.ai):(0<=x.bR∧x.bR<4096)∧jQ s.Words c.ax c.bd x.At (s.Words.getD x.bR.toNat 0) (x.ai-1).toNat:=by
 have h:=(a.oK x b).walk;rw[show x.ai.toNat=(x.ai-1).toNat+1 by omega]at h;have d:=h.head;rw[a.words]at d;grind
structure Nx(s:aj)(m:He):Prop where
 hk:m.k<m.c.ae.length
 len:m.ws.length=4096
 first:0<=m.c.ae[m.k].bR∧m.c.ae[m.k].bR<4096
 free:1<=m.c.ae[m.k].ai∧m.c.ae[m.k].ai<=64
theorem EG{l:List α}{p:Nat}{x:α}(a:p<=l.length)(h:p<(aP l p x).length):(aP l p x)[p]=x:=by
 have:=jP (x:=x) a;grind
theorem Hg{cpu:Nat}(h:jS c cpu=k):∃d:k<c.ae.length,0<c.ae[k].ai:=by
 unfold jS at h;split at h
 ·grind[Nat.lt_or_ge,ey,List.getElem?_eq_none,eR]
 have a:=iN (nd c) c.ae;rw[h,decide_eq_true Y]at a;obtain⟨j,e,f,_,b⟩:=eK a.symm;rw[h]at b;obtain rfl:k=j:=Y
 simp_all[nd,Bool.and_eq_true,decide_eq_true_eq]
theorem mb.Mp(b:mn s c){cpu:Nat}{u:Option He×Int}(x:mb s c cpu u):∀m,u.1=some m->Nx s m:=by
 intro m e;cases x with
 | room|chain=>cases e
 | xF h=>
   simp only[Option.some.injEq]at e;subst e;obtain⟨a,d⟩:=Hg h;have:=(b.oK _ (Pf a)).free;exact⟨a,b.words,(b.first (Pf a) d).1,by grind⟩
 | @new u h f g k=>
   simp only[Option.some.injEq]at e;subst e;have i:=f.at_ g;have l:=bM b.lay;have j:=lD c u.2.1
   have a:eU c u.2.1<(de c u.2.1).ae.length:=by
    simp only[de];grind[de,bT]
   have e:(de c u.2.1).ae[eU c u.2.1]=⟨u.2.1,c.bd,16*u.2.1⟩:=EG j a;refine⟨a,by simp only[df,jR];exact b.words,?_,?_⟩;all_goals grind
variable {r:(ap×ap)×List aC×Int} {f m0 m1 zi:Int} {L:List aC} {M:He} {z:ap}
theorem VS.tz{s:ap×ap}(h:VS s):∀z∈[s.1,s.2],ew z:=λz a=>by
 obtain⟨b,c,d,_⟩:=h.kD.ok;obtain⟨e,f,g,_⟩:=h.j8.ok;simp only[List.mem_cons,List.not_mem_nil,or_false]at a;unfold ew<;>grind
theorem gq.align{t:Int}{u:ap×Int×Int}(h:gq z o t u)(a:u.2.2=0):u.2.1 % pw o=0:=by
 cases h with
 | bad|range|kind|room=>simp at a
 | @ok k st b f g c d=>
   have e:=dj.1 b;obtain⟨_,i,j⟩:=d.ord;obtain⟨⟨l,m,n,p,q⟩,_⟩:=e.dm k c<;>grind[eE]
theorem iY.align{t:Int}{s:ap×ap}(h:iY m0 m1 cpu zi o t f s L (some r)):r.2.2 % pw o=0:=by
 cases h with
 | list a d g=>
   rw[a,im];grind
 | tz a e b c=>exact b.align c
 | fill a d e b c i=>exact b.align c
theorem iZ.align{t:Int}{s:ap×ap}(h:iZ m0 m1 cpu o t f s L (some r)):r.2.2 % pw o=0:=by
 cases h with
 | tf _ h=>exact h.align
 | low _ h=>exact h.align
theorem ms{h:Heap}{t:Int}{y:Block}:y∈dc h a o t↔y=⟨a,o,t⟩∨y∈h.Live:=j6
structure Nz(h:Heap)(o:Int)(u:Heap×Int×Int):Prop where
 at_:0<=u.2.1∧u.2.1<256
 al:u.2.1 % pw o=0
 ne:∀b∈h.Live,b.At≠u.2.1
 xF:∀b∈h.Live,b∈u.1.Live
 new:∃b∈u.1.Live,b.At=u.2.1
 tz:∀z∈u.1.aK,ew z
theorem cj.new{h:Heap}{u:Heap×Int×Int}(a:cj h cpu o f u)(l:u.2.2=0):Nz h o u:=by
 have d:=a.at_ l;cases a with
 | bad|range|form|room=>simp at l
 | once hb n p c j=>
   obtain⟨q,r,F⟩:=fC (ch.1 hb);rw[F.d.bA]at c;simp only[List.cons.injEq,and_true]at c;obtain⟨rfl,rfl⟩:=c;have g:=j.found F.d.start.vs;obtain⟨i,e,s,k⟩:=lq F g.2;exact⟨d,j.align,F.nO e k,λb hb=>ms.2 (.inr hb),⟨_,ms.2 (.inl Z),Z⟩,g.1.tz⟩
 | kA hb n p c j m=>
   obtain⟨q,r,F⟩:=fC (ch.1 hb);rw[F.d.bA]at c;simp only[List.cons.injEq,and_true]at c;obtain⟨rfl,rfl⟩:=c;have g:=m.found (dN F.d).vs;obtain⟨i,e,s,k⟩:=ku F g.2;exact⟨d,m.align,F.nO e k,λb hb=>ms.2 (.inr hb),⟨_,ms.2 (.inl Z),Z⟩,g.1.tz⟩
theorem I1{t:Int}(d:cJ size=(o,per,0))(e:a % pw o=0)(f:t % pw o=0)(h:t≠a){k:Int}(c:fG size per t k=true)(j:Nat)(p:(j:Int)<per):k≠16*a+j*size:=by
 obtain⟨r,s,u⟩:=bM d;unfold fG at c;simp only[Bool.and_eq_true,decide_eq_true_eq]at c
 have g:(j:Int)*size+size<=per*size:=by
  have:=Qi (show(j:Int)+1<=per by omega) (show 0<=size by omega)
  grind
 have i:0<=(j:Int)*size:=Qm Y Y;obtain⟨q,l⟩:=bq ((j:Int)*size);obtain⟨m,n⟩:=bq (per*size);have b:=jl d;rw[l]at g i⊢;rw[n]at g c b;rcases b with⟨rfl,b⟩|⟨rfl,b⟩|⟨rfl,b⟩
 ·omega
 ·rw[show pw 1=2 from Z]at e f;omega
 rw[show pw 2=4 from Z]at e f;omega
theorem zY(f:cJ size=(o,per,0))(g:gI ws.length (16*a) size per):∀(j m:Nat),(m:Int)+j=per->jQ (df ws (16*a) size per) size per a (16*a+m*size) j
 | 0,m,_=> .zero _
 | j+1,m,h=>by
   obtain⟨d,c2,k,n,p,q⟩:=g
   have t:(m:Int)*size+size<=per*size:=by
    have:=Qi (show(m:Int)+1<=per by omega) (show 0<=size by omega)
    grind
   have u:0<=(m:Int)*size:=Qm Y Y;rw[QR size per]at q
   have e:16*a+(m:Int)*size=(((16*a).toNat+m*size.toNat:Nat):Int):=by
    grind
   have b:(16*a).toNat+m*size.toNat<ws.length:=Y;have r:(df ws (16*a) size per).length=ws.length:=by grind[df,jR]
   have c:=uM (16*a).toNat size.toNat per.toNat Y ws m b per.toNat Y;rw[e];refine .succ Y ?_ ?_
   ·rw[<-e];exact xr d Y Z
   have s:(df ws (16*a) size per)[(16*a).toNat+m*size.toNat]'Y=if m+1<per.toNat then(((16*a).toNat:Nat):Int)+((m:Int)+1)*(size.toNat:Nat)else-1:=by
    have:=Pp (l:=df ws (16*a) size per) (i:=(16*a).toNat+m*size.toNat) Y;unfold df at this;rw[c]at this;exact(Option.some.inj this).symm
   rw[s];split
   ·have:=zY f ⟨d,c2,k,n,p,by grind⟩ j (m+1) Y
    grind
   obtain rfl:j=0:=Y;exact .zero _
theorem mn.grow(a:mn s c){u:Heap×Int×Int}(l:Nz s.Heap c.Order u)(B:gI s.Words.length (16*u.2.1) c.ax c.bd){cs:List aO}(t:cs.length=s.ab.length):mn ⟨df s.Words (16*u.2.1) c.ax c.bd,u.1,cs⟩ (de c u.2.1):=by
 have L:=bM a.lay;have n:(df s.Words (16*u.2.1) c.ax c.bd).length=s.Words.length:=by grind[df,jR]
 have C:=lD c u.2.1
 have o:∀x∈c.ae,x.At≠u.2.1:=λx d=>by
  obtain⟨b,hb,e⟩:=(a.oK x d).live;rw[<-e];exact l.ne b hb
 have q:∀x∈c.ae,x∈(de c u.2.1).ae:=λx d=>by
  simp only[de];grind[de,j6]
 have r:=a.next;have i:=r;rw[Pq]at i;refine⟨by simp only;rw[n];exact a.words,by simp only;rw[t];exact a.most,a.lay,λk h=>?_,?_,λx d=>?_⟩
 ·rcases a.ns k h with g|g
  ·exact .inl g
  right;rw[Pn]at g⊢;obtain⟨y,D,g⟩:=g;exact⟨y,q y D,g⟩
 ·have e:c.ae=c.ae.take (eU c u.2.1)++c.ae.drop (eU c u.2.1):=(Pz _ _).symm;have A:=r;rw[e,PN]at A;obtain⟨v,E,M⟩:=A
  have N:∀x∈c.ae.take (eU c u.2.1),x.At<u.2.1:=λx d=>by
   obtain⟨j,w,rfl⟩:=Pg d;simp only[List.length_take]at w;rw[PY];exact C8 Y Y
  have O:∀x∈c.ae.drop (eU c u.2.1),u.2.1<x.At:=λx d=>by
   obtain⟨j,w,rfl⟩:=Pg d;have F:j<c.ae.length-eU c u.2.1:=by grind
   rw[P8];have z:eU c u.2.1<c.ae.length:=Y;have G:=Hf (p:=λx:Slab=>decide (x.At<u.2.1)) c.ae c.ae[eU c u.2.1] (Pp z);have P:=of_decide_eq_false G;have Q:=o _ (Pf (show eU c u.2.1+j<c.ae.length by omega));rcases Ps j with rfl|H
   ·grind
   have:=i (eU c u.2.1) (eU c u.2.1+j) Y Y Y;omega
  simp only[de];unfold aP<;>grind
 simp only[de]at d⊢;have f:=j6.1 d;have I:=l.at_;rcases f with rfl|f
 ·refine⟨by grind,l.al,l.new,by grind,?_⟩;have:=zY a.lay B c.bd.toNat 0 Y
  grind
 have m:=a.oK x f;obtain⟨b,hb,e⟩:=m.live;refine⟨m.at_,m.al,⟨b,l.xF b hb,e⟩,m.free,m.walk.j7 n λk J K=>?_⟩
 have v:(jm (16*u.2.1).toNat c.ax.toNat c.bd.toNat s.Words c.bd.toNat)[k]?=s.Words[k]?:=pu _ _ _ _ _ _ λj w R=>by
  have E:=I1 a.lay l.al m.al (o x f) K j Y
  grind
 rw[Pp J,Pp (by grind)]at v;exact Option.some.inj v
theorem mn.take(a:mn s c){cpu:Nat}(i:k<c.ae.length)(p:0<c.ae[k].ai){cs:List aO}(m:cs.length=s.ab.length):mn ⟨s.Words,s.Heap,cs⟩ (dl c cpu k (s.Words.getD (ey c k).bR.toNat 0)):=by
 have n:=Pf i;have d:=a.oK _ n;have q:=(a.first n p).2;have r:=eR i
 have b:∀t,c.ae.any (sq t)=true->(c.ae.set k ⟨c.ae[k].At,c.ae[k].ai-1,s.Words.getD c.ae[k].bR.toNat 0⟩).any (sq t)=true:=λt g=>by
  rw[Pn]at g⊢;obtain⟨y,u,g⟩:=g;obtain⟨j,v,rfl⟩:=Pg u;by_cases e:k=j
  ·subst e;exact⟨_,List.mem_set i _,g⟩
  refine⟨_,Pf (show j<_ by grind),?_⟩
  grind
 unfold dl;rw[r];refine⟨a.words,by simp only;rw[m];exact a.most,a.lay,λj h=>?_,?_,λx f=>?_⟩
 ·simp only at h⊢;rw[PS]at h;rw[P4];split
  ·right;refine b _ ?_;rw[Pn];exact⟨_,n,by unfold sq<;>grind⟩
  rcases a.ns j h with g|g<;>grind
 ·have o:=a.next;have e:∀l:List Slab,(l.Pairwise λx y=>x.At<y.At)↔(l.map λx=>x.At).Pairwise (· <·):=λl=>by grind
  rw[e]at o;grind[List.map_set,set,List.length_map,List.set_getElem_self]
 simp only at f;rcases Pu f with f|rfl
 ·have h:=a.oK x f;exact⟨h.at_,h.al,h.live,h.free,h.walk⟩
 have:=d.free;exact⟨d.at_,d.al,d.live,by grind,q⟩
structure Bk(s:aj)(i cpu:Nat):Prop where
 bU:s.bU
 hi:i<s.ab.length
 inv:mn s s.ab[i]
 KV:cpu<s.ab[i].ao.length
def qO(s:aj)(i cpu:Nat)(M:He):aj:=aZ (jJ s M.ws) i (M.h,dl M.c cpu M.k (M.ws.getD (ey M.c M.k).bR.toNat 0))
theorem Bk.A9{cpu:Nat}(h:Bk s i cpu)(x:mb s (s.ab[i]'h.hi) cpu (some M,0)):Bk (qO s i cpu M) i cpu:=by
 have q:=h.hi;have c:=x.Mp h.inv M Z;have t:=oL h.inv;have k:=vn q x h.bU Y;have d:(s.ab.set i (dl M.c cpu M.k (M.ws.getD (ey M.c M.k).bR.toNat 0))).length=s.ab.length:=PS ..
 have e:mn ⟨M.ws,M.h,s.ab⟩ M.c∧(∀z∈M.h.aK,ew z)∧M.c.Names=s.ab[i].Names∧M.c.ao.length=s.ab[i].ao.length:=by
  cases x with
  | xF u=>exact⟨h.inv,h.bU.bA,Z,Z⟩
  | new u v w y=>
    have b:=v.new w;exact⟨h.inv.grow b y Z,b.tz,Z,Z⟩
 obtain⟨hb,A,l,m⟩:=e;have o:=c.free;have f:=hb.take (cpu:=cpu) c.hk Y d
 have p:i<(qO s i cpu M).ab.length:=by
  simp only[qO,aZ,jJ];grind
 have g:(qO s i cpu M).ab[i]=dl M.c cpu M.k (M.ws.getD (ey M.c M.k).bR.toNat 0):=by grind[qO,aZ,jJ,List.getElem_set_self]
 refine⟨⟨k,A,λc' a r j=>?_,λc' a n b=>?_⟩,p,?_,?_⟩
 ·simp only[qO,aZ,jJ]at a;rcases Pu a with a|rfl
  ·exact h.bU.av c' a r j
  have:=(f.oK r j).at_;grind
 ·simp only[qO,aZ,jJ]at a;rcases Pu a with a|rfl
  ·exact h.bU.names c' a n b
  simp only[dl]at b;rw[l]at b;exact h.bU.names _ (Pf q) n b
 ·rw[g];exact f
 rw[g];simp only[dl,List.length_set];rw[m];exact h.KV
inductive j2(i cpu:Nat):Nat->aj->List Int->aj×List Int×Int->Prop where
 | done {s:aj} {l:List Int}:j2 i cpu 0 s l (s,l,0)
 | bad {k:Nat} {s:aj} {l:List Int} {m:Option He×Int} (hi:i<s.ab.length) (hm:mb s s.ab[i] cpu m) (h:m.1=none):j2 i cpu (k+1) s l (.zero,[],m.2)
 | more {k:Nat} {s:aj} {l:List Int} {M:He} {u:aj×List Int×Int} (hi:i<s.ab.length) (hm:mb s s.ab[i] cpu (some M,0)) (h:j2 i cpu k (qO s i cpu M) (l++[(ey M.c M.k).bR]) u):j2 i cpu (k+1) s l u
theorem j2.c7{cpu:Nat}{l:List Int}{u v:aj×List Int×Int}(x:j2 i cpu k s l u):j2 i cpu k s l v->u=v:=by
 induction x with
 | done=>intro y;cases y;rfl
 | bad d c h=>intro y;cases y with
   | bad b a h'=>rw[c.c7 a]
   | more b a _=>rw[c.c7 a]at h;cases h
 | more d c h f=>intro y;cases y with
   | bad b a h'=>rw[<-c.c7 a]at h';cases h'
   | more b a h'=>
     have e:=c.c7 a;grind
theorem j2.small{cpu:Nat}{l:List Int}{u:aj×List Int×Int}(x:j2 i cpu k s l u):Bk s i cpu->u.1.small∧u.2.1.length<=l.length+k:=by
 induction x with
 | done=>exact λh=>⟨h.bU.small,Ph _⟩
 | bad=>simp_all[aj.gu,Nat.zero_le]
 | more d a h b=>
   intro c;have:=b (c.A9 a);grind
inductive kb(s:aj)(n:ByteArray)(cpu many:Int):aj×List Int×Int->Prop where
 | ask (h:ga s n cpu≠0):kb s n cpu many (.zero,[],ga s n cpu)
 | range (h:ga s n cpu=0) (hm:¬(1<=many∧many<=256)):kb s n cpu many (.zero,[],1)
 | A9 {i:Nat} {u:aj×List Int×Int} (h:ga s n cpu=0) (hm:1<=many∧many<=256) (e:idxOf (c9 n) s.ab=i) (hr:j2 i cpu.toNat many.toNat s [] u):kb s n cpu many u
theorem kb.c7{many:Int}{u v:aj×List Int×Int}(x:kb s n cpu many u)(y:kb s n cpu many v):u=v:=by
 cases x with
 | ask h=>cases y<;>grind
 | range h b=>cases y<;>grind
 | @A9 i _ h b e c=>cases y with
   | ask h'=>omega
   | range _ d=>omega
   | @A9 j _ _ _ f a=>
     obtain rfl:i=j:=Y;exact c.c7 a
theorem Dd(h:ga s n cpu=0)(f:s.bU):∃i c:Nat,idxOf (c9 n) s.ab=i∧cpu=(c:Int)∧aA s∧Bk s i c:=by
 obtain⟨g,j,a,k⟩:=jj h;obtain⟨i,b,_,_,d⟩:=eK j;have e:=dg.1 g;obtain⟨c,rfl⟩:=Pm a;have l:=(e.each i b).may.aD;exact⟨i,c,d,Z,e,f,b,.of e b,by omega⟩
theorem kb.small{many:Int}{u:aj×List Int×Int}(x:kb s n cpu many u)(b:s.bU):u.1.small∧u.2.1.length<=256:=by
 cases x with
 | ask|range=>exact⟨aj.gu,PL _⟩
 | A9 h g e d=>
   obtain⟨i,c,a,rfl,_,f⟩:=Dd h b;obtain rfl:i=_:=by exact Int.ofNat.inj (a.symm.trans e)
   have:=d.small f;grind
variable {fl:Int} {l:List Block} {z0 z1:ap}
def j5(l:List Block)(i:Nat):Nat:=l.countP λb=>rf b i
def vu(a o:Int)(i:Nat):Nat:=(rf ⟨a,o,0⟩ i).toNat
theorem wg(i:Nat):j5 [] i=0:=rfl
theorem fp(l m:List Block)(i:Nat):j5 (l++m) i=j5 l i+j5 m i:=List.countP_append
theorem tK(b:Block)(i:Nat):j5 [b] i=vu b.At b.Order i:=by
 unfold j5 vu;have:rf ⟨b.At,b.Order,0⟩ i=rf b i:=Z;grind
theorem Ag(b:Block)(l:List Block)(i:Nat):j5 (b::l) i=vu b.At b.Order i+j5 l i:=by
 rw[<-Qn,fp,tK]
theorem mu:ed l i=true↔0<j5 l i:=by
 unfold ed j5<;>simp_all
theorem Df(h:j5 l i<=1):j5 l i=(ed l i).toNat:=by
 cases e:ed l i<;>grind[ed,mu,j5]
theorem rA(a:k<l.length)(i:Nat):j5 l i=j5 (l.eraseIdx k) i+vu l[k].At l[k].Order i:=by
 have e:l=l.take k++l[k]::l.drop (k+1):=by simp
 rw[PV];grind[List.eraseIdx_eq_take_drop_succ,fp,Ag]
theorem uU(l:List Block)(p:Nat)(x:Block)(i:Nat):j5 (aP l p x) i=j5 l i+vu x.At x.Order i:=by
 unfold aP<;>grind[aP,j5,fp,List.take_append_drop,tK]
theorem L9{f:Block->Block}(h:∀b,(f b).At=b.At∧(f b).Order=b.Order)(l:List Block)(i:Nat):j5 (l.map f) i=j5 l i:=by
 unfold j5;rw[List.countP_map];congr 1
 funext b
 simp_all[Function.comp_apply,rf]
theorem Gi(a o:Int)(i:Nat):vu a o i<=1:=by unfold vu<;>grind[vu,rf]
theorem tL:0<vu a o i↔a<=(i:Int)∧(i:Int)<a+pw o:=by
 unfold vu;cases e:rf ⟨a,o,0⟩ i with
 | true=>grind[rf]
 | false=>
   simp only[Bool.toNat_false,Nat.lt_irrefl,false_iff];intro h<;>grind[rf,decide_true,Bool.and_self,Bool.true_eq_false]
theorem Ma{b:Block}(hb:b∈l)(h:b.At<=(i:Int)∧(i:Int)<b.At+pw b.Order):0<j5 l i:=by
 refine mu.1 (Pn.2 ⟨b,hb,?_⟩)
 grind[rf]
theorem Ah{t:Int}:∀{l:List Block},pN l->(∀b∈l,eG f t b)->∀i,j5 l i<=1
 | [],_,_,i=>by simp[j5]
 | b::l,hu,hb,i=>by
   unfold pN at hu;rw[List.pairwise_cons]at hu;have g:=Ah (l:=l) hu.2 (λx d=>hb x (by grind)) i;rw[Ag];have h:=Gi b.At b.Order i;rcases Ps (vu b.At b.Order i)with e|e
   ·omega
   have j:=tL.1 e
   have:j5 l i=0:=by
    rcases Ps (j5 l i)with a|a
    ·exact a
    obtain⟨x,d,c⟩:=Pn.1 (mu.2 a);have:=hu.1 x d;simp only[rf,Bool.and_eq_true,decide_eq_true_eq]at c;grind
   omega
theorem oN(a:bV z):∀b∈z.ai,eG z.aE z.To b:=λb hb=>by
 obtain⟨i,c,rfl⟩:=Pg hb;exact a.dm i c
theorem EN(a:bV z)(i:Nat):j5 z.ai i<=1:=Ah (mN a) (oN a) i
theorem Hn{q:Int}(a:1<=q)(b:q<=4):pw q=2*pw (q-1):=by
 have:=kG (o:=q-1) Y Y
 grind
theorem KX{q:Int}(b:1<=q)(c:q<=4)(i:Nat):vu a q i=vu a (q-1) i+vu (a+pw (q-1)) (q-1) i:=by
 have d:=Hn b c;grind[Hn,bP,tL,pw,Gi]
theorem Ai{ty a:Int}(i:Nat):∀(k:Nat)(q:Int)(l:List Block),(k:Int)<=q->q<=4->j5 (jO ty a k q l) i+vu a (q-k) i=j5 l i+vu a q i
 | 0,q,l,_,_=>by simp[jO]
 | k+1,q,l,h,h4=>by
   have b:=Ai (ty:=ty) (a:=a) i k (q-1) (pH ty a q l) Y Y;have e:j5 (pH ty a q l) i=j5 l i+vu (a+pw (q-1)) (q-1) i:=uU _ _ _ _;have c:=KX (a:=a) (q:=q) Y h4 i;simp only[jO];grind
theorem I5(z:ap)(b:Block)(t:Int)(st:Bool)(i:Nat):j5 (fJ z b t st) i=j5 z.ai i:=by
 unfold fJ fY<;>grind[fJ,fY,L9,CF]
theorem gq.j5{t:Int}{u:ap×Int×Int}(h:gq z o t u)(c:u.2.2=0)(i:Nat):Go.Proofs.YtdlfabkacdgneaaGreatDoor.j5 z.ai i=Go.Proofs.YtdlfabkacdgneaaGreatDoor.j5 u.1.ai i+vu u.2.1 o i:=by
 cases h with
 | bad|range|kind|room=>simp at c
 | @ok k st d p e f g=>
   have j:=dj.1 d;obtain⟨_,q,l⟩:=g.ord;have b:k<(fJ z z.ai[k] t st).length:=by grind[qe]
   have m:=rA b i;rw[I5,ri j e st f]at m;have n:=Ai (ty:=mS z t st z.ai[k]) (a:=z.ai[k].At) i (z.ai[k].Order-o).toNat z.ai[k].Order ((fJ z z.ai[k] t st).eraseIdx k) Y l;rw[show z.ai[k].Order-((z.ai[k].Order-o).toNat:Int)=o by omega]at n;have r:(o9 z o t z.ai[k] k st).ai=jO (mS z t st z.ai[k]) z.ai[k].At (z.ai[k].Order-o).toNat z.ai[k].Order ((fJ z z.ai[k] t st).eraseIdx k):=Z;grind
def oa(s:ap×ap)(i:Nat):Nat:=j5 s.1.ai i+j5 s.2.ai i
def kZ(l:List Int)(i:Nat):Nat:=j5 (l.map bC) i
def jE(L:List aC)(i:Nat):Nat:=j5 (aM L) i
theorem tM(p:Int)(i:Nat):kZ [p] i=vu p 0 i:=tK _ _
theorem lR(l m:List Int)(i:Nat):kZ (l++m) i=kZ l i+kZ m i:=by grind[kZ,fp]
theorem nP(L M:List aC)(i:Nat):jE (L++M) i=jE L i+jE M i:=by grind[jE,aM,fp]
theorem EO(x:aC)(i:Nat):jE [x] i=kZ x.aq i:=by grind[jE,aM,kZ]
theorem Ce(x:aC)(L:List aC)(i:Nat):jE (x::L) i=kZ x.aq i+jE L i:=by rw[<-Qn,nP,EO]
theorem Aj(L:List aC)(p:Nat)(x:aC)(i:Nat):jE (aP L p x) i=jE L i+kZ x.aq i:=by
 unfold aP<;>grind[aP,jE,nP,List.take_append_drop,EO]
theorem Gj(a:k<L.length)(i:Nat):jE L i=jE (L.eraseIdx k) i+kZ L[k].aq i:=by
 have e:L=L.take k++L[k]::L.drop (k+1):=by simp
 rw[PV];grind[List.eraseIdx_eq_take_drop_succ,nP,Ce]
theorem EP(b:k<L.length)(x:aC)(i:Nat):jE (L.set k x) i+kZ L[k].aq i=jE L i+kZ x.aq i:=by
 have e:L=L.take k++L[k]::L.drop (k+1):=by simp
 have a:L.set k x=L.take k++x::L.drop (k+1):=by grind
 rw[a];grind[nP,Ce]
theorem Ak{s:ap×ap}{t:Int}{u:ap×Int×Int}(h:gq (rU s zi) o t u)(a:u.2.2=0)(i:Nat):oa s i=oa (l9 s zi u.1) i+vu u.2.1 o i:=by
 have:=h.j5 a i;unfold rU at this;unfold oa l9<;>grind
theorem pD{s:ap×ap}{t:Int}{u:ap×Int×Int}(h:gq (rU s zi) o t u)(a:u.2.2=0):(l9 s zi u.1).1.To=s.1.To:=by
 have b:=(h.j7 a).1.kW;unfold rU at b;unfold l9<;>grind
theorem gi.to{t:Int}{s:ap×ap}{l:List Int}{r:(ap×ap)×List Int}(h:gi m0 m1 zi t fl s l r):r.1.1.To=s.1.To:=by
 induction h<;>grind[pD]
theorem iY.to{t:Int}{s:ap×ap}(h:iY m0 m1 cpu zi o t fl s L (some r)):r.1.1.To=s.1.To:=by
 cases h with
 | list=>rfl
 | tz c d a b=>exact pD a b
 | fill c f d a b e=>simp only;rw[e.to,pD a b]
theorem iZ.to{t:Int}{s:ap×ap}(h:iZ m0 m1 cpu o t fl s L (some r)):r.1.1.To=s.1.To:=by
 cases h with
 | tf _ h=>exact h.to
 | low _ h=>exact h.to
theorem gi.j5{t:Int}{s:ap×ap}{l:List Int}{r:(ap×ap)×List Int}(h:gi m0 m1 zi t fl s l r)(i:Nat):oa s i+kZ l i=oa r.1 i+kZ r.2 i:=by
 induction h<;>grind[Ak,lR,tM]
theorem KY{x:aC}(c:bW L x=true)(a:bZ L x≠[])(i:Nat):jE L i=jE (rG L x (bZ L x)) i+vu ((bZ L x).getLast a) 0 i:=by
 obtain⟨d,_⟩:=fK c
 have e:=fk c d
 obtain⟨pg,b⟩:=bq (bZ L x)
 simp only[b]at a⊢
 rw[b]at e
 have f:pg=pg.dropLast++[pg.getLast a]:=(List.dropLast_concat_getLast a).symm
 have g:kZ pg i=kZ pg.dropLast i+vu (pg.getLast a) 0 i:=by
  grind[lR,tM]
 unfold rG
 split
 ·rename_i h
  have:=Gj d i
  rw[<-e]at this;grind[List.eq_nil_of_length_eq_zero,List.length_dropLast,kZ,wg]
 grind[EP,dH]
theorem I6{x:aC}(a:bW L x=false)(pg:List Int)(i:Nat):jE (jx L x pg) i=jE L i+kZ pg i:=by
 by_cases h:pg=[]
 ·subst h;rw[lp];rfl
 rw[oI a h,Aj];rfl
theorem iY.j5{t:Int}{s:ap×ap}(h:iY m0 m1 cpu zi o t fl s L (some r))(i:Nat):oa s i+jE L i=oa r.1 i+jE r.2.1 i+vu r.2.2 o i:=by
 cases h with
 | list a d g=>subst a<;>grind[KY]
 | tz a e b c=>have:=Ak b c i;grind
 | fill a d e b c f=>
   have j:=Ak b c i
   have k:=f.j5 i;grind[I6,kZ,wg]
theorem iZ.j5{t:Int}{s:ap×ap}(h:iZ m0 m1 cpu o t fl s L (some r))(i:Nat):oa s i+jE L i=oa r.1 i+jE r.2.1 i+vu r.2.2 o i:=by
 cases h with
 | tf _ h=>exact h.j5 i
 | low _ h=>exact h.j5 i
theorem rX:∀{l bs:List Block},(∀b∈bs++l,0<=b.At∧1<=pw b.Order)->(∀i,j5 bs i<=1)->(bh (some bs) l).isSome=true->∀i,j5 (bs++l) i<=1
 | [],bs,_,hc,_,i=>by simpa using hc i
 | b::l,bs,hg,hc,h,i=>by
   have e:bh (some bs) (b::l)=bh (kn (some bs) b) l:=Z;rw[e]at h;by_cases a:mQ bs b
   ·have c:kn (some bs) b=some (bs++[b]):=by simp only[kn,if_pos a]
    rw[c]at h
    have d:∀i,j5 (bs++[b]) i<=1:=λi=>by
     rw[fp,tK];have n:=hc i;have o:=Gi b.At b.Order i;rcases Ps (vu b.At b.Order i)with f|f
     ·omega
     have g:=tL.1 f;have k:=(rh (λx m=>hg x (by simp[m])) (hg b fy).2).2 a;have j:=k.2.2.2 i g.1 g.2;have:¬0<j5 bs i:=λh=>by rw[mu.2 h]at j;cases j
     omega
    have:=rX (l:=l) (bs:=bs++[b]) (by simpa using hg) d h i;simpa using this
   have c:kn (some bs) b=none:=by simp only[kn,if_neg a]
   rw[c,il]at h;cases h
theorem rY:∀{l bs:List Block},(∀b∈bs++l,0<=b.At∧1<=pw b.Order)->(∀b∈l,b.At+pw b.Order<=256)->(∀i,j5 (bs++l) i<=1)->(bh (some bs) l).isSome=true
 | [],bs,_,_,_=>rfl
 | b::l,bs,hg,hr,hc=>by
   have a:=hg b fy;have d:=hr b fy
   have f:mQ bs b:=by
    refine(rh (λx c=>hg x (by simp[c])) a.2).1 ⟨a.1,by omega,by omega,λi g h=>?_⟩;cases e:ed bs i with
    | false=>rfl
    | true=>
      have m:=mu.1 e;have j:=hc i;have n:=tL.2 (⟨g,h⟩:b.At<=(i:Int)∧(i:Int)<b.At+pw b.Order);rw[fp,Ag]at j;omega
   have e:bh (some bs) (b::l)=bh (kn (some bs) b) l:=Z;have k:kn (some bs) b=some (bs++[b]):=by simp only[kn,if_pos f]
   rw[e,k];exact rY (by simpa using hg) (λx c=>hr x (by simp[c])) (by simpa using hc)
def qS(s:ap×ap)(L:List aC)(a:List Block)(i:Nat):Nat:=oa s i+jE L i+j5 a i
theorem KZ{h:Heap}(f:iE h z0 z1):∀b∈z0.ai++z1.ai++aM h.ak++h.Live,0<=b.At∧1<=pw b.Order:=λb hb=>by
 have a:=qp f.all b hb;refine⟨a.1,?_⟩;simp only[List.mem_append]at hb;rcases hb with((hb|hb)|hb)|hb
 ·exact(ky f.d.kD b hb).2
 ·exact(ky f.d.j8 b hb).2
 ·unfold aM at hb;obtain⟨x,_,c⟩:=Py.1 hb;obtain⟨p,_,rfl⟩:=Pw.1 c
  grind[bC,im]
 obtain⟨j,d,rfl⟩:=Pg hb;have:=(f.live.each j d).1
 simp_all[bP]
theorem iE.M9{h:Heap}(f:iE h z0 z1)(i:Nat):qS (z0,z1) h.ak h.Live i<=1:=by
 have:=rX (bs:=[]) (l:=z0.ai++z1.ai++aM h.ak++h.Live) (by simpa using KZ f) (λi=>by simp[j5]) f.all i
 grind[fp,qS,oa,jE]
theorem Al(d:bV z)(h:0<j5 z.ai i):z.aE<=(i:Int)∧(i:Int)<z.To:=by
 obtain⟨x,e,a⟩:=Pn.1 (mu.2 h);simp only[rf,Bool.and_eq_true,decide_eq_true_eq]at a;obtain⟨⟨f,g,k,l,j⟩,_⟩:=oN d x e;obtain⟨m,n,o,p,q⟩:=d.ok;refine⟨by omega,?_⟩;rcases eE f g with⟨c,b⟩|⟨c,b⟩|⟨c,b⟩|⟨c,b⟩|⟨c,b⟩<;>rw[b]at j a<;>omega
theorem Am{s:ap×ap}(h:VS s)(i:Nat):oa s i=(ed s.1.ai i||ed s.2.ai i).toNat:=by
 have c:=EN h.kD i;have d:=EN h.j8 i;have e:=Df c;have f:=Df d;unfold oa;rcases Ps (j5 s.1.ai i)with b|b
 ·grind[ed,mu]
 have g:=Al h.kD b
 have:j5 s.2.ai i=0:=by
  rcases Ps (j5 s.2.ai i)with a|a
  ·exact a
  have:=Al h.j8 a;have:=h.AT;grind
 grind[mu]
theorem vv{h:Heap}(f:iE h z0 z1)(i:Nat):oa (bp (z0,z1) (aM h.ak)) i=oa (z0,z1) i+jE h.ak i:=by
 have a:=dN f.d;have b:=f.M9 i;unfold qS at b;have c:j5 (z0.ai++z1.ai++aM h.ak) i=oa (z0,z1) i+jE h.ak i:=by rw[fp,fp];rfl
 rw[Am a.vs i,a.G0 i,<-Df Y,c]
theorem An{h:Heap}(d:me h z0 z1):(bp (z0,z1) (aM h.ak)).1.To=z0.To:=by
 have a:∀k,k<=(aM h.ak).length->(bp (z0,z1) ((aM h.ak).take k)).1.To=z0.To:=by
  intro k;induction k with
  | zero=>grind[bp]
  | succ k c=>
    intro b;rw[kJ _ _ _ b];exact((d.inv k Y).back (d.next b)).2.trans (c Y)
 have:=a _ (Ph _);grind
theorem cj.j5{h:Heap}{u:Heap×Int×Int}(a:cj h cpu o fl u)(m:u.2.2=0):∃c d s,h.aK=[c,d]∧iE h c d∧VS s∧u.1.aK=[s.1,s.2]∧(∃t,iu t∧u.1.Live=dc h u.2.1 o t)∧u.1.bY=h.bY∧u.1.bl=h.bl∧s.1.To=c.To∧
 ∀i,qS (c,d) h.ak h.Live i=qS s u.1.ak u.1.Live i∧oa (c,d) i+jE h.ak i=oa s i+jE u.1.ak i+vu u.2.1 o i:=by
 cases a with
 | bad|range|form|room=>simp at m
 | @once c d r hb n j f g=>
   obtain⟨p,q,F⟩:=fC (ch.1 hb);have b:=F.d.bA;rw[f]at b;simp only[List.cons.injEq,and_true]at b;obtain⟨rfl,rfl⟩:=b;have k:=(g.found F.d.start.vs).1;refine⟨c,d,r.1,f,F,k,Z,⟨_,(oH j).2,Z⟩,Z,Z,?_,λi=>?_⟩
   ·exact g.to
   have e:=g.j5 i;grind[qS,ma,dc,uU]
 | @kA c d r hb n j f g l=>
   obtain⟨p,q,F⟩:=fC (ch.1 hb);have b:=F.d.bA;rw[f]at b;simp only[List.cons.injEq,and_true]at b;obtain⟨rfl,rfl⟩:=b;have k:=(l.found (dN F.d).vs).1;refine⟨c,d,r.1,f,F,k,Z,⟨_,(oH j).2,Z⟩,Z,Z,?_,λi=>?_⟩
   ·rw[l.to];exact An F.d
   have e:=l.j5 i;have v:=vv F i;have w:jE [] i=0:=Z
   grind[ma,qS,dc,uU]
variable {pg:List Int}
def I7(a b p:Int):Prop:=(0<=p∧p<256)∧(p<a↔b=0)
structure kc(c to:Int)(L:List aC):Prop where
 head:∀l∈L,j4 c l
 iy:uk L
 fX:∀l∈L,∀p∈l.aq,I7 to l.ap p
theorem kc.nil(c a:Int):kc c a []:=⟨by simp,List.Pairwise.nil,by simp⟩
theorem kc.ok{c b:Int}(h:kc c b L):mh c b L:=by
 refine⟨λi a=>h.head _ (Pf a),λi a=>h.iy.get a Y,λi a p d=>(h.fX _ (Pf a) p d).2⟩
theorem iE.ls{h:Heap}(f:iE h z0 z1)(g:bf h):kc h.bl z0.To h.ak:=by
 obtain⟨n,o,k,_,_,_,_,_,d,_⟩:=g.bA;have b:=f.d.bA;rw[k]at b;simp only[List.cons.injEq,and_true]at b;obtain⟨rfl,rfl⟩:=b;refine⟨λl c=>?_,f.iy,λl c p e=>?_⟩
 ·obtain⟨i,a,rfl⟩:=Pg c;exact d.head i a
 obtain⟨i,a,rfl⟩:=Pg c;refine⟨?_,d.fX i a p e⟩;obtain⟨j,m,rfl⟩:=Pg e;exact(f.D5 a m).at_
theorem kc.erase{c b:Int}(h:kc c b L)(k:Nat):kc c b (L.eraseIdx k):=
 ⟨λl a=>h.head l (PH a),List.Pairwise.sublist (Qh L k) h.iy,λl a=>h.fX l (PH a)⟩
theorem kc.pK{c a:Int}(h:kc c a L)(m:k<L.length){y:aC}(n:dT L[k] y)(o:j4 c y)(q:∀p∈y.aq,I7 a y.ap p):kc c a (L.set k y):=by
 refine⟨λl b=>?_,?_,λl b=>?_⟩
 ·rcases Pu b with d|rfl
  ·exact h.head l d
  omega
 ·unfold uk;rw[Pq];intro i j g f e;simp only[List.length_set]at g f;have r:=h.iy.get f e;rw[P4,P4];unfold cd dT at*<;>grind
 rcases Pu b with d|rfl
 ·exact h.fX l d
 omega
theorem kc.ins{c d:Int}(h:kc c d L){y:aC}(f:bW L y=false)(g:j4 c y)(i:∀p∈y.aq,I7 d y.ap p):kc c d (aP L (aW L y) y):=by
 have a:∀l∈aP L (aW L y) y,l∈L∨l=y:=λl b=>by
  unfold aP at b<;>grind
 refine⟨λl b=>?_,xV h.iy f,λl b=>?_⟩
 ·rcases a l b with e|rfl
  ·exact h.head l e
  omega
 rcases a l b with e|rfl
 ·exact h.fX l e
 omega
theorem kc.MA{c b:Int}(h:kc c b L){y:aC}(d:j4 c y)(e:∀p∈y.aq,I7 b y.ap p):kc c b (fZ L y):=by
 cases a:bW L y
 ·rw[qj a];exact h.ins a d e
 obtain⟨f,g⟩:=fK a;rw[qi a];exact h.pK f g d e
theorem kc.pop{c b:Int}(h:kc c b L){x:aC}(d:bW L x=true):kc c b (rG L x (bZ L x)):=by
 obtain⟨a,g⟩:=fK d;have e:=fk d a;unfold rG;split
 ·exact h.erase _
 rename_i f;have i:=h.head _ (Pf a);have j:=h.fX _ (Pf a);rw[e]at f⊢;refine h.pK a (by unfold dT dH at*<;>grind) ?_ λp k=>?_;all_goals grind[j4,dH,dT,List.length_dropLast,List.dropLast_sublist]
theorem kc.more{c a:Int}(h:kc c a L){x:aC}(b:bW L x=false)(f:(0<=x.ep∧x.ep<c)∧(0<=x.ap∧x.ap<=1)∧(0<=x.Ty∧x.Ty<=2))(g:pg.length<=8)(d:∀p∈pg,I7 a x.ap p):kc c a (jx L x pg):=by
 by_cases e:pg=[]
 ·subst e<;>grind[lp]
 rw[oI b e];obtain⟨i,j⟩:=ju (L:=L) (ln (x:=x) (pg:=pg));refine h.ins (by grind) ?_ d;have:0<pg.length:=List.length_pos_iff.2 e;grind[List.length_pos_iff,j4,dH]
theorem VS.range{s:ap×ap}(h:VS s):0<=s.1.To∧s.1.To<=256:=by
 have a:=h.kD.ok;have b:=h.j8.ok;have:=h.AT;obtain⟨c,d,e,f,g⟩:=a<;>grind
theorem I8{s:ap×ap}{t:Int}{u:ap×Int×Int}(a:VS s)(b:zi=0∨zi=1)(h:gq (rU s zi) o t u)(c:u.2.2=0):I7 s.1.To zi u.2.1:=by
 obtain⟨_,⟨x,d,e⟩,_⟩:=h.j7 c;obtain⟨⟨i,j,f,g,k⟩,_⟩:=oN (a.rU zi) x d;have l:=a.range;have:=a.nF;have:=a.AT;have:=a.G1;unfold rU at f g;unfold I7<;>grind
theorem gi.bt{t:Int}{s:ap×ap}{l:List Int}{r:(ap×ap)×List Int}(h:gi m0 m1 zi t fl s l r)(c:zi=0∨zi=1):VS s->(∀p∈l,I7 s.1.To zi p)->∀p∈r.2,I7 s.1.To zi p:=by
 induction h with
 | full|nW|none=>exact λ_ h=>h
 | more h f a b g d=>
   intro e i;rw[<-pD a b];refine d (e.pK (a.j7 b).1) λp j=>?_;rw[pD a b];grind[pD,List.mem_singleton,I8]
theorem iY.ls{t c:Int}{s:ap×ap}(h:iY m0 m1 cpu zi o t fl s L (some r))(b:zi=0∨zi=1)(m:VS s)(d:kc c s.1.To L)(n:0<=cpu∧cpu<c)(g:0<=t∧t<=2):kc c s.1.To r.2.1:=by
 cases h with
 | list i e j=>exact d.pop e
 | tz i q g k=>exact d
 | fill i e q f k l=>
   have a:=m.pK (f.j7 k).1;have u:=(l.vs a).2;refine d.more e ⟨n,by grind,g⟩ Y λp j=>?_;have:=l.bt b a fy p j
   grind[pD]
theorem iZ.ls{t c:Int}{s:ap×ap}(h:iZ m0 m1 cpu o t fl s L (some r))(a:VS s)(b:kc c s.1.To L)(d:0<=cpu∧cpu<c)(e:0<=t∧t<=2):kc c s.1.To r.2.1:=by
 cases h with
 | tf _ h=>exact h.ls (.inr Z) a b d e
 | low _ h=>exact h.ls (.inl Z) a b d e
theorem Na{k:Int}(b:0<=o)(h:o<=k)(c:k<=4)(d:a % pw k=0):a % pw o=0:=by
 grind[eE]
theorem gq.al{t:Int}{u:ap×Int×Int}(h:gq z o t u)(a:u.2.2=0):u.2.1 % pw o=0:=by
 cases h with
 | bad|range|kind|room=>simp at a
 | @ok k st b c f d e=>
   obtain⟨_,g,i⟩:=e.ord;have hb:=(oN (dj.1 b) _ (Pf d)).1;exact Na c.1 Y Y hb.2.2.2.2
theorem iY.al{t:Int}{s:ap×ap}(h:iY m0 m1 cpu zi o t fl s L (some r)):r.2.2 % pw o=0:=by
 cases h with
 | list a d f=>subst a<;>grind[im]
 | tz a e b c=>exact b.al c
 | fill a d e b c g=>exact b.al c
theorem iZ.al{t:Int}{s:ap×ap}(h:iZ m0 m1 cpu o t fl s L (some r)):r.2.2 % pw o=0:=by
 cases h with
 | tf _ h=>exact h.al
 | low _ h=>exact h.al
theorem Dg(d:∀b∈l,p9 b)(c:l.Pairwise λx y=>x.At<y.At):fP l:=by
 rw[Pq]at c;exact⟨λi a=>d _ (Pf a),λi a=>c i (i+1) Y a Y⟩
theorem fP.all(h:fP l):∀b∈l,p9 b:=λb hb=>by
 obtain⟨i,a,rfl⟩:=Pg hb;exact h.each i a
theorem fP.erase(h:fP l)(k:Nat):fP (l.eraseIdx k):=
 Dg (λb hb=>h.all b (PH hb)) (List.Pairwise.sublist (Qh l k) (jh h))
theorem fP.NC{h:Heap}(g:fP h.Live){t:Int}(hb:p9 ⟨a,o,t⟩)(k:∀b∈h.Live,b.At≠a):fP (dc h a o t):=by
 refine Dg (λb c=>?_) ?_
 ·rcases uj c with rfl|i
  ·exact hb
  exact g.all b i
 have m:=jh g
 have n:∀x∈h.Live.drop (bB h.Live a),a<x.At:=λx d=>by
  obtain⟨j,f,rfl⟩:=Pg d;simp only[List.length_drop]at f;rw[P8];have i:=DD (l:=h.Live) (a:=a) Y;have p:=k _ (Pf (show bB h.Live a+j<h.Live.length by omega));rcases Ps j with e|e
  ·grind
  grind[List.pairwise_iff_getElem,bB]
 have q:∀x∈h.Live.take (bB h.Live a),x.At<a:=λx d=>by
  obtain⟨j,f,rfl⟩:=Pg d;simp only[List.length_take]at f;rw[PY];exact om Y
 unfold dc aP<;>grind
theorem oO{h:Heap}{s:ap×ap}(l:h.aK=[s.1,s.2])(a:VS s)(k:kc h.bl s.1.To h.ak)(m:∃m0 m1,h.bY=[m0,m1]∧(0<=m0∧m0<=256)∧(0<=m1∧m1<=256))(n:1<=h.bl∧h.bl<=4)(c:fP h.Live)(q:∀i,qS s h.ak h.Live i<=1):bf h:=by
 refine⟨⟨s.1,s.2,l,a.kD,a.j8,a.nF,a.AT,a.G1,k.ok,?_⟩,m,n,c⟩;have z:=a.range
 have d:∀b∈s.1.ai++s.2.ai++aM h.ak++h.Live,(0<=b.At∧1<=pw b.Order)∧b.At+pw b.Order<=256:=λb hb=>by
  have e:∀x o:Int,0<=o->o<=4->0<=x->x<256->x % pw o=0->(0<=x∧1<=pw o)∧x+pw o<=256:=λx o A B C D E=>by
   grind[eE]
  have r:=a.kD.ok;have t:=a.j8.ok;unfold eu at r t;rw[Px,Px,Px]at hb;rcases hb with((hb|hb)|hb)|hb
  ·obtain⟨⟨f,g,u,v,j⟩,_⟩:=oN a.kD b hb;exact e _ _ f g Y Y j
  ·obtain⟨⟨f,g,u,v,j⟩,_⟩:=oN a.j8 b hb;exact e _ _ f g Y Y j
  ·unfold aM at hb;obtain⟨x,w,hb⟩:=Py.1 hb;obtain⟨p,y,rfl⟩:=Pw.1 hb;have:=(k.fX x w p y).1;exact e p 0 Y Y this.1 this.2 (by rw[im];omega)
  obtain⟨F,G,H,_⟩:=c.all b hb<;>grind
 refine rY (bs:=[]) (λb hb=>(d b (by grind)).1) (λb hb=>(d b hb).2) λi=>?_;have:=q i;grind[qS,oa,jE,fp]
theorem cj.may{h:Heap}{u:Heap×Int×Int}(a:cj h cpu o fl u)(l:u.2.2=0):bf u.1:=by
 obtain⟨v,L,s,p,c2,w,x,⟨t,y,z⟩,A,B,M,C⟩:=a.j5 l;have D:=a.at_ l
 have m:bf h:=by
  cases a<;>grind[ch]
 have f:(0<=o∧o<=4)∧u.2.1 % pw o=0∧kc h.bl v.To u.1.ak∧∀b∈h.Live,b.At≠u.2.1:=by
  cases a with
  | bad|range|form|room=>simp at l
  | @once E F r hb g n d k=>
    rw[p]at d;simp only[List.cons.injEq,and_true]at d;obtain⟨rfl,rfl⟩:=d;obtain⟨i,e,G,j⟩:=lq c2 (k.found c2.d.start.vs).2;exact⟨g.2,k.al,k.ls c2.d.start.vs (c2.ls m) g.1 (oH n).2,c2.nO e j⟩
  | @kA E F r hb g n d k j=>
    rw[p]at d;simp only[List.cons.injEq,and_true]at d;obtain⟨rfl,rfl⟩:=d;obtain⟨i,e,G,H⟩:=ku c2 (j.found (dN c2.d).vs).2;have:=j.ls (c:=h.bl) (dN c2.d).vs (kc.nil _ _) g.1 (oH n).2;rw[An c2.d]at this;exact⟨g.2,j.al,this,c2.nO e H⟩
 obtain⟨I,J,N,K⟩:=f;have q:=λi=>c2.M9 i;refine oO x w (by grind) (by rw[A];exact m.cx) (by rw[B];exact m.cpus) ?_ λi=>by grind
 rw[z];exact c2.live.NC ⟨I,by grind,J,y⟩ K
theorem I9{h:Heap}(b:bf h)(c:h.aK=[z0,z1]):bf (nH h z0 z1):=by
 obtain⟨e,g,f⟩:=fC b;have a:=f.d.bA;rw[c]at a;simp only[List.cons.injEq,and_true]at a;obtain⟨rfl,rfl⟩:=a;refine oO Z (dN f.d).vs (kc.nil _ _) b.cx b.cpus f.live λi=>?_;have d:=f.M9 i;have j:=vv f i;have k:jE [] i=0:=Z;unfold qS at d⊢<;>grind[qS,nH]
theorem Mb(l:List Block)(i:Nat):(ed l i).toNat<=j5 l i:=by
 cases e:ed l i<;>grind[ed,mu]
theorem K0(L:List aC)(y:aC)(i:Nat):jE (fZ L y) i+kZ (bZ L y) i=jE L i+kZ y.aq i:=by
 cases a:bW L y
 ·grind[qj,iP,Aj,kZ,wg]
 grind[fK,qi,fk,EP]
theorem iE.K4{h:Heap}(f:iE h z0 z1)(a:i<h.ak.length):∀j,j<=h.ak[i].aq.length->(bp (z0,z1) ((h.ak[i].aq.take j).map bC)).1.To=z0.To
 | 0,_=>by simp[bp]
 | j+1,hj=>by
   have b:=((f.inv a j Y).back (f.D5 a (show j<_ by omega))).2
   have e:(h.ak[i].aq.take (j+1)).map bC=(h.ak[i].aq.take j).map bC++[bC h.ak[i].aq[j]]:=by
    grind[List.take_succ_eq_append_getElem]
   rw[e,kK];exact b.trans (f.K4 a j Y)
theorem EQ(b:bV z)(d:z.aE<=a)(e:a<z.To):iu (rO z a):=by
 have f:=b.len;have c:((a-z.aE) / 8).toNat<z.Types.length:=Y;unfold rO;rw[Qq,Pp c];exact b.types _ (Pf c)
theorem K9{h:Heap}(f:iE h z0 z1)(c:0<=cpu∧cpu<h.bl)(d:0<=a∧a<256):((0<=(keyOf z0 z1 cpu a).ep∧(keyOf z0 z1 cpu a).ep<h.bl)∧(0<=(keyOf z0 z1 cpu a).ap∧(keyOf z0 z1 cpu a).ap<=1)∧(0<=(keyOf z0 z1 cpu a).Ty∧(keyOf z0 z1 cpu a).Ty<=2))∧I7 z0.To (keyOf z0 z1 cpu a).ap a:=by
 have e:=f.d.nF;have g:=f.d.AT;have i:=f.d.G1;unfold keyOf I7;by_cases b:a<z0.To
 ·simp only[if_pos b];exact⟨⟨c,by omega,EQ f.d.kD Y b⟩,d,by grind⟩
 simp only[if_neg b];exact⟨⟨c,by omega,EQ f.d.j8 Y Y⟩,d,by omega⟩
theorem Gk(l:List Int)(k i:Nat):kZ l i=kZ (l.take k) i+kZ (l.drop k) i:=by rw[<-lR,Pz]
theorem rB{h:Heap}(d:bf h)(J:0<=cpu∧cpu<h.bl)(K:bx h.Live a=true):bf (iQ h cpu a):=by
 obtain⟨b,j,f⟩:=fC d;obtain⟨l,m⟩:=fR K;obtain⟨k,A⟩:=bq (bB h.Live a);simp only[A]at l m;have n:=f.ls d;have o:=f.live.each k l;have M:=f.next l
 have r:∀(s:ap×ap)(bs:List Block),oy s (b.ai++j.ai++bs)->∀i,oa s i<=oa (b,j) i+j5 bs i:=λs bs D i=>by
  rw[Am D.vs i,D.G0 i];have:=Mb (b.ai++j.ai++bs) i;rw[fp,fp]at this;exact this
 by_cases H:0<h.Live[k].Order
 ·rw[mU f.d.bA l A H];obtain⟨D,c⟩:=f.d.start.back M;refine oO (s:=eI (b,j) h.Live[k]) Z D.vs (by rw[c];exact n) d.cx d.cpus (f.live.erase k) λi=>?_;have w:=f.M9 i;grind[rA,tK,qS,qq]
 have N:h.Live[k].Order=0:=by have:=o.1;omega
 rw[mV f.d.bA l A H];obtain⟨O,P⟩:=K9 f J (a:=a) (by have:=o.2.1;omega);obtain⟨x,Q⟩:=bq (keyOf b j cpu a);rw[Q]at O P⊢;obtain⟨q,y⟩:=bq (bZ h.ak x);rw[y]
 have B:q.length<=8∧(∀p∈q,I7 b.To x.ap p)∧(q≠[]->∃g:aW h.ak x<h.ak.length,h.ak[aW h.ak x].aq=q):=by
  cases C:bW h.ak x
  ·rw[iP C]at y;grind
  obtain⟨g,R⟩:=fK C;rw[fk C g]at y;subst y;refine⟨(n.head _ (Pf g)).2.2.2.2,λp z=>?_,λ_=>⟨g,Z⟩⟩;have:=n.fX _ (Pf g) p z;rwa[R.2.1]at this
 obtain⟨U,V,S⟩:=B
 have t:∀p∈q++[a],I7 b.To x.ap p:=λp z=>by
  grind
 have u:∀(pg:List Int)(i:Nat),jE (fZ h.ak (kz x pg)) i+kZ q i=jE h.ak i+kZ pg i:=λpg i=>by
  have w:=K0 h.ak (kz x pg) i;have E:dT (kz x pg) x:=⟨Z,Z,Z⟩;obtain⟨W,X⟩:=ju (L:=h.ak) E
  grind[bZ,kz,fK,List.getElem?_eq_getElem]
 have I:=λi=>rA l i;rw[m,N]at I;unfold iq;split
 ·rename_i F;simp only[List.length_append,List.length_singleton]at F;have hq:q.length=8:=Y;have v:(q++[a]).take 4=q.take 4:=PQ Y;obtain⟨g,G⟩:=S (λe=>by grind);have D:=f.inv g 4 (by grind);have c:=f.K4 g 4 (by grind);rw[G]at D c;rw[v];refine oO (s:=bp (b,j) ((q.take 4).map bC)) Z D.vs ?_ d.cx d.cpus (f.live.erase k) λi=>?_
  ·simp only[c];refine n.MA ?_ λp z=>t p (QP z);unfold j4 kz<;>grind
  have w:=f.M9 i;have h2:=r _ _ D i;have h4:=u ((q++[a]).drop 4) i;have T:=Gk (q++[a]) 4 i;rw[lR,tM,v]at T;have h6:=I i;have h7:kZ (q.take 4) i=j5 ((q.take 4).map bC) i:=Z;unfold qS at w⊢<;>grind
 rename_i F;simp only[List.length_append,List.length_singleton]at F;refine oO (s:=(b,j)) Z f.d.start.vs ?_ d.cx d.cpus (f.live.erase k) λi=>?_
 ·refine n.MA ?_ t;unfold j4 kz<;>grind
 have w:=f.M9 i;grind[lR,tM,qS]
variable {m:Nat}
inductive tJ(l:List Int):Int->List Int->Prop
 | nil:tJ l (-1) []
 | cons {k:Nat} {out:List Int} (hk:k<l.length) (h:tJ l l[k] out):tJ l k ((k:Int)::out)
theorem eH.link{l:List Int}{x:Int}{r:Option (List Int)}(h:eH l most x acc r):∀o,r=some o->∃out,o=acc++out∧tJ l x out∧(acc.Nodup->o.Nodup)∧((acc.length:Int)<=most->(o.length:Int)<=most):=by
 induction h with
 | done out=>intro o e;cases e;exact⟨[],by simp,.nil,λh=>h,λh=>h⟩
 | bad=>grind
 | @step k acc r h1 hk h3 h ih=>
   intro o e;obtain⟨out,rfl,e2,e3,e4⟩:=ih o e;refine⟨(k:Int)::out,by simp,.cons hk e2,λhn=>e3 ?_,λ_=>e4 ?_⟩;all_goals grind
theorem tJ.follows{l:List Int}{x:Int}{b:List Int}(h:tJ l x b):∀a:List Int,(a++b).Nodup->((a++b).length:Int)<=most->eH l most x a (some (a++b)):=by
 induction h with
 | nil=>intro a _ _;rw[QM];exact .done a
 | @cons k b c h d=>
   intro a f g;have e:a++(k:Int)::b=(a++[(k:Int)])++b:=by simp
   refine .step ?_ c ?_ ?_;all_goals grind
theorem ie{x:Slab}{b:List Int}(i:0<=per):bK ws size per x b↔tJ ws x.bR b∧b.Nodup∧(b.length:Int)<=per∧(b.length:Int)=x.ai∧∀a∈b,fG size per x.At a=true:=by
 constructor
 ·rintro⟨c,d,f⟩;obtain⟨o,e,j,k,l⟩:=c.link _ Z<;>grind
 rintro⟨c,d,f,g,h⟩;exact⟨c.follows [] (by grind) (by grind),g,h⟩
theorem tJ.congr{l f:List Int}{x:Int}{b:List Int}(h:tJ l x b):(∀a∈b,0<=a->f[a.toNat]?=l[a.toNat]?)->tJ f x b:=by
 induction h with
 | nil=>exact λ_=> .nil
 | @cons k b g h j=>
   intro i;have c:=i k fy Y;simp only[Int.toNat_natCast]at c;rw[Pp g]at c;obtain⟨d,e⟩:=PF.1 c;refine .cons d ?_
   grind
theorem tJ.head{l:List Int}{x:Int}{a:List Int}(h:tJ l x a)(b:a≠[]):∃k rest,x=((k:Nat):Int)∧a=x::rest∧∃c:k<l.length,tJ l l[k] rest:=by
 cases h<;>grind
def uT(x s:Nat):Nat->Nat->List Int
 | 0,_=>[]
 | n+1,i=>((x+i*s:Nat):Int)::uT x s n (i+1)
theorem Ad{x s:Nat}:∀{n i:Nat}{a:Int},a∈uT x s n i↔∃j,i<=j∧j<i+n∧a=((x+j*s:Nat):Int)
 | 0,i,a=>by simp[uT];grind
 | n+1,i,a=>by
   simp only[uT,List.mem_cons,Ad (n:=n)];grind
theorem Ae{x s:Nat}:∀(n i:Nat),(uT x s n i).length=n
 | 0,_=>rfl
 | n+1,i=>by simp[uT,Ae n]
theorem Af{x s:Nat}(a:0<s):∀(n i:Nat),(uT x s n i).Nodup
 | 0,_=>by simp[uT]
 | n+1,i=>by
   simp only[uT,List.nodup_cons];refine⟨λh=>?_,Af a n (i+1)⟩;obtain⟨j,b,c,e⟩:=Ad.1 h;have d:i*s<j*s:=Nat.mul_lt_mul_of_pos_right Y a;omega
theorem Cd{x s:Nat}(b:0<s){l:List Int}(c:∀i,i<m->x+i*s<l.length):∀(n i:Nat),i+n=m->0<n->tJ (jm x s m l m) ((x+i*s:Nat):Int) (uT x s n i)
 | 0,_,_,h=>by omega
 | n+1,i,e,_=>by
   have hb:=c i Y;have d:(jm x s m l m).length=l.length:=jR x s m l m;have a:=uM x s m b l i hb m Y;have f:x+i*s<(jm x s m l m).length:=Y;rw[Pp f]at a;injection a with a
   simp only[uT];refine .cons f ?_;rw[a];by_cases g:n=0
   ·subst g;rw[if_neg Y];exact .nil
   rw[if_pos Y];have:=Cd b c n (i+1) Y Y
   grind
end Go.Proofs.YtdlfabkacdgneaaGreatDoor
