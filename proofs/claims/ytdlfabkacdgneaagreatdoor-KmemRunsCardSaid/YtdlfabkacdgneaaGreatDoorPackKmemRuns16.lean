/- Part 16 of what kmemRuns_holds leans on. -/
import Derived.Test.YtdlfabkacdgneaaGreatDoorPackKmemRuns13
import Derived.Test.YtdlfabkacdgneaaGreatDoorPackKmemRuns14
set_option maxHeartbeats 16000000
set_option linter.unusedVariables false
set_option linter.unusedSimpArgs false
set_option linter.defProp false
open Go.Proofs.Tryz
namespace Go.Proofs.YtdlfabkacdgneaaGreatDoor
open Go.RowKit
variable {α:Type} {a cpu:Int} {c:aO} {s:aj} {l':List Slab} {i k lo:Nat} {w w':World}
theorem E7(u:da)(c:aO)(x:Slab)(w:World)(h:DO w u c)(n:u.ao.n<=9223372036854775807):
 aS prog 168 [.agg (cr u).toArray,.agg (bG x).toArray] w λv _=>v= .bool (jH c x):=by
 refine Wj func168 ntmps168 ?_;refine Ww λs o b i a=>?_;refine SW.box Z Z λt y f j d=>?_;obtain⟨b,a⟩:=bk f b a;obtain⟨q,k⟩:=bq (decide (x.At∈c.ao))
 have p:∀g,Ext w g->aS prog 172 [.slice u.ao.A u.ao.n u.ao.c,Iv x.At] g λv _=>v= .bool q:=λg r=>by
  have:=hU _ _ u.ao.c _ x.At _ (h.aD.ext r) n;rwa[k]at this
 have l:=h.per;by_cases m:x.ai=c.bd
 ·repeat'(first|refine Wz ?_|(refine Wc (p _ b) λo e=>?_;obtain⟨b,a,d⟩:=aY e b a d))
  all_goals try omega
  exact ah.aF Z Z ⟨_,Z,b,by unfold jH;rw[k,decide_eq_true m];simp⟩
 refine Wz ?_;all_goals try omega
 exact ah.aF Z Z ⟨_,Z,b,by unfold jH;rw[decide_eq_false m];simp⟩
theorem nM.HC{r:cc}{cs:List da}{p:Heap×aO}(h:SX w lo r (aZ s i p) cs)(b:i<cs.length)(a:i<s.ab.length)(c:Own w' lo 60 3 bG cs[i].ae.A cs[i].ae.n cs[i].ae.c l')(d:w.grownBy w' (aN cs[i].ae.A cs[i].ae.c)):
 SX w' lo r (aZ s i (p.1,⟨p.2.Names,p.2.ax,p.2.bd,p.2.Order,l',p.2.ao⟩)) cs:=by
 have:=h.C5 b a c d;have e:cs.set i ⟨cs[i].Names,cs[i].ax,cs[i].bd,cs[i].Order,⟨cs[i].ae.A,cs[i].ae.n,cs[i].ae.c⟩,cs[i].ao⟩=cs:=Qg b;rwa[e]at this
theorem vA(p:α->Bool)(l:List α)(k:Nat)(a:k<l.length):(l.take (k+1)).countP p=(l.take k).countP p+(if p l[k]then 1 else 0):=by
 rw[Pk a,List.countP_append,List.countP_singleton]
theorem Dp{x:Slab}(h:jH (iW c k x a) ⟨x.At,x.ai+1,a⟩=false):tC s c k x cpu a=(s.Heap,iW c k x a):=by unfold tC<;>grind
theorem E8{x:Slab}(h:¬1<(iW c k x a).ae.countP (jH (iW c k x a))):tC s c k x cpu a=(s.Heap,iW c k x a):=by unfold tC<;>grind
theorem E9{x:Slab}(h:jH (iW c k x a) ⟨x.At,x.ai+1,a⟩=true)(b:1<(iW c k x a).ae.countP (jH (iW c k x a))):tC s c k x cpu a=((ee s.Heap cpu x.At).2,dA (iW c k x a) k):=by unfold tC<;>grind
theorem tS(r:cc)(s:aj)(n:ByteArray)(cpu a:Int)(w:World)(hr:mB w r s)(hf:s.bU)(zv:n.size<=140737488351232)(ha: -9223372036854775808<=a∧a<=9223372036854775807):
 aS prog 81 [.agg (ar r).toArray,.string n,Iv cpu,Iv a] w λv p=>∃u,nt s n cpu a u∧cK w.heap.size u v p:=by
 refine Wj func81 ntmps81 ?_;refine Ww λb4 S f zh l=>?_;refine SW.alloc Z λb8 w3 zw zi d=>?_;have zI:=f.up zi;have zx:b8≠b4:=by have:=l.lt;omega
 obtain⟨f,l⟩:=bk zw f l;refine Wz ?_;refine Wk (tF r s n cpu _ (hr.ext f) hf zv) λv w4 K X=>?_;have zj:=f.size;obtain⟨f,l,d⟩:=aY K f l d;rcases X with⟨he,rfl⟩|⟨he,q,cs,rfl,A,R⟩
 ·obtain⟨e,hE⟩:=bq (ga s n cpu);have N:=nt.ask (a:=a) he;rw[hE]at he N;rw[hE];refine Wz ?_;refine Wh l (aB .zero) λw5 g zJ=>?_;obtain⟨d,f⟩:=bk g d f;refine Wz ?_;all_goals try omega
  refine Wh d (aB .zero) λw6 g C=>?_;have f:=jc g f;refine Wz ?_;exact ah.a9 Z Z Z C Z ⟨_,Z,f,_,N,cK.zero e _ _⟩
 have A:=A.low zj;have R:=R.low zj;obtain⟨ix,za⟩:=bq (idxOf (c9 n) s.ab);rw[za];refine Wz ?_;refine Wh l (aB q) λw5 g l=>?_;obtain⟨d,f,A,R⟩:=cG g d f A R;refine Wz ?_;refine Wk (tB q s a _ A.nb.rd hf ha) λv w6 K X=>?_;obtain⟨⟨j,k,e⟩,hF,rfl⟩:=X;obtain⟨f,l,d,A,R⟩:=dz K f l d A R;simp only[qG];by_cases T:e=0∧j=ix
 ·obtain⟨rfl,rfl⟩:=T;have zy:=hF;obtain⟨i,D,rfl,rfl,hq,hA,zz⟩:=hF.Mt;have hi:=hA.hi;have hk:=hA.hk;have hM:=dg.1 hq;have zA:=KC hM hA;have N:=nt.put he zy za hi hk;have hm:=hM.most;obtain⟨I,rfl⟩:=Pm zA.1;have zK:=hM.words;have e0:=jk hi;have h1:=hf.Lu;have h2:=hf.ID hi;obtain⟨x,hx⟩:=bq (s.ab[i].ae[D]);have zb:=h2.put hk (I:Int);rw[hx]at zz N zb;have zB:=A;have zL:=A.words.len;obtain⟨e1,e2⟩:=A.len;have E:i<cs.length:=Y;have L:i<q.ab.n:=Y;have zM:=A.row.sl.base;have zN:=A.words.sl.base;have z:=A.each.get i E hi;have q1:=z.av.len;have q2:=h2.small.av;have q3:=z.aD.len;have q4:=h2.small.aD;have O:D<cs[i].ae.n:=Y;have zC:=z.av.sl.base;have gX:∀p,SX p w.heap.size q s cs->p.cell? ((((cs[i].ae.A).getD default).add (D*3)).add 2)=some (Iv x.bR):=λp h=>(h.each.get i E hi).av.sl.dp O (j:=2) (show(bG (s.ab[i].ae[D]'Y))[2]?=some (Iv x.bR)by rw[hx];rfl);repeat'(first|refine Wz ?_|refine Wl (A.row.sl.dp L (j:=4) (u:= .slice cs[i].ae.A cs[i].ae.n cs[i].ae.c) Z) ?_)
  refine CW.iF 8 8 (λ_=>True) mixed bm λS o zD=>?_;obtain⟨f,l,d,A,R⟩:=dz o f l d A R;refine Wf ?_;refine Wt 6 [] [] zD Z (aJ Z (gX _ A)) ?_;refine Wf ?_;refine SF.dQ ?_;refine SW.j3 I A.words Z Z Y λw7 zk hg=>?_;have hG:=A.words.gr hg;have hS:=A.Ev R zk hg;have f:=au f hg (Ph _) A.words.az;obtain⟨l,d⟩:=bk hG l d;obtain⟨U,V⟩:∃U:aj,F7 s x (I:Int)=U:=⟨_,Z⟩;have e4:(⟨s.Words.set I x.bR,s.Heap,s.ab⟩:aj)=U:=by rw[<-V];simp[F7]
  rw[e4]at hS;have P:U.ab=s.ab:=by rw[<-e4]
  have zl:U.Heap=s.Heap:=by rw[<-e4]
  have F:i<U.ab.length:=by rw[P];exact hi
  have zE:U.ab[i]=s.ab[i]:=by simp[P]
  have e5:=jk F;rw[zE,zl]at e5;rw[<-e5]at hS;have z:=hS.get E F;simp only at z;refine Wz ?_;refine SW.eY D 2 ⟨x.At,x.ai,(I:Int)⟩ z.av Z Z Z O ir Z (by simp only[hx];rfl) λw8 zc zm=>?_;have g8:=zc.sl.dp O (j:=1) (show(bG ((s.ab[i].ae.set D ⟨x.At,x.ai,(I:Int)⟩)[D]'(by rw[PS];exact hk)))[1]?=some (Iv x.ai)by rw[QL];rfl);repeat'(first|refine Wz ?_|refine Wl g8 ?_)
  refine SW.eY D 1 ⟨x.At,x.ai+1,(I:Int)⟩ zc Z Z Z O ir Z (by simp only[List.getElem_set_self];rfl) λw9 zd zn=>?_;have W:=cU zm zn (.inl Z);rw[Ra]at zd;have zo:=z.av.gr W;have b:=hS.HC E F zd W;have f:=au f W (Ph _) z.av.az;obtain⟨l,d⟩:=bk zo l d;obtain⟨B,G⟩:=bq (iW s.ab[i] D x (I:Int));have e6:(⟨s.ab[i].Names,s.ab[i].ax,s.ab[i].bd,s.ab[i].Order,s.ab[i].ae.set D ⟨x.At,x.ai+1,(I:Int)⟩,s.ab[i].ao⟩:aO)=B:=G;simp only at b;rw[e6]at b;have ze:B.ae=s.ab[i].ae.set D ⟨x.At,x.ai+1,(I:Int)⟩:=by rw[<-e6]
  have zF:D<B.ae.length:=by rw[ze,PS];exact hk
  have zp:B.ae[D]=⟨x.At,x.ai+1,(I:Int)⟩:=by simp[ze]
  have zO:B.ae.length=cs[i].ae.n:=by rw[ze,PS];exact z.av.len
  rw[G]at zb;have z:=b.get E F;have zC:=z.av.sl.base;simp only at z;obtain⟨t,ht⟩:=bq (jH B ⟨x.At,x.ai+1,(I:Int)⟩)
  have cI:∀p,Ext w9 p->aS prog 168 [.agg (cr cs[i]).toArray,.agg (bG ⟨x.At,x.ai+1,(I:Int)⟩).toArray] p λv _=>v= .bool t:=λp hx=>by
   have:=E7 cs[i] B ⟨x.At,x.ai+1,(I:Int)⟩ p (z.rd.ext hx) Y;rwa[ht]at this
  have gk:∀(p:World),lf p w.heap.size cs[i] B->∀j v,(bG ⟨x.At,x.ai+1,(I:Int)⟩)[j]?=some v->p.cell? (((cs[i].ae.A.getD default).add (D*3)).add j)=some v:=λp h j v X=>by
   refine h.av.sl.all O j v ?_;rw[zp];exact X
  have M:=f;have f:=Ext.refl w9;cases t
  ·have Q:=Dp (s:=s) (cpu:=cpu) (c:=s.ab[i]) (k:=D) (x:=x) (a:=(I:Int)) (by rw[G];exact ht);rw[G]at Q;rw[Q,V]at N;repeat'(first|refine Wz ?_|refine fq ?_|refine Wm ((b.row.sl.all L)) ?_|refine Wm ((gk _ (b.get E F))) ?_|refine SW.ba Z Z (λS o=>(cI _ (f.trans o))) ?_|(refine SW.br λS o=>?_;obtain⟨f,l,d,b⟩:=cG o f l d b))
   have f:=M.trans f;refine Wh d (aB q) λzq g C=>?_;obtain⟨f,b⟩:=bk g f b;refine Wz ?_;exact ah.a9 Z Z Z C Z ⟨_,Z,f,_,N,⟨_,Z,b.nb⟩⟩
  repeat'(first|refine Wz ?_|refine fq ?_|refine Wm ((b.row.sl.all L)) ?_|refine Wm ((gk _ (b.get E F))) ?_|refine Wl (b.row.sl.dp L (j:=4) (u:= .slice cs[i].ae.A cs[i].ae.n cs[i].ae.c) Z) ?_|refine SW.ba Z Z (λS o=>(cI _ (f.trans o))) ?_|(refine SW.br λS o=>?_;obtain⟨f,l,d,b⟩:=cG o f l d b))
  have f:=M.trans f
  refine CW.loop (λt:Nat×Nat=>[(2,Iv cpu),(4,Pt b4),(8,Pt b8),(10,Iv (i:Int)),(13,Iv (D:Int)),(14,.pointer (some ((q.ab.A.getD default).add (i*6)))),(16,Iv (t.2:Int)),(85,.slice cs[i].ae.A cs[i].ae.n cs[i].ae.c),(86,Iv (cs[i].ae.n:Int)),(87,Iv (t.1:Int))])
   (λt p=>t.1<=cs[i].ae.n∧t.2=(B.ae.take t.1).countP (jH B)∧Ext w p∧ay p b4 37 (ar q)∧ay p b8 37 (ar .zero)∧SX p w.heap.size q (aZ U i (s.Heap,B)) cs) (λt=>cs[i].ae.n-t.1) (0,0)
   ⟨Z,Z,Z,Z,Z,Z,Z,Z,Z,Z,trivial⟩ ⟨by omega,by simp,f,l,d,b⟩ ?_
  rintro⟨j,m⟩ zP ⟨hj,hm,f,l,d,b⟩;simp only at hj hm⊢;have z:=b.get E F;simp only at z
  have zQ:m<=j:=by
   rw[hm];exact Pj List.countP_le_length (by rw[P3];omega)
  by_cases zr:j<cs[i].ae.n
  ·have zG:j<B.ae.length:=Y;obtain⟨y,hy⟩:=bq (B.ae[j]);have gy:=z.av.sl.all zr;rw[show B.ae[j]'(z.av.sl.lt zr)=y from hy]at gy;obtain⟨t2,zs⟩:=bq (jH B y);have zf:=vA (jH B) B.ae j zG;rw[hy,zs,<-hm]at zf;repeat'(first|refine Wz ?_|refine Wm gy ?_)
   refine Wr (gG.one (enc:=bG) y) λzR w2 K zg J=>?_;have zH:=f.up zg;obtain⟨f,l,d,b⟩:=cG K f l d b;have z:=b.get E F;simp only at z
   have cI:∀p,Ext w2 p->aS prog 168 [.agg (cr cs[i]).toArray,.agg (bG y).toArray] p λv _=>v= .bool t2:=λp hx=>by
    have:=E7 cs[i] B y p (z.rd.ext hx) Y;rwa[zs]at this
   have M:=f;have f:=Ext.refl w2;cases t2
   ·repeat'(first|refine Wz ?_|refine fq ?_|refine Wm ((b.row.sl.all L)) ?_|refine SW.ba Z Z (λS o=>(cI _ (f.trans o))) ?_|(refine SW.br λS o=>?_;obtain⟨f,l,d,J,b⟩:=dz o f l d J b))
    have f:=M.trans f;exact ah.again (j+1,m) ⟨Z,Z,Z,Z,Z,Z,Z,Z,Z,Z,trivial⟩ dD ⟨by simp only;omega,by rw[zf];simp,f,l,d,b⟩
   repeat'(first|refine Wz ?_|refine fq ?_|refine Wm ((b.row.sl.all L)) ?_|refine SW.ba Z Z (λS o=>(cI _ (f.trans o))) ?_|(refine SW.br λS o=>?_;obtain⟨f,l,d,J,b⟩:=dz o f l d J b))
   have f:=M.trans f;exact ah.again (j+1,m+1) ⟨Z,Z,Z,Z,Z,Z,Z,Z,Z,Z,trivial⟩ dD ⟨by simp only;omega,by rw[zf];simp,f,l,d,b⟩
  obtain rfl:j=cs[i].ae.n:=Y;rw[Pl Y]at hm;by_cases zt:1<m
  ·have zu:=E9 (s:=s) (cpu:=cpu) (c:=s.ab[i]) (k:=D) (x:=x) (a:=(I:Int)) (by rw[G];exact ht) (by rw[G,<-hm];exact zt);rw[G]at zu;rw[zu,V]at N;refine Wz ?_;refine SW.cm Z Z (vt w _ b4 q U cs i D (s.Heap,B) cpu f l zh b F (by rw[P];omega) zF h1 zb) λv zS X=>?_;obtain⟨rfl,H,zT,T⟩:=X;simp only[zp]at T;have f:=T.ext;have d:=T.kp _ _ zx d;have hb:=T.dm;have b:=T.sx;refine Wz ?_;refine Wh d (aB ⟨q.Words,H,q.ab⟩) λzq g C=>?_;obtain⟨f,b⟩:=bk g f b;refine Wz ?_;exact ah.a9 Z Z Z C Z ⟨_,Z,f,_,N,⟨_,Z,b.nb⟩⟩
  have Q:=E8 (s:=s) (cpu:=cpu) (c:=s.ab[i]) (k:=D) (x:=x) (a:=(I:Int)) (by rw[G,<-hm];exact zt);rw[G]at Q;rw[Q,V]at N;refine Wz ?_;refine Wh d (aB q) λzq g C=>?_;obtain⟨f,b⟩:=bk g f b;refine Wz ?_;exact ah.a9 Z Z Z C Z ⟨_,Z,f,_,N,⟨_,Z,b.nb⟩⟩
 have N:=nt.none (n:=n) (cpu:=cpu) he hF (by rw[za];exact T)
 rcases(show e≠0∨(e=0∧j≠ix)by
  by_cases e0:e=0
  ·exact .inr ⟨e0,λe1=>T ⟨e0,e1⟩⟩
  exact .inl e0)with g|⟨g,g2⟩
 all_goals
  refine Wz ?_;all_goals try omega
  refine Wh d (aB .zero) λw7 g C=>?_;have f:=jc g f;refine Wz ?_;exact ah.a9 Z Z Z C Z ⟨_,Z,f,_,N,cK.zero 4 _ _⟩
theorem Cp(r:cc)(s:aj)(n:ByteArray)(cpu a:Int)(w:World)(hr:mB w r s)(hf:s.bU):
 aS prog 45 [.agg (ar r).toArray,.string n,Iv cpu,Iv a] w λv B=>∃u,nt s n cpu a u∧cK w.heap.size u v B:=by
 refine Wj func45 ntmps45 ?_;have hs:=hf.small;refine Ww λb4 R d zV A=>?_;refine SW.alloc Z λb8 w3 zC zk b=>?_;have zW:=d.up zk;have z1:b8≠b4:=by have:=A.lt;omega
 obtain⟨d,A⟩:=bk zC d A;obtain⟨e,hE⟩:=bq (ga s n cpu)
 have cA:∀B,Ext w B->aS prog 117 [.agg (ar r).toArray,.string n,Iv cpu] B λv _=>v=Iv e:=λB W=>by
  have:=kR r s n cpu B (hr.ext W) hf;rwa[hE]at this
 by_cases zl:e=0
 ·subst zl;obtain⟨ix,zb⟩:=bq (idxOf (c9 n) s.ab)
  have c3:∀B,Ext w B->aS prog 101 [.agg (ar r).toArray,.string n] B λv _=>v=Iv ix:=λB W=>by
   have:=gg r s n B (hr.ext W) hs;rwa[zb]at this
  repeat'(first|refine Wz ?_|(refine Wc (cA _ d) λR o=>?_;obtain⟨d,A,b⟩:=aY o d A b))
  all_goals try omega
  refine Wk (qH r s a _ (hr.ext d) hf) λv w6 D hv=>?_;obtain⟨⟨j,k,e⟩,hF,rfl⟩:=hv;obtain⟨d,A,b⟩:=aY D d A b;simp only[qG];by_cases hh:e=0∧j=ix
  ·obtain⟨rfl,rfl⟩:=hh;have zD:=hF;obtain⟨i,M,rfl,rfl,hq,hA,zE⟩:=hF.Mt;have hi:=hA.hi;have hk:=hA.hk;have hM:=dg.1 hq;have zF:=KC hM hA;have O:=nt.put hE zD zb hi hk;have hm:=hM.most;obtain⟨J,rfl⟩:=Pm zF.1;have z2:=hM.words;have h1:=hf.Lu;have h2:=hf.ID hi;obtain⟨x,W⟩:=bq (s.ab[i].ae[M]);have zc:=h2.put hk (J:Int);rw[W]at zE O zc;repeat'(first|refine Wz ?_|(refine Wc (c3 _ d) λR o=>?_;obtain⟨d,A,b⟩:=aY o d A b))
   all_goals try omega
   refine Wk (cX r s _ (hr.ext d) hs) λv w6 D hv=>?_;obtain⟨q,cs,rfl,I,hI⟩:=hv;have I:=I.low d.size;have hI:=hI.low d.size;obtain⟨d,A,b⟩:=aY D d A b;have zX:=b.lt;refine Wr (aB q) λzd w2 D ze f=>?_;have zG:=d.up ze;obtain⟨d,b,I,hI⟩:=cG D d b I hI;have zH:b8≠zd:=Y;have z3:=I.words.len;obtain⟨e1,e2⟩:=I.len;have N:i<cs.length:=Y;have zf:i<q.ab.n:=Y;have z4:=I.row.sl.base;have z5:=I.words.sl.base;have E:=I.each.get i N hi;have q1:=E.av.len;have q2:=h2.small.av;have q3:=E.aD.len;have q4:=h2.small.aD;have zm:M<cs[i].ae.n:=Y;have zI:=E.av.sl.base
   have gX:∀B,SX B w.heap.size q s cs->∀j v,(bG x)[j]?=some v->B.cell? ((((cs[i].ae.A).getD default).add (M*3)).add j)=some v:=λB h j v hv=>by
    refine(h.each.get i N hi).av.sl.all zm j v ?_;rw[show(s.ab[i].ae[M]'Y)=x from W];exact hv
   repeat'(first|refine Wz ?_|refine Wl (I.row.sl.dp zf (j:=4) (u:= .slice cs[i].ae.A cs[i].ae.n cs[i].ae.c) Z) ?_|refine Wm ((gX _ I)) ?_)
   have zJ:=f.lt;have zn:=(I.each.get i N hi).av.lt_size;refine Wr (gG.one (enc:=bG) x) λz6 w2 D zg z=>?_;have zK:=d.up zg;obtain⟨d,b,f,I,hI⟩:=dz D d b f I hI;refine Wz ?_;refine SW.j3 J I.words Z Z Y λw7 zo hg=>?_;have hG:=I.words.gr hg;have hS:=I.Ev hI zo hg;have d:=au d hg (Ph _) I.words.az;obtain⟨b,f⟩:=bk hG b f;have z:=z.aQ hG Z;obtain⟨X,S⟩:∃X:aj,F7 s x (J:Int)=X:=⟨_,Z⟩;have e4:(⟨s.Words.set J x.bR,s.Heap,s.ab⟩:aj)=X:=by rw[<-S];simp[F7]
   rw[e4]at hS;have T:X.ab=s.ab:=by rw[<-e4]
   have zp:X.Heap=s.Heap:=by rw[<-e4]
   have P:i<X.ab.length:=by rw[T];exact hi
   have zL:X.ab[i]=s.ab[i]:=by simp[T]
   have e5:=jk P;rw[zL,zp]at e5;rw[<-e5]at hS;refine Wz ?_;refine CW.iF 15 15 (λ_=>True) mixed bm λR o zM=>?_;obtain⟨d,b,f,z,hS⟩:=dz o d b f z hS;refine Wf ?_;refine Wt 5 [] [] zM Z (aJ Z (hS.row.sl.dp zf (j:=4) (u:= .slice cs[i].ae.A cs[i].ae.n cs[i].ae.c) Z)) ?_;refine Wf ?_;refine SF.dQ ?_;have E:=hS.get N P;simp only at E;refine SW.iT (enc:=bG) M ⟨x.At,x.ai+1,(J:Int)⟩ E.av Z Z zm λw9 zq U=>?_;have zr:=E.av.gr U;have l:=hS.HC N P zq U;have d:=au d U (Ph _) E.av.az;obtain⟨b,f⟩:=bk zr b f;have z:=z.grown U (λe=>by have:=zn _ e.symm;omega);obtain⟨C,F⟩:=bq (iW s.ab[i] M x (J:Int));have e6:(⟨s.ab[i].Names,s.ab[i].ax,s.ab[i].bd,s.ab[i].Order,s.ab[i].ae.set M ⟨x.At,x.ai+1,(J:Int)⟩,s.ab[i].ao⟩:aO)=C:=F;simp only at l;rw[e6]at l;have zh:C.ae=s.ab[i].ae.set M ⟨x.At,x.ai+1,(J:Int)⟩:=by rw[<-e6]
   have zN:M<C.ae.length:=by rw[zh,PS];exact hk
   have zO:C.ae[M]=⟨x.At,x.ai+1,(J:Int)⟩:=by simp[zh]
   have z7:C.ae.length=cs[i].ae.n:=by rw[zh,PS];exact E.av.len
   rw[F]at zc;repeat'(first|refine Wz ?_|refine Wm ((l.row.sl.all zf)) ?_)
   refine Wr (ox cs[i]) λzs w2 D zi p=>?_;have zP:=d.up zi;obtain⟨d,b,f,z,l⟩:=dz D d b f z l;have E:=l.get N P;simp only at E;have z0:=E.per;obtain⟨t,ht⟩:=bq (decide (x.At∈C.ao));have zj:jH C ⟨x.At,x.ai+1,(J:Int)⟩=(decide (x.ai+1=C.bd) && !t):=by unfold jH;rw[ht]
   have cT:∀B,Ext w2 B->aS prog 121 [.agg (cr cs[i]).toArray,Iv x.At] B λv _=>v= .bool t:=λB W=>by
    have:=uQ cs[i] C x.At B (E.rd.ext W) Y;rwa[ht]at this
   have K:=d;have d:=Ext.refl w2;by_cases hp:x.ai+1=C.bd
   ·cases t
    ·repeat'(first|refine Wz ?_|(refine CW.bQ Z ?_)|(refine Wc (cT _ d) λR o=>?_;obtain⟨d,b,f,z,p,l⟩:=fi o d b f z p l))
     all_goals try omega
     have d:=K.trans d
     refine CW.loop (λt:Nat×Nat=>[(2,Iv cpu),(8,Pt b8),(11,Iv (i:Int)),(12,Iv (M:Int)),(13,Pt zd),(15,Pt zs),(16,Iv (t.2:Int)),(17,Iv (t.1:Int))])
      (λt B=>t.1<=cs[i].ae.n∧t.2=(C.ae.take t.1).countP (jH C)∧Ext w B∧ay B b8 37 (ar .zero)∧ay B zd 37 (ar q)∧ay B zs 58 (cr cs[i])∧SX B w.heap.size q (aZ X i (s.Heap,C)) cs) (λt=>cs[i].ae.n-t.1) (0,0)
      ⟨Z,Z,Z,Z,Z,Z,Z,Z,trivial⟩ ⟨PL _,by simp,d,b,f,p,l⟩ ?_
     rintro⟨j,m⟩ zt ⟨hj,hm,d,b,f,p,l⟩;simp only at hj hm⊢;have E:=l.get N P;simp only at E
     have z8:m<=j:=by
      rw[hm];exact Pj List.countP_le_length (by rw[P3];omega)
     by_cases zu:j<cs[i].ae.n
     ·have zQ:j<C.ae.length:=Y;have zI:=E.av.sl.base;obtain⟨y,hy⟩:=bq (C.ae[j]);have gy:=E.av.sl.all zu;rw[show C.ae[j]'(E.av.sl.lt zu)=y from hy]at gy;obtain⟨t2,zv⟩:=bq (decide (y.At∈C.ao));have zw:jH C y=(decide (y.ai=C.bd) && !t2):=by unfold jH;rw[zv]
      have Q:=vA (jH C) C.ae j zQ;rw[hy,zw,<-hm]at Q
      have cT:∀B,Ext zt B->aS prog 121 [.agg (cr cs[i]).toArray,Iv y.At] B λv _=>v= .bool t2:=λB W=>by
       have:=uQ cs[i] C y.At B (E.rd.ext W) Y;rwa[zv]at this
      have K:=d;have d:=Ext.refl zt;by_cases zx:y.ai=C.bd
      ·rw[decide_eq_true zx]at Q;cases t2
       ·repeat'(first|refine Wz ?_|(first|refine CW.bQ Z ?_|(apply CW.dF mixed;(·kernel_rfl);rotate_left;intro R o;obtain⟨d,b,f,p,l⟩:=dz o d b f p l;rotate_right))|refine Wl (gy 1 (Iv y.ai) Z) ?_|refine Wl (gy 0 (Iv y.At) Z) ?_|refine SW.ba Z Z (λR o=>(cT _ (d.trans o))) ?_|exact SW.br Z)
        all_goals try omega
        have d:=K.trans d;exact ah.again (j+1,m+1) ⟨Z,Z,Z,Z,Z,Z,Z,Z,trivial⟩ dD ⟨by simp only;omega,by rw[Q];simp,d,b,f,p,l⟩
       repeat'(first|refine Wz ?_|(first|refine CW.bo Z ?_|(apply CW.dF mixed;(·kernel_rfl);rotate_left;intro R o;obtain⟨d,b,f,p,l⟩:=dz o d b f p l;rotate_right))|refine Wl (gy 1 (Iv y.ai) Z) ?_|refine Wl (gy 0 (Iv y.At) Z) ?_|refine SW.ba Z Z (λR o=>(cT _ (d.trans o))) ?_|exact SW.br Z)
       all_goals try omega
       have d:=K.trans d;exact ah.again (j+1,m) ⟨Z,Z,Z,Z,Z,Z,Z,Z,trivial⟩ dD ⟨by simp only;omega,by rw[Q];simp,d,b,f,p,l⟩
      rw[decide_eq_false zx]at Q;repeat'(first|refine Wz ?_|refine fq ?_|refine Wl (gy 1 (Iv y.ai) Z) ?_|(refine SW.br λR o=>?_;obtain⟨d,b,f,p,l⟩:=dz o d b f p l))
      all_goals try omega
      have d:=K.trans d;exact ah.again (j+1,m) ⟨Z,Z,Z,Z,Z,Z,Z,Z,trivial⟩ dD ⟨by simp only;omega,by rw[Q];simp,d,b,f,p,l⟩
     obtain rfl:j=cs[i].ae.n:=Y;rw[Pl Y]at hm;have zy:jH C ⟨x.At,x.ai+1,(J:Int)⟩=true:=by rw[zj,decide_eq_true hp];rfl
     by_cases zz:1<m
     ·have zA:=E9 (s:=s) (cpu:=cpu) (c:=s.ab[i]) (k:=M) (x:=x) (a:=(J:Int)) (by rw[F];exact zy) (by rw[F,<-hm];exact zz);rw[F]at zA;rw[zA,S]at O;refine Wz ?_;all_goals try omega
      refine SW.cm Z Z (tR w _ q X cs i M (s.Heap,C) cpu d l P (by rw[T];omega) zN h1 zc) λv z9 hv=>?_;obtain⟨H,ya,rfl,zR,zB,zS⟩:=hv;simp only[zO]at zB;have zT:=l.row.gr zS;have d:=zR;have l:=zB;obtain⟨b,f⟩:=bk zT b f;skip;refine Wh f (aB ⟨q.Words,H,q.ab⟩) λza g zU=>?_;obtain⟨b,d,l⟩:=aY g b d l;refine Wz ?_;refine Wh b (aB ⟨q.Words,H,q.ab⟩) λza g G=>?_;obtain⟨d,l⟩:=bk g d l;refine Wz ?_;exact ah.a9 Z Z Z G Z ⟨_,Z,d,_,O,⟨_,Z,l.nb⟩⟩
     have L:=E8 (s:=s) (cpu:=cpu) (c:=s.ab[i]) (k:=M) (x:=x) (a:=(J:Int)) (by rw[F,<-hm];exact zz);rw[F]at L;rw[L,S]at O;refine Wz ?_;all_goals try omega
     refine Wh b (aB q) λza g G=>?_;obtain⟨d,l⟩:=bk g d l;refine Wz ?_;exact ah.a9 Z Z Z G Z ⟨_,Z,d,_,O,⟨_,Z,l.nb⟩⟩
    have V:jH C ⟨x.At,x.ai+1,(J:Int)⟩=false:=by rw[zj];simp
    have L:=Dp (s:=s) (cpu:=cpu) (c:=s.ab[i]) (k:=M) (x:=x) (a:=(J:Int)) (by rw[F];exact V);rw[F]at L;rw[L,S]at O;repeat'(first|refine Wz ?_|(refine CW.bo Z ?_)|(refine Wc (cT _ d) λR o=>?_;obtain⟨d,b,f,z,p,l⟩:=fi o d b f z p l))
    all_goals try omega
    have d:=K.trans d;refine Wh b (aB q) λza g G=>?_;obtain⟨d,l⟩:=bk g d l;refine Wz ?_;exact ah.a9 Z Z Z G Z ⟨_,Z,d,_,O,⟨_,Z,l.nb⟩⟩
   have V:jH C ⟨x.At,x.ai+1,(J:Int)⟩=false:=by rw[zj,decide_eq_false hp];rfl
   have L:=Dp (s:=s) (cpu:=cpu) (c:=s.ab[i]) (k:=M) (x:=x) (a:=(J:Int)) (by rw[F];exact V);rw[F]at L;rw[L,S]at O;refine Wz ?_;all_goals try omega
   have d:=K.trans d;refine Wh b (aB q) λza g G=>?_;obtain⟨d,l⟩:=bk g d l;refine Wz ?_;exact ah.a9 Z Z Z G Z ⟨_,Z,d,_,O,⟨_,Z,l.nb⟩⟩
  have O:=nt.none (n:=n) (cpu:=cpu) hE hF (by rw[zb];exact hh)
  rcases(show e≠0∨(e=0∧j≠ix)by
   by_cases e0:e=0
   ·exact .inr ⟨e0,λe1=>hh ⟨e0,e1⟩⟩
   exact .inl e0)with g|⟨g,g2⟩
  all_goals
   repeat'(first|refine Wz ?_|(refine Wc (c3 _ d) λR o=>?_;obtain⟨d,A,b⟩:=aY o d A b))
   all_goals try omega
   refine Wh b (aB .zero) λw7 g G=>?_;have d:=jc g d;refine Wz ?_;exact ah.a9 Z Z Z G Z ⟨_,Z,d,_,O,cK.zero 4 _ _⟩
 have O:=nt.ask (a:=a) (by rw[hE];exact zl);rw[hE]at O;repeat'(first|refine Wz ?_|(refine Wc (cA _ d) λR o=>?_;obtain⟨d,A,b⟩:=aY o d A b))
 all_goals try omega
 refine Wh b (aB .zero) λw6 g G=>?_;have d:=jc g d;refine Wz ?_;exact ah.a9 Z Z Z G Z ⟨_,Z,d,_,O,cK.zero e _ _⟩
end Go.Proofs.YtdlfabkacdgneaaGreatDoor
