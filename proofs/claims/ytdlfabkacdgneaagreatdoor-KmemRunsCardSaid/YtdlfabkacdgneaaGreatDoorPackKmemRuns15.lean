/- Part 15 of what kmemRuns_holds leans on. -/
import Derived.Test.YtdlfabkacdgneaaGreatDoorPackKmemRuns14
import Derived.Test.YtdlfabkacdgneaaGreatDoorPackKmemRuns12
import Derived.Test.YtdlfabkacdgneaaGreatDoorPackKmemRuns13
set_option maxHeartbeats 16000000
set_option linter.unusedVariables false
set_option linter.unusedSimpArgs false
set_option linter.defProp false
open Go.Proofs.Tryz
namespace Go.Proofs.YtdlfabkacdgneaaGreatDoor
open Go.RowKit
def L6(G:Nat->Prop)(e d:World)(b:Nat)(r:cc)(s:aj)(i:Nat)(c:aO)(cpu:Nat)(v:Value)(a:World):Prop:=
 ∃u,cj s.Heap (cpu:Int) c.Order 0 u∧
  ((u.2.2≠0∧v= .tuple #[Iv 0,Iv u.2.2]∧Ext d a)∨(u.2.2=0∧¬gI s.Words.length (16*u.2.1) c.ax c.bd∧v= .tuple #[Iv 0,Iv 1]∧Ext d a)∨
   (u.2.2=0∧gI s.Words.length (16*u.2.1) c.ax c.bd∧v= .tuple #[Iv (eU c u.2.1:Int),Iv 0]∧Ext e a∧(∀j x,j≠b->ay d j 37 x->ay a j 37 x)∧(∀j x,ay d j 116 x->ay a j 116 x)∧(∀j x,ay d j 3 x->ay a j 3 x)∧
    ∃X H cs',ay a b 37 (ar ⟨X,H,r.ab⟩)∧SX a e.heap.size ⟨X,H,r.ab⟩ (aZ (jJ s (df s.Words (16*u.2.1) c.ax c.bd)) i (u.1,de c u.2.1)) cs'∧SJ G a e.heap.size ⟨X,H,r.ab⟩ (aZ (jJ s (df s.Words (16*u.2.1) c.ax c.bd)) i (u.1,de c u.2.1)) cs'))
theorem KM(G:Nat->Prop)(wb I:World)(b:Nat)(r:cc)(s:aj)(cs:List da)(i cpu:Nat)(hf:s.bU)(hi:i<s.ab.length)(hM:mn s s.ab[i])(zj:nq I)
 (hx:Ext wb I) (hb:ay I b 37 (ar r)) (zu:wb.heap.size<=b) (d:SX I wb.heap.size r s cs) (zB:∀g,G g->g<I.heap.size∧∀u∈cs,aN u.ao.A u.ao.c≠some g) (zK:(s.ab[i].ae.length+1)*24<=140737488355328):
 jX prog 239 [Pt b,Iv (i:Int),Iv (cpu:Int)] I (L6 G wb I b r s i s.ab[i] cpu):=by
 refine c8 func239 rfl ntmps239 rfl ?_;have h1:=hf.Lu;have hm:=hM.most;have zL:=hM.words;have zv:=d.C6;have zC:=hx.size;have e0:=jk hi;obtain⟨e1,e2⟩:=d.len;have J:i<cs.length:=Y;have w:i<r.ab.n:=Y;have zM:=d.row.sl.base;have zw:=d.words.len;have hC:=d.each.get i J hi;have zx:=hC.order;have V:=hC.size;have S:=hC.per;have q1:=hC.av.len;have zJ:=bM hM.lay;have n:=Ext.refl I;refine Wz ?_
 focus
  refine CW.iF 15 17 (λ_=>True) mixed bm λw1 z c=>?_;obtain⟨n,hb,d⟩:=aY z n hb d;refine Wp 0 [] [] c Z Z ?_;refine Wt 1 [] [] c Z (aX Z) ?_;refine Wt 2 [] [] c Z (aI Z) ?_;refine Wt 3 [] [] c Z (cv Z Z ((e7 hb))) ?_;refine Wp 4 [] [] c Z Z ?_;refine Wp 5 [] [] c Z Z ?_;refine Wt 6 [] [] c Z (aX Z) ?_;refine Wt 7 [] [] c Z (aI Z) ?_;refine Wt 8 [] [] c Z (aJ Z (d.row.sl.dp w (j:=3) (u:=Iv cs[i].Order) Z)) ?_;refine SF.two 9 14 Z Z bm Z Z ?_ ?_
  focus
   refine Wk (ry r.Heap s.Heap (cpu:Int) cs[i].Order 0 _ d.heap.rd h1.small h1.tz (zj.ext n)) λv w4 l T=>?_;obtain⟨u,N,H,rfl,B⟩:=T;have B:=B.low n.size;obtain⟨e,he⟩:=bq u.2.2;obtain⟨f,C⟩:=bq u.2.1;rw[he,C];obtain⟨n,hb,d⟩:=aY l n hb d;try have q:=q.ext l
   refine SW.nil (ah.sf l ?_);refine Wp 10 [] [] c Z Z ?_;refine Wp 11 [] [] c Z Z ?_;refine Wi 12 [] c Z (aH Z) (λw2 d=>aH Z) ?_;refine SF.nz 13 [] c Z bm bm bm (aH Z) (λw2 d=>aH Z) Z ?_;refine SF.bD 14 ?_;refine SW.alloc Z λb9 w4 l W q=>?_;have zy:=n.up W;try have B:=B.ext l
   obtain⟨n,hb,d⟩:=aY l n hb d;refine SW.nil (ah.sf l ?_);refine SF.eW ?_;refine Wh q (bw H) λw5 g q=>?_;obtain⟨n,hb,B,d⟩:=cG g n hb B d;have zl:=d;have d:True:=trivial;refine SW.nil (ah.sg d ?_);refine SG.bD 16 ?_;repeat(refine SW.pure Z Z ?_)
   refine SW.nil (ah.sg d ?_)
  rotate_left
  focus
   refine SW.alloc Z λb9 w4 l W q=>?_;have zy:=n.up W;try have B:=B.ext l
   obtain⟨n,hb,d⟩:=aY l n hb d;refine SW.nil (ah.sf l ?_);refine SF.bD 9 ?_;refine Wk (ry r.Heap s.Heap (cpu:Int) cs[i].Order 0 _ d.heap.rd h1.small h1.tz (zj.ext n)) λv w4 l T=>?_;obtain⟨u,N,H,rfl,B⟩:=T;have B:=B.low n.size;obtain⟨e,he⟩:=bq u.2.2;obtain⟨f,C⟩:=bq u.2.1;rw[he,C];obtain⟨n,hb,d⟩:=aY l n hb d;try have q:=q.ext l
   refine SW.nil (ah.sf l ?_);refine Wp 10 [] [] c Z Z ?_;refine Wp 11 [] [] c Z Z ?_;refine Wi 12 [] c Z (aH Z) (λw2 d=>aH Z) ?_;refine SF.nz 13 [] c Z bm bm bm (aH Z) (λw2 d=>aH Z) Z ?_;refine SF.eW ?_;refine Wh q (bw H) λw5 g q=>?_;obtain⟨n,hb,B,d⟩:=cG g n hb B d;have zl:=d;have d:True:=trivial;refine SW.nil (ah.sg d ?_);refine SG.bD 16 ?_;repeat(refine SW.pure Z Z ?_)
   refine SW.nil (ah.sg d ?_)
  rotate_left
  all_goals
   refine SG.dQ ?_;have d:=zl;rw[zx]at N;by_cases zz:e=0
   ·subst zz;have zD:=N.at_ he;rw[C]at zD;refine Wz ?_;all_goals try omega
    by_cases hc:gI s.Words.length (16*f) s.ab[i].ax s.ab[i].bd
    ·refine CW.any 19 mixed (cy bm) Z λw1 z c=>?_;obtain⟨n,hb,q,B,d⟩:=dz z n hb q B d;refine Wq 0 c Z Z ?_;refine Wu 1 c Z (aX Z) ?_;refine Wu 2 c Z (aI Z) ?_;refine Wu 3 c Z (aJ Z (hb.cell (i:=0) (v:= .slice r.Words.A r.Words.n r.Words.c) Z)) ?_;refine Wq 4 c Z Z ?_;refine Wu 5 c Z (tW Z Z Y Y) ?_;refine Wq 6 c Z Z ?_;refine Wu 7 c Z (aX Z) ?_;refine Wu 8 c Z (aI Z) ?_;refine Wu 9 c Z (aJ Z (d.row.sl.dp w (j:=1) (u:=Iv cs[i].ax) Z)) ?_;refine Wq 10 c Z Z ?_;refine Wu 11 c Z (aX Z) ?_;refine Wu 12 c Z (aI Z) ?_;refine Wu 13 c Z (aJ Z (d.row.sl.dp w (j:=2) (u:=Iv cs[i].bd) Z)) ?_;refine SA.bD 14 ?_;refine Wk (BW r.Words.A r.Words.n r.Words.c s.Words (f*16) cs[i].ax cs[i].bd _ d.words.sl Y) λv w6 l T=>?_;have O:=hc;unfold gI at O;rw[lu,show f*16=16*f by omega,V,S,if_pos (by rw[zw]at O;exact O)]at T;obtain⟨XA,Xc,rfl,hX⟩:=T;have U:=B.kQ.ext l;have zE:∀g,aN XA Xc=some g->_<=g:=λg e=>hX.az g e;have hX:=hX.low n.size;obtain⟨n,hb,q,B,d⟩:=dz l n hb q B d;refine SW.nil (ah.sa l ?_);refine Wq 15 c Z Z ?_;refine Wq 16 c Z Z ?_;refine Wq 17 c Z Z ?_;refine Wq 18 c Z Z ?_;refine SA.fH ?_;refine Wz ?_;refine SW.ib 1 hb Z Z Z (PE Z) (bw H) (ar ⟨r.Words,H,r.ab⟩) Z λw7 zm M=>?_;have K:=hb.gr M;have zg:∀j x,j≠b->ay I j 37 x->ay w7 j 37 x:=λj x L h=>(h.ext n).grown M (by simpa using L);have zh:∀j x,ay I j 116 x->ay w7 j 116 x:=λj x h=>(h.ext n).aQ K Z;have zi:∀j x,ay I j 3 x->ay w7 j 3 x:=λj x h=>(h.ext n).aQ K Z;have hx:=(hx.trans n).own zu M;obtain⟨B,U,hX,d⟩:=cG K B U hX d;refine Wz ?_;refine Wb (i:=0) zm λw8 zk M=>?_;have K:=zm.gr M;have zg:∀j x,j≠b->ay I j 37 x->ay w8 j 37 x:=λj x L h=>(zg j x L h).grown M (by simpa using L);have zh:∀j x,ay I j 116 x->ay w8 j 116 x:=λj x h=>(zh j x h).aQ K Z;have zi:∀j x,ay I j 3 x->ay w8 j 3 x:=λj x h=>(zi j x h).aQ K Z;have hx:=hx.own zu M;obtain⟨B,U,hX,d⟩:=cG K B U hX d;have hb:ay w8 b 37 (ar ⟨⟨XA,r.Words.n,Xc⟩,H,r.ab⟩):=zk;rw[<-e0]at d;obtain⟨o,t⟩:=nM.fresh (p:=(s.Heap,s.ab[i])) (X:=⟨XA,r.Words.n,Xc⟩) (H:=H) (h':=u.1) (m:=I.heap.size) d zC zv zB hX U zE;have n:=Ext.refl w8;refine Wz ?_
     refine CW.loop (λk:Nat=>[(8,.pointer (some ((r.ab.A.getD default).add (i*6)))),(10,Iv f),(13,Iv (k:Int))])
      (λk w'=>w'=w8∧k<=cs[i].ae.n∧∀(j:Nat)(L:j<s.ab[i].ae.length),j<k->s.ab[i].ae[j].At<f) (λk=>cs[i].ae.n-k) 0
      ⟨Z,Z,Z,trivial⟩ ⟨Z,PL _,λj L h=>by omega⟩ ?_
     rintro k w' ⟨zF,hk,zn⟩;subst zF;have D:=o.get J hi;simp only at D;have zN:=D.av.sl.base;by_cases zG:k<cs[i].ae.n
     ·have zO:k<s.ab[i].ae.length:=Y;obtain⟨y,hy⟩:=bq (s.ab[i].ae[k]);have gA:=D.av.sl.dp zG (j:=0) (show(bG (s.ab[i].ae[k]'Y))[0]?=some (Iv y.At)by rw[hy];rfl);by_cases zA:y.At<f
      ·repeat'(first|refine Wz ?_|refine Wl (o.row.sl.dp w (j:=4) (u:= .slice cs[i].ae.A cs[i].ae.n cs[i].ae.c) Z) ?_|refine Wl gA ?_)
       all_goals try omega
       exact ah.again (k+1) ⟨Z,Z,Z,trivial⟩ Y ⟨Z,by omega,λj L h=>by
        by_cases e:j=k
        ·subst e;rw[hy];exact zA
        exact zn j L Y⟩
      have za:eU s.ab[i] f=k:=wa Y zn (λh=>by rw[hy];exact zA);repeat'(first|refine Wz ?_|refine Wl (o.row.sl.dp w (j:=4) (u:= .slice cs[i].ae.A cs[i].ae.n cs[i].ae.c) Z) ?_|refine Wl gA ?_)
      all_goals try omega
      refine CW.iF 15 18 (λ_=>True) mixed bm λw1 z c=>?_;obtain⟨n,hb,o,t⟩:=cG z n hb o t;refine Wi 0 [] c Z (aH Z) (λw2 d=>aH Z) ?_;refine Wp 1 [4,3,2] [] c Z Z ?_;refine Wt 2 [4,3] [] c Z (aX Z) ?_;refine Wt 3 [4] [] c Z (aI Z) ?_;refine Wt 4 [] [] c Z (aJ Z (o.row.sl.dp w (j:=4) (u:= .slice cs[i].ae.A cs[i].ae.n cs[i].ae.c) Z)) ?_;refine Wp 5 [] [] c Z Z ?_;refine Wp 6 [14,13] [] c Z Z ?_;refine Wp 7 [14,13,10,9,8] [] c Z Z ?_;refine Wt 8 [14,13,10,9] [] c Z (aX Z) ?_;refine Wt 9 [14,13,10] [] c Z (aI Z) ?_;refine Wt 10 [14,13] [] c Z (aJ Z (o.row.sl.dp w (j:=2) (u:=Iv cs[i].bd) Z)) ?_;refine Wp 11 [14,13,12] [] c Z Z ?_;refine Wt 12 [14,13] [] c Z (tW Z Z Y Y) ?_;refine Wt 13 [14] [] c Z (oh Z Z) ?_;refine SF.bD 14 ?_;refine SW.bz Z Z Z Z Z λbn w9 l zH zo=>?_;have zb:aN cs[i].ae.A cs[i].ae.c≠some bn:=λe=>absurd ((o.get J hi).av.lt_size _ e) Y;obtain⟨n,hb,o,t⟩:=cG l n hb o t;refine SW.nil (ah.sf l ?_);refine SF.eW ?_;have D:=o.get J hi;simp only at D;refine SW.cm Z Z (nC iS _ _ _ wb.heap.size s.ab[i].ae _ D.av k Y ⟨f,cs[i].bd,f*16⟩ bn zo zb Y (Pj hx.size n.size)) λv P T=>?_;obtain⟨A2,c2,rfl,zp,M,zq⟩:=T;have K:=D.av.gr M;have zc:=o.BQ J hi zp M zq;have Q:=au (hx.trans n) M (Ph _) D.av.az;have zd:∀j x,j≠b->ay I j 37 x->ay P j 37 x:=λj x L h=>((zg j x L h).ext n).aQ K Z;have ze:∀j x,ay I j 116 x->ay P j 116 x:=λj x h=>((zh j x h).ext n).aQ K Z;have zf:∀j x,ay I j 3 x->ay P j 3 x:=λj x h=>((zi j x h).ext n).aQ K Z;obtain⟨hb,t⟩:=bk K hb t;have d:True:=trivial;refine SW.nil (ah.sg d ?_);refine SG.bD 16 ?_;repeat((show SW _ _ _ _ (⟨_,Op.nilCheck _,_,_,_,none⟩::_) _ _;refine SW.st (aX Z) Z ?_))
      refine SW.nil (ah.sg d ?_);refine SG.bD 17 ?_;repeat((show SW _ _ _ _ (⟨_,Op.fieldAddr _ _ _,_,_,_,none⟩::_) _ _;refine SW.st (aI Z) Z ?_))
      refine SW.nil (ah.sg d ?_);refine SG.dQ ?_;have E:=zc.row;refine SW.eY i 4 ⟨cs[i].Names,cs[i].ax,cs[i].bd,cs[i].Order,⟨A2,cs[i].ae.n+1,c2⟩,cs[i].ao⟩ E Z Z Z w ir Z Z λzI R F=>?_;have A:=E.gr F;have zr:=zc.sw R F;have Q:=au Q F (Ph _) E.az;obtain⟨hb,t⟩:=bk A hb t
      have zs:=t.rows (s':=aZ (jJ s (df s.Words (16*f) s.ab[i].ax s.ab[i].bd)) i (u.1,de s.ab[i] f)) (cs':=cs.set i ⟨cs[i].Names,cs[i].ax,cs[i].bd,cs[i].Order,⟨A2,cs[i].ae.n+1,c2⟩,cs[i].ao⟩) Z (λu N=>by
       rcases Pu N with N|rfl
       ·exact⟨u,N,Z⟩
       exact⟨cs[i],Pf J,Z⟩)
      have zt:de s.ab[i] f=⟨s.ab[i].Names,s.ab[i].ax,s.ab[i].bd,s.ab[i].Order,aP s.ab[i].ae k ⟨f,cs[i].bd,f*16⟩,s.ab[i].ao⟩:=by
       unfold de;rw[za,S,show f*16=16*f by omega]
      refine Wz ?_;refine ah.cf Z Z Z ⟨_,Z,u,N,.inr (.inr ⟨he,by rw[C];exact hc,by rw[C,za],Q,λj x L h=>(zd j x L h).aQ A Z,λj x h=>(ze j x h).aQ A Z,λj x h=>(zf j x h).aQ A Z,⟨XA,r.Words.n,Xc⟩,H,_,hb,?_,by rw[C];exact zs⟩)⟩;rw[C,zt];exact zr
     have zP:k=cs[i].ae.n:=Y;have za:eU s.ab[i] f=k:=wa Y (λj L h=>zn j L Y) (λh=>by omega);repeat'(first|refine Wz ?_|refine Wl (o.row.sl.dp w (j:=4) (u:= .slice cs[i].ae.A cs[i].ae.n cs[i].ae.c) Z) ?_)
     all_goals try omega
     refine CW.iF 15 18 (λ_=>True) mixed bm λw1 z c=>?_;obtain⟨n,hb,o,t⟩:=cG z n hb o t;refine Wi 0 [] c Z (aH Z) (λw2 d=>aH Z) ?_;refine Wp 1 [4,3,2] [] c Z Z ?_;refine Wt 2 [4,3] [] c Z (aX Z) ?_;refine Wt 3 [4] [] c Z (aI Z) ?_;refine Wt 4 [] [] c Z (aJ Z (o.row.sl.dp w (j:=4) (u:= .slice cs[i].ae.A cs[i].ae.n cs[i].ae.c) Z)) ?_;refine Wp 5 [] [] c Z Z ?_;refine Wp 6 [14,13] [] c Z Z ?_;refine Wp 7 [14,13,10,9,8] [] c Z Z ?_;refine Wt 8 [14,13,10,9] [] c Z (aX Z) ?_;refine Wt 9 [14,13,10] [] c Z (aI Z) ?_;refine Wt 10 [14,13] [] c Z (aJ Z (o.row.sl.dp w (j:=2) (u:=Iv cs[i].bd) Z)) ?_;refine Wp 11 [14,13,12] [] c Z Z ?_;refine Wt 12 [14,13] [] c Z (tW Z Z Y Y) ?_;refine Wt 13 [14] [] c Z (oh Z Z) ?_;refine SF.bD 14 ?_;refine SW.bz Z Z Z Z Z λbn w9 l zH zo=>?_;have zb:aN cs[i].ae.A cs[i].ae.c≠some bn:=λe=>absurd ((o.get J hi).av.lt_size _ e) Y;obtain⟨n,hb,o,t⟩:=cG l n hb o t;refine SW.nil (ah.sf l ?_);refine SF.eW ?_;have D:=o.get J hi;simp only at D;refine SW.cm Z Z (nC iS _ _ _ wb.heap.size s.ab[i].ae _ D.av k Y ⟨f,cs[i].bd,f*16⟩ bn zo zb Y (Pj hx.size n.size)) λv P T=>?_;obtain⟨A2,c2,rfl,zp,M,zq⟩:=T;have K:=D.av.gr M;have zc:=o.BQ J hi zp M zq;have Q:=au (hx.trans n) M (Ph _) D.av.az;have zd:∀j x,j≠b->ay I j 37 x->ay P j 37 x:=λj x L h=>((zg j x L h).ext n).aQ K Z;have ze:∀j x,ay I j 116 x->ay P j 116 x:=λj x h=>((zh j x h).ext n).aQ K Z;have zf:∀j x,ay I j 3 x->ay P j 3 x:=λj x h=>((zi j x h).ext n).aQ K Z;obtain⟨hb,t⟩:=bk K hb t;have d:True:=trivial;refine SW.nil (ah.sg d ?_);refine SG.bD 16 ?_;repeat((show SW _ _ _ _ (⟨_,Op.nilCheck _,_,_,_,none⟩::_) _ _;refine SW.st (aX Z) Z ?_))
     refine SW.nil (ah.sg d ?_);refine SG.bD 17 ?_;repeat((show SW _ _ _ _ (⟨_,Op.fieldAddr _ _ _,_,_,_,none⟩::_) _ _;refine SW.st (aI Z) Z ?_))
     refine SW.nil (ah.sg d ?_);refine SG.dQ ?_;have E:=zc.row;refine SW.eY i 4 ⟨cs[i].Names,cs[i].ax,cs[i].bd,cs[i].Order,⟨A2,cs[i].ae.n+1,c2⟩,cs[i].ao⟩ E Z Z Z w ir Z Z λzI R F=>?_;have A:=E.gr F;have zr:=zc.sw R F;have Q:=au Q F (Ph _) E.az;obtain⟨hb,t⟩:=bk A hb t
     have zs:=t.rows (s':=aZ (jJ s (df s.Words (16*f) s.ab[i].ax s.ab[i].bd)) i (u.1,de s.ab[i] f)) (cs':=cs.set i ⟨cs[i].Names,cs[i].ax,cs[i].bd,cs[i].Order,⟨A2,cs[i].ae.n+1,c2⟩,cs[i].ao⟩) Z (λu N=>by
      rcases Pu N with N|rfl
      ·exact⟨u,N,Z⟩
      exact⟨cs[i],Pf J,Z⟩)
     have zt:de s.ab[i] f=⟨s.ab[i].Names,s.ab[i].ax,s.ab[i].bd,s.ab[i].Order,aP s.ab[i].ae k ⟨f,cs[i].bd,f*16⟩,s.ab[i].ao⟩:=by
      unfold de;rw[za,S,show f*16=16*f by omega]
     refine Wz ?_;refine ah.cf Z Z Z ⟨_,Z,u,N,.inr (.inr ⟨he,by rw[C];exact hc,by rw[C,za],Q,λj x L h=>(zd j x L h).aQ A Z,λj x h=>(ze j x h).aQ A Z,λj x h=>(zf j x h).aQ A Z,⟨XA,r.Words.n,Xc⟩,H,_,hb,?_,by rw[C];exact zs⟩)⟩;rw[C,zt];exact zr
    refine CW.any 19 mixed (cy bm) Z λw1 z c=>?_;obtain⟨n,hb,q,B,d⟩:=dz z n hb q B d;refine Wq 0 c Z Z ?_;refine Wu 1 c Z (aX Z) ?_;refine Wu 2 c Z (aI Z) ?_;refine Wu 3 c Z (aJ Z (hb.cell (i:=0) (v:= .slice r.Words.A r.Words.n r.Words.c) Z)) ?_;refine Wq 4 c Z Z ?_;refine Wu 5 c Z (tW Z Z Y Y) ?_;refine Wq 6 c Z Z ?_;refine Wu 7 c Z (aX Z) ?_;refine Wu 8 c Z (aI Z) ?_;refine Wu 9 c Z (aJ Z (d.row.sl.dp w (j:=1) (u:=Iv cs[i].ax) Z)) ?_;refine Wq 10 c Z Z ?_;refine Wu 11 c Z (aX Z) ?_;refine Wu 12 c Z (aI Z) ?_;refine Wu 13 c Z (aJ Z (d.row.sl.dp w (j:=2) (u:=Iv cs[i].bd) Z)) ?_;refine SA.bD 14 ?_;refine Wk (BW r.Words.A r.Words.n r.Words.c s.Words (f*16) cs[i].ax cs[i].bd _ d.words.sl Y) λv w6 l T=>?_;have O:=hc;unfold gI at O;rw[lu,show f*16=16*f by omega,V,S,if_neg (by rw[zw]at O;exact O)]at T;subst T;obtain⟨n,hb,q,B,d⟩:=dz l n hb q B d;refine SW.nil (ah.sa l ?_);refine Wq 15 c Z Z ?_;refine Wq 16 c Z Z ?_;refine Wq 17 c Z Z ?_;refine Wq 18 c Z Z ?_;refine SA.fH ?_;refine Wz ?_;exact ah.cf Z Z Z ⟨_,Z,u,N,.inr (.inl ⟨he,by rw[C];exact hc,Z,n⟩)⟩
   refine Wz ?_;all_goals try omega
   exact ah.cf Z Z Z ⟨_,Z,u,N,.inl ⟨by rw[he];exact zz,by rw[he];rfl,n⟩⟩
variable {s:aj} {l':List Slab} {i lo:Nat} {w w':World}
theorem EK(x:Slab)(j:Nat)(f:Addr)(A:Option Addr)(n c:Nat)(l:List Int)(w:World)(p:ay w j 116 [.pointer (some f)])(r:w.cell? (f.add 5)=some (.slice A n c))(s:Sl w 1 aT A n l)(t:n<=9223372036854775807):
 aS prog 238 ([.agg (bG x).toArray]++[Pt j]) w λv _=>v= .bool (decide (0<x.ai) && !decide (x.At∈l)):=by
 refine Wj func238 ntmps238 ?_;refine Ww λz g b k d=>?_;have e:=p.cell (i:=0) (v:= .pointer (some f)) Z;rw[add_zero]at e;obtain⟨q,m⟩:=bq (decide (x.At∈l))
 have u:∀h,Ext w h->aS prog 172 [.slice A n c,Iv x.At] h λv _=>v= .bool q:=λh y=>by
  have:=hU _ _ c _ x.At _ (s.ext y) t;rwa[m]at this
 by_cases o:0<x.ai
 ·repeat'(first|refine Wz ?_|refine fq ?_|refine Wn b e ?_|refine Wn b r ?_|refine SW.ba Z Z (λg a=>(u _ (b.trans a))) ?_|(refine SW.br λg a=>?_;obtain⟨b,d⟩:=bk a b d))
  all_goals try omega
  exact ah.aF Z Z ⟨_,Z,b,by rw[m,decide_eq_true o];simp⟩
 repeat'(first|refine Wz ?_|refine fq ?_|(refine SW.br λg a=>?_;obtain⟨b,d⟩:=bk a b d))
 all_goals try omega
 exact ah.aF Z Z ⟨_,Z,b,by rw[decide_eq_false o];simp⟩
def Bb(c:aO)(cpu k:Nat):aO:=⟨c.Names,c.ax,c.bd,c.Order,c.ae,c.ao.set cpu (ey c k).At⟩
def Ny(G:Nat->Prop)(d e:World)(b:Nat)(r:cc)(s:aj)(i:Nat)(c:aO)(cpu:Nat)(v:Value)(a:World):Prop:=
 ∃m,mb s c cpu m∧Ext d a∧(∀j x,j≠b->ay e j 37 x->ay a j 37 x)∧(∀j x,G j->ay e j 3 x->ay a j 3 x)∧
  ((m.1=none∧m.2≠0∧v= .tuple #[Iv 0,Iv m.2])∨
   ∃M,m=(some M,0)∧v= .tuple #[Iv (M.k:Int),Iv 0]∧∃X H cs',ay a b 37 (ar ⟨X,H,r.ab⟩)∧SX a d.heap.size ⟨X,H,r.ab⟩ (aZ (jJ s M.ws) i (M.h,Bb M.c cpu M.k)) cs'∧SJ G a d.heap.size ⟨X,H,r.ab⟩ (aZ (jJ s M.ws) i (M.h,Bb M.c cpu M.k)) cs')
theorem Ge(G:Nat->Prop)(O w0:World)(b:Nat)(r:cc)(s:aj)(cs:List da)(i cpu:Nat)(hf:s.bU)(F:i<s.ab.length)(hM:mn s s.ab[i])(zk:nq w0)
 (hx:Ext O w0) (hb:ay w0 b 37 (ar r)) (zy:O.heap.size<=b) (l:SX w0 O.heap.size r s cs) (w:SJ G w0 O.heap.size r s cs) (zz:∀g,G g->g<w0.heap.size) (P:cpu<s.ab[i].ao.length) (zA:(s.ab[i].ae.length+1)*24<=140737488355328):
 jX prog 214 [Pt b,Iv (i:Int),Iv (cpu:Int)] w0 (Ny G O w0 b r s i s.ab[i] cpu):=by
 refine c8 func214 rfl ntmps214 rfl ?_;have hm:=hM.most;have e0:=jk F;have h2:=hf.ID F;have q4:=h2.small.aD;have zN:=hx.size;obtain⟨e1,e2⟩:=l.len;have A:i<cs.length:=Y;have m:i<r.ab.n:=Y;have zO:=l.row.sl.base;have p:=l.each.get i A F;have q1:=p.av.len;have q3:=p.aD.len;have zl:cpu<cs[i].ao.n:=Y;have zP:=p.av.sl.base;have zQ:=p.aD.sl.base;have L:=BX hM P;have gT:(s.ab[i].ao.getD cpu 0)=s.ab[i].ao[cpu]:=by simp[P]
 have d:=Ext.refl w0;refine Wz ?_;refine SW.alloc rfl λb8 w1 f zm c=>?_;have zI:=d.up zm;obtain⟨d,hb,l,w⟩:=cG f d hb l w;refine We (i:=0) c λw2 g za=>?_;obtain⟨d,hb,l,w⟩:=cG g d hb l w;have c:ay w2 b8 116 [.pointer (some ((r.ab.A.getD default).add (i*6)))]:=za
 have I:∀q,ay q b8 116 [.pointer (some ((r.ab.A.getD default).add (i*6)))]->q.cell? ⟨b8,0,none⟩=some (.pointer (some ((r.ab.A.getD default).add (i*6)))):=λq h=>by
  have:=h.cell (i:=0) (v:= .pointer (some ((r.ab.A.getD default).add (i*6)))) Z;rwa[add_zero]at this
 obtain⟨o,ho⟩:=bq (xZ s.ab[i] cpu);obtain⟨t,ht⟩:=bq (s.ab[i].ao[cpu]);rw[ho,ht]at L;have gA:∀q,SX q O.heap.size r s cs->q.cell? ((((cs[i].ao.A).getD default).add (cpu*1)))=some (Iv t):=λq h=>(h.each.get i A F).aD.sl.one zl (by rw[show s.ab[i].ao[cpu]=t from ht];rfl);have p:=l.each.get i A F
 have cF:∀q,Ext w2 q->aS prog 199 [.agg (cr cs[i]).toArray,Iv t] q λv _=>v=Iv o:=λq h=>by
  have:=D7 cs[i] s.ab[i].ae t q (p.av.sl.ext h) Y;unfold xZ at ho;rw[gT,ht]at ho;rwa[ho]at this
 have zd:=d;have d:=Ext.refl w2;by_cases hA:∃(k:Nat)(hk:k<s.ab[i].ae.length),o=k∧0<s.ab[i].ae[k].ai
 ·obtain⟨k,hk,rfl,J⟩:=hA;have Q:k<cs[i].ae.n:=Y;obtain⟨y,hy⟩:=bq (s.ab[i].ae[k]);rw[hy]at J;have gF:∀q,SX q O.heap.size r s cs->q.cell? ((((cs[i].ae.A).getD default).add (k*3)).add 1)=some (Iv y.ai):=λq h=>(h.each.get i A F).av.sl.dp Q (j:=1) (show(bG (s.ab[i].ae[k]'Y))[1]?=some (Iv y.ai)by rw[hy];rfl)
  have C:jS s.ab[i] cpu=k:=by
   unfold jS;rw[ho,if_pos ⟨by omega,by rw[show((k:Int)).toNat=k by omega,eR hk,hy];exact J⟩]
  repeat'(first|refine Wz ?_|refine fq ?_|refine Wl (I _ c) ?_|refine Wm ((l.row.sl.all m)) ?_|refine Wl (l.row.sl.dp m (j:=5) (u:= .slice cs[i].ao.A cs[i].ao.n cs[i].ao.c) Z) ?_|refine Wl (gA _ l) ?_|refine Wl (l.row.sl.dp m (j:=4) (u:= .slice cs[i].ae.A cs[i].ae.n cs[i].ae.c) Z) ?_|refine Wl (gF _ l) ?_|refine SW.ba Z Z (λw1 f=>(cF _ (d.trans f))) ?_|(refine SW.br λw1 f=>?_;obtain⟨d,hb,c,l,w⟩:=dz f d hb c l w))
  all_goals try omega
  have d:=zd.trans d;rcases L with⟨_,h⟩|⟨_,k2,R,h,zn⟩
  ·omega
  obtain rfl:k=k2:=Y;rw[hy]at zn
  have S:Bb s.ab[i] cpu k=s.ab[i]:=by
   unfold Bb;rw[eR hk,hy,zn,<-ht,Qg]
  refine ah.cf Z Z Z ⟨_,Z,_,.xF C,hx.trans d,λj x M h=>h.ext d,λj x M h=>h.ext d,.inr ⟨_,Z,Z,r.Words,r.Heap,cs,hb,?_⟩⟩;simp only;rw[S];rw[<-e0]at l w;exact⟨l,w⟩
 have zo:¬(0<=o∧0<(ey s.ab[i] o.toNat).ai):=λh=>by
  rcases L with⟨_,h1⟩|⟨_,k2,R,h1,_⟩
  ·omega
  refine hA ⟨k2,R,h1,?_⟩;have:=h.2;rwa[show o.toNat=k2 by omega,eR R]at this
 rcases L with⟨_,ze⟩|⟨_,k2,R,ze,zJ⟩
 focus
  repeat'(first|refine Wz ?_|refine fq ?_|refine Wl (I _ c) ?_|refine Wm ((l.row.sl.all m)) ?_|refine Wl (l.row.sl.dp m (j:=5) (u:= .slice cs[i].ao.A cs[i].ao.n cs[i].ao.c) Z) ?_|refine Wl (gA _ l) ?_|refine Wl (l.row.sl.dp m (j:=4) (u:= .slice cs[i].ae.A cs[i].ae.n cs[i].ae.c) Z) ?_|refine SW.ba Z Z (λw1 f=>(cF _ (d.trans f))) ?_|(refine SW.st (gH (vs:=[Pt b8]) Z) Z ?_)|(refine SW.br λw1 f=>?_;obtain⟨d,hb,c,l,w⟩:=dz f d hb c l w))
  all_goals try omega
 rotate_left
 focus
  have zp:k2<cs[i].ae.n:=Y;obtain⟨y2,zq⟩:=bq (s.ab[i].ae[k2]);have zK:¬0<y2.ai:=λh=>hA ⟨k2,R,ze,by rw[zq];exact h⟩;have zB:∀q,SX q O.heap.size r s cs->q.cell? ((((cs[i].ae.A).getD default).add (k2*3)).add 1)=some (Iv y2.ai):=λq h=>(h.each.get i A F).av.sl.dp zp (j:=1) (show(bG (s.ab[i].ae[k2]'Y))[1]?=some (Iv y2.ai)by rw[zq];rfl);subst ze;repeat'(first|refine Wz ?_|refine fq ?_|refine Wl (I _ c) ?_|refine Wm ((l.row.sl.all m)) ?_|refine Wl (l.row.sl.dp m (j:=5) (u:= .slice cs[i].ao.A cs[i].ao.n cs[i].ao.c) Z) ?_|refine Wl (gA _ l) ?_|refine Wl (l.row.sl.dp m (j:=4) (u:= .slice cs[i].ae.A cs[i].ae.n cs[i].ae.c) Z) ?_|refine Wl (zB _ l) ?_|refine SW.ba Z Z (λw1 f=>(cF _ (d.trans f))) ?_|(refine SW.st (gH (vs:=[Pt b8]) Z) Z ?_)|(refine SW.br λw1 f=>?_;obtain⟨d,hb,c,l,w⟩:=dz f d hb c l w))
  all_goals try omega
 all_goals
  have d:=zd.trans d;have p:=l.each.get i A F;have zb:=l.row.sl.dp m (j:=5) (u:= .slice cs[i].ao.A cs[i].ao.n cs[i].ao.c) Z;refine Wc (jG _ _ _ s.ab[i].ae _ p.av.sl _ [Pt b8] (nd s.ab[i]) (λx=> .agg (bG x).toArray) (λx=>Z) (λx zR w1 zf=>EK x b8 _ cs[i].ao.A cs[i].ao.n cs[i].ao.c s.ab[i].ao w1 (c.ext zf) (zf.cell zb) (p.aD.sl.ext zf) Y) Y) λw9 zC=>?_;obtain⟨d,hb,c,l,w⟩:=dz zC d hb c l w;obtain⟨z,hz⟩:=bq (idxOf (nd s.ab[i]) s.ab[i].ae);rw[hz]
  have C:jS s.ab[i] cpu=z:=by
   unfold jS;rw[ho,if_neg zo,hz]
  by_cases zD:0<=z
  ·obtain⟨k,rfl⟩:=Pm zD;obtain⟨hk,J⟩:=Hg C;have Q:k<cs[i].ae.n:=Y;obtain⟨y,hy⟩:=bq (s.ab[i].ae[k]);have gY:∀q,SX q O.heap.size r s cs->q.cell? ((((cs[i].ae.A).getD default).add (k*3)).add 0)=some (Iv y.At):=λq h=>(h.each.get i A F).av.sl.dp Q (j:=0) (show(bG (s.ab[i].ae[k]'Y))[0]?=some (Iv y.At)by rw[hy];rfl);refine Wz ?_;all_goals try omega
   refine CW.iF 14 14 (λ_=>True) mixed bm λw1 f a=>?_;obtain⟨d,hb,c,l,w⟩:=dz f d hb c l w;refine Wt 0 [] [] a Z (aJ Z (I _ c)) ?_;refine Wt 1 [] [] a Z (aX Z) ?_;refine Wt 2 [] [] a Z (aI Z) ?_;refine Wt 3 [] [] a Z (aJ Z (l.row.sl.dp m (j:=5) (u:= .slice cs[i].ao.A cs[i].ao.n cs[i].ao.c) Z)) ?_;refine Wp 4 [] [] a Z Z ?_;refine Wt 5 [] [] a Z (aJ Z (I _ c)) ?_;refine Wt 6 [] [] a Z (aX Z) ?_;refine Wt 7 [] [] a Z (aI Z) ?_;refine Wt 8 [] [] a Z (aJ Z (l.row.sl.dp m (j:=4) (u:= .slice cs[i].ae.A cs[i].ae.n cs[i].ae.c) Z)) ?_;refine Wp 9 [] [] a Z Z ?_;refine Wt 10 [] [] a Z (bO Z Z ig Y) ?_;refine Wt 11 [] [] a Z (aI Z) ?_;refine Wt 12 [] [] a Z (aJ Z (gY _ l)) ?_;refine Wt 13 [] [] a Z (bO Z Z ig Y) ?_;refine SF.dQ ?_;have p:=l.each.get i A F;refine SW.j3 cpu p.aD Z Z zl λzr hO N=>?_;have hG:=p.aD.gr N;rw[<-e0]at l w;have zg:=l.act w A F hO N;have zh:=au (hx.trans d) N (Ph _) p.aD.az;have hb:=hb.aQ hG Z;refine Wz ?_;refine ah.cf Z Z Z ⟨_,Z,_,.xF C,zh,λj x M h=>(h.ext d).aQ hG Z,λj x M h=>(h.ext d).grown N (w.ne M A),.inr ⟨_,Z,Z,r.Words,r.Heap,cs,hb,?_⟩⟩
   have S:Bb s.ab[i] cpu k=⟨s.ab[i].Names,s.ab[i].ax,s.ab[i].bd,s.ab[i].Order,s.ab[i].ae,s.ab[i].ao.set cpu y.At⟩:=by
    unfold Bb;rw[eR hk,hy]
   simp only;rw[S];exact zg
  have T:jS s.ab[i] cpu<0:=Y;refine Wz ?_;all_goals try omega
  refine SW.cm Z Z (KM G O _ b r s cs i cpu hf F hM (zk.ext d) (hx.trans d) hb zy l (λg N=>⟨P1 (zz g N) d.size,λu hu=>w.sep u hu g N⟩) zA) λv zr hv=>?_;obtain⟨⟨h',D,e⟩,hu,hv⟩:=hv;simp only at hv;rcases hv with⟨he,rfl,n⟩|⟨rfl,zs,rfl,n⟩|⟨rfl,zE,rfl,n,zF,zG,zH,X,H,cs',U,B,V⟩
  ·refine Wz ?_;all_goals try omega
   exact ah.cf Z Z Z ⟨_,Z,_,.room T hu he,(hx.trans d).trans n,λj x M h=>(h.ext d).ext n,λj x M h=>(h.ext d).ext n,.inl ⟨Z,he,Z⟩⟩
  ·refine Wz ?_;all_goals try omega
   exact ah.cf Z Z Z ⟨_,Z,_,.chain T hu Z zs,(hx.trans d).trans n,λj x M h=>(h.ext d).ext n,λj x M h=>(h.ext d).ext n,.inl ⟨Z,by simp,Z⟩⟩
  have c:=zG _ _ c;obtain⟨e3,e4⟩:=B.rows;have E:i<cs'.length:=by simp only[jJ]at e3;omega
  obtain⟨k,zi⟩:=bq (eU s.ab[i] D);obtain⟨K,W⟩:=bq (de s.ab[i] D);have zt:=lD s.ab[i] D
  have zS:K.ae.length=s.ab[i].ae.length+1:=by
   rw[<-W];exact bT _ zt _
  have zu:k<K.ae.length:=Y
  have zv:K.ae[k]=⟨D,s.ab[i].bd,16*D⟩:=by
   subst W;subst zi;exact EG zt zu
  have zj:K.ao=s.ab[i].ao:=by rw[<-W];rfl
  have zc:=mb.new T hu Z zE;rw[W]at B V;rw[zi];simp only[W,zi]at zc;have p:=B.get E F;simp only at p;have q5:=p.av.len;have q6:=p.aD.len;have Q:k<cs'[i].ae.n:=Y;have zw:cpu<cs'[i].ao.n:=by rw[<-q6,zj];exact P
  have zL:=p.av.sl.base;have zM:=p.aD.sl.base;have gY:∀q,SX q O.heap.size ⟨X,H,r.ab⟩ (aZ (jJ s (df s.Words (16*D) s.ab[i].ax s.ab[i].bd)) i (h',K)) cs'->q.cell? ((((cs'[i].ae.A).getD default).add (k*3)).add 0)=some (Iv D):=λq h=>(h.get E F).av.sl.dp Q (j:=0) (show(bG (K.ae[k]'Y))[0]?=some (Iv D)by rw[zv];rfl);have zx:=d;have d:=Ext.refl zr;refine Wz ?_;all_goals try omega
  refine CW.iF 14 14 (λ_=>True) mixed bm λw1 f a=>?_;obtain⟨d,U,c,B,V⟩:=dz f d U c B V;refine Wt 0 [] [] a Z (aJ Z (I _ c)) ?_;refine Wt 1 [] [] a Z (aX Z) ?_;refine Wt 2 [] [] a Z (aI Z) ?_;refine Wt 3 [] [] a Z (aJ Z (B.row.sl.dp m (j:=5) (u:= .slice cs'[i].ao.A cs'[i].ao.n cs'[i].ao.c) Z)) ?_;refine Wp 4 [] [] a Z Z ?_;refine Wt 5 [] [] a Z (aJ Z (I _ c)) ?_;refine Wt 6 [] [] a Z (aX Z) ?_;refine Wt 7 [] [] a Z (aI Z) ?_;refine Wt 8 [] [] a Z (aJ Z (B.row.sl.dp m (j:=4) (u:= .slice cs'[i].ae.A cs'[i].ae.n cs'[i].ae.c) Z)) ?_;refine Wp 9 [] [] a Z Z ?_;refine Wt 10 [] [] a Z (bO Z Z ig Y) ?_;refine Wt 11 [] [] a Z (aI Z) ?_;refine Wt 12 [] [] a Z (aJ Z (gY _ B)) ?_;refine Wt 13 [] [] a Z (bO Z Z ig Y) ?_;refine SF.dQ ?_;have p:=B.get E F;simp only at p;refine SW.j3 cpu p.aD Z Z zw λzT hO N=>?_;have hG:=p.aD.gr N;have zg:=B.act V E F hO N;have zh:=au (n.trans d) N (Ph _) p.aD.az;have U:=U.aQ hG Z;refine Wz ?_;refine ah.cf Z Z Z ⟨_,Z,_,zc,zh,λj x M h=>((zF j x M (h.ext zx)).ext d).aQ hG Z,λj x M h=>((zH j x (h.ext zx)).ext d).grown N (V.ne M E),.inr ⟨_,Z,Z,X,H,cs',U,?_⟩⟩
  have S:Bb K cpu k=⟨K.Names,K.ax,K.bd,K.Order,K.ae,K.ao.set cpu D⟩:=by
   unfold Bb;rw[eR zu,zv]
  simp only;rw[S];exact zg
def M5(G:Nat->Prop)(d e:World)(b:Nat)(r:cc)(s:aj)(i:Nat)(c:aO)(cpu:Nat)(v:Value)(a:World):Prop:=
 ∃m,mb s c cpu m∧Ext d a∧(∀j x,j≠b->ay e j 37 x->ay a j 37 x)∧(∀j x,G j->ay e j 3 x->ay a j 3 x)∧
  ((m.1=none∧m.2≠0∧v= .tuple #[Iv 0,Iv m.2])∨
   ∃M,m=(some M,0)∧v= .tuple #[Iv (ey M.c M.k).bR,Iv 0]∧∃X H cs',ay a b 37 (ar ⟨X,H,r.ab⟩)∧SX a d.heap.size ⟨X,H,r.ab⟩ (aZ (jJ s M.ws) i (M.h,dl M.c cpu M.k (M.ws.getD (ey M.c M.k).bR.toNat 0))) cs'∧SJ G a d.heap.size ⟨X,H,r.ab⟩ (aZ (jJ s M.ws) i (M.h,dl M.c cpu M.k (M.ws.getD (ey M.c M.k).bR.toNat 0))) cs')
theorem nM.Hi{r:cc}{cs:List da}{p:Heap×aO}(h:SX w lo r (aZ s i p) cs)(b:i<cs.length)(a:i<s.ab.length)(c:Own w' lo 60 3 bG cs[i].ae.A cs[i].ae.n cs[i].ae.c l')(d:w.grownBy w' (aN cs[i].ae.A cs[i].ae.c)):
 SX w' lo r (aZ s i (p.1,⟨p.2.Names,p.2.ax,p.2.bd,p.2.Order,l',p.2.ao⟩)) cs:=by
 have:=h.C5 b a c d;have e:cs.set i ⟨cs[i].Names,cs[i].ax,cs[i].bd,cs[i].Order,⟨cs[i].ae.A,cs[i].ae.n,cs[i].ae.c⟩,cs[i].ao⟩=cs:=Qg b;rwa[e]at this
theorem Hj(G:Nat->Prop)(A l:World)(b:Nat)(r:cc)(s:aj)(cs:List da)(i cpu:Nat)(hf:s.bU)(R:i<s.ab.length)(S:mn s s.ab[i])(B:nq l)
 (hx:Ext A l) (hb:ay l b 37 (ar r)) (T:A.heap.size<=b) (U:SX l A.heap.size r s cs) (hJ:SJ G l A.heap.size r s cs) (V:∀g,G g->g<l.heap.size) (C:cpu<s.ab[i].ao.length) (W:(s.ab[i].ae.length+1)*24<=140737488355328):
 jX prog 167 [Pt b,Iv (i:Int),Iv (cpu:Int)] l (M5 G A l b r s i s.ab[i] cpu):=by
 refine c8 func167 rfl ntmps167 rfl ?_;have hm:=S.most;have zh:=U.row.sl.base;obtain⟨e1,e2⟩:=U.len;have za:i<r.ab.n:=Y;refine Wz ?_;refine SW.cm rfl rfl (Ge G A _ b r s cs i cpu hf R S B hx hb T U hJ V C W) λv w1 hv=>?_;obtain⟨m,c,D,E,F,hv⟩:=hv;rcases hv with⟨hn,he,rfl⟩|⟨M,rfl,rfl,X,H,cs',p,a,zb⟩
 ·have hw:=Ext.refl w1;refine Wz ?_;all_goals try omega
  exact ah.cf Z Z Z ⟨_,Z,m,c,D,E,F,.inl ⟨hn,he,Z⟩⟩
 have d:=c.Mp S M Z;obtain⟨e3,e4⟩:=a.rows;simp only[jJ]at e3;have n:i<cs'.length:=Y;obtain⟨k,hk⟩:=bq M.k;have I:=d.hk;have J:=d.first
 have zc:=d.free;have zi:=d.len;obtain⟨y,Q⟩:=bq (M.c.ae[M.k]);have q:ey M.c M.k=y:=by rw[eR I,Q]
 rw[Q]at J zc;obtain⟨o,t⟩:=Pm J.1;have w:=a.get n R;simp only[Bb]at w;have q1:M.c.ae.length=cs'[i].ae.n:=w.av.len;have q2:=a.words.len;have zj:X.n=M.ws.length:=q2.symm;have e:M.k<cs'[i].ae.n:=Y;have zk:=w.av.sl.base;have zl:=a.words.sl.base;have g2:=w.av.sl.dp e (j:=2) (show(bG (M.c.ae[M.k]'Y))[2]?=some (Iv (o:Int))by rw[Q,<-t];rfl);have K:o<M.ws.length:=Y;have L:o<X.n:=Y;have gW:=a.words.sl.one L (u:=Iv M.ws[o]) Z;have hw:=Ext.refl w1;repeat'(first|refine Wz ?_|refine Wl (a.row.sl.dp za (j:=4) (u:= .slice cs'[i].ae.A cs'[i].ae.n cs'[i].ae.c) Z) ?_|refine Wl g2 ?_|refine Wl gW ?_)
 all_goals try omega
 refine SW.eY M.k 2 ⟨y.At,y.ai,M.ws[o]⟩ w.av Z Z Z e ir Z (by simp only[Q];rfl) λw8 N zd=>?_;have g8:=N.sl.dp e (j:=1) (show(bG ((M.c.ae.set M.k ⟨y.At,y.ai,M.ws[o]⟩)[M.k]'(by rw[PS];exact I)))[1]?=some (Iv y.ai)by rw[QL];rfl);repeat'(first|refine Wz ?_|refine Wl g8 ?_)
 refine SW.eY M.k 1 ⟨y.At,y.ai-1,M.ws[o]⟩ N Z Z Z e ir Z (by simp only[List.getElem_set_self];rfl) λw9 O ze=>?_;have z:=cU zd ze (.inl Z);rw[Ra]at O;have f:=w.av.gr z;have P:=a.Hi n R O z;have zf:=au D z (Ph _) w.av.az;have p:=p.aQ f Z;refine Wz ?_;refine ah.cf Z Z Z ⟨_,Z,_,c,zf,λj x hj h=>(E j x hj h).aQ f Z,λj x hj h=>(F j x hj h).aQ f Z,.inr ⟨M,Z,by rw[q,t],X,H,cs',p,?_⟩⟩
 have zg:dl M.c cpu M.k (M.ws.getD (ey M.c M.k).bR.toNat 0)=⟨M.c.Names,M.c.ax,M.c.bd,M.c.Order,M.c.ae.set M.k ⟨y.At,y.ai-1,M.ws[o]⟩,M.c.ao.set cpu y.At⟩:=by
  unfold dl;rw[q,t];simp[K]
 rw[zg];simp only[Bb,q]at P;exact⟨P,(zb.aQ f Z).rows Z λu hu=>⟨u,hu,Z⟩⟩
theorem rW(r:cc)(s:aj)(n:ByteArray)(cpu:Int)(w:World)(hr:mB w r s)(R:s.bU)(F:n.size<=140737488351232)(k:nq w):
 aS prog 80 [.agg (ar r).toArray,.string n,Iv cpu] w λv l=>∃u,mo s n cpu u∧∃q,v= .tuple #[.agg (ar q).toArray,Iv u.2.1,Iv u.2.2]∧gK l w.heap.size q u.1:=by
 refine Wj func80 ntmps80 ?_;refine Ww λS w1 a o d=>?_;refine SW.alloc Z λb6 w3 G p b=>?_;have T:=a.up p;have I:b6≠S:=by have:=d.lt;omega
 have U:∀l,gK l w.heap.size cc.zero aj.zero:=λl=>⟨Own.cq _ _ _ _ _ _,ik.zero l _,⟨[],dJ.nil _ _⟩⟩;obtain⟨a,d⟩:=bk G a d;refine Wz ?_;refine Wk (tF r s n cpu _ (hr.ext a) R F) λv w4 J t=>?_;have x:=a.size;obtain⟨a,d,b⟩:=aY J a d b;rcases t with⟨y,rfl⟩|⟨y,q,cs,rfl,z,A⟩
 ·have j:=mo.ask y;obtain⟨e,V⟩:=bq (ga s n cpu);rw[V]at y j;rw[V];refine Wz ?_;refine Wh d (aB .zero) λw5 g W=>?_;obtain⟨b,a⟩:=bk g b a;refine Wz ?_;all_goals try omega
  refine Wh b (aB .zero) λw6 g f=>?_;have a:=jc g a;refine Wz ?_;exact ah.cb Z Z Z Z f Z ⟨_,Z,a,_,j,.zero,Z,U _⟩
 have z:=z.low x;have A:=A.low x;obtain⟨hq,ht,K,za⟩:=jj y;obtain⟨i,E,_,_,B⟩:=eK ht;have L:=dg.1 hq;have hm:=L.most;obtain⟨c,rfl⟩:=Pm K;have zb:=(L.each i E).may.aD;have C:c<s.ab[i].ao.length:=Y;have hB:=mn.of L E;have zc:=oL hB;rw[B];refine Wz ?_;refine Wh d (aB q) λw5 g d=>?_;obtain⟨b,a,z,A⟩:=cG g b a z A;refine Wz ?_;refine SW.cm Z Z (Hj (λ_=>False) w _ S q s cs i c R E hB (k.ext a) a d o z A.sj (λ_ h=>h.elim) C Y) λv w6 t=>?_;obtain⟨m,D,N,O,_,t⟩:=t;have j:=mo.A9 y B E (by simpa using D);have b:=O _ _ I b;have a:=N;rcases t with⟨hn,P,rfl⟩|⟨M,rfl,rfl,X,H,cs',hb,Q,_⟩
 ·obtain⟨m1,e⟩:=m;simp only at hn P j;subst hn;simp only[kC]at j;refine Wz ?_;all_goals try omega
  refine Wh b (aB .zero) λw7 g f=>?_;have a:=jc g a;refine Wz ?_;exact ah.cb Z Z Z Z f Z ⟨_,Z,a,_,j,.zero,Z,U _⟩
 simp only[kC]at j;refine Wz ?_;refine Wh b (aB ⟨X,H,q.ab⟩) λw7 g f=>?_;obtain⟨a,Q⟩:=bk g a Q;refine Wz ?_;exact ah.cb Z Z Z Z f Z ⟨_,Z,a,_,j,_,Z,by simpa using Q.nb⟩
def Gf(G:Nat->Prop)(b d:World)(r:cc)(s:aj)(i:Nat)(c:aO)(cpu:Nat)(v:Value)(a:World):Prop:=
 ∃m,mb s c cpu m∧Ext b a∧(∀j x,ay d j 37 x->ay a j 37 x)∧(∀j x,G j->ay d j 3 x->ay a j 3 x)∧
  ((m.1=none∧m.2≠0∧v= .tuple #[.agg (ar r).toArray,Iv 0,Iv m.2])∨
   ∃M,m=(some M,0)∧∃X H cs',v= .tuple #[.agg (ar ⟨X,H,r.ab⟩).toArray,Iv (ey M.c M.k).bR,Iv 0]∧SX a b.heap.size ⟨X,H,r.ab⟩ (aZ (jJ s M.ws) i (M.h,dl M.c cpu M.k (M.ws.getD (ey M.c M.k).bR.toNat 0))) cs'∧SJ G a b.heap.size ⟨X,H,r.ab⟩ (aZ (jJ s M.ws) i (M.h,dl M.c cpu M.k (M.ws.getD (ey M.c M.k).bR.toNat 0))) cs')
theorem px(G:Nat->Prop)(wb w:World)(r:cc)(s:aj)(cs:List da)(i cpu:Nat)(hf:s.bU)(hi:i<s.ab.length)(hM:mn s s.ab[i])
 (hx:Ext wb w) (q:SX w wb.heap.size r s cs) (J:SJ G w wb.heap.size r s cs) (yJ:∀g,G g->g<w.heap.size) (zW:cpu<s.ab[i].ao.length):
 jX prog 119 [.agg (ar r).toArray,Iv (i:Int),Iv (cpu:Int)] w (Gf G wb w r s i s.ab[i] cpu):=by
 refine c8 func119 rfl ntmps119 rfl ?_;refine Ww λb3 w1 d zX f=>?_;refine SW.alloc Z λb6 w3 yK yi l=>?_;have zt:=d.up yi;have yj:b6≠b3:=by have:=f.lt;omega
 obtain⟨d,f⟩:=bk yK d f;have hm:=hM.most;have h1:=hf.Lu;have xh:=hM.words;have e0:=jk hi;have h2:=hf.ID hi;have q4:=h2.small.aD;have zO:=hx.size;have xi:=oL hM;obtain⟨e1,e2⟩:=q.len;have S:i<cs.length:=Y;have zr:i<r.ab.n:=Y;have xj:=q.row.sl.base;have yk:=q.words.len;have P:=q.each.get i S hi;have yl:=P.order;have z3:=P.size;have zu:=P.per;have q1:=P.av.len;have q3:=P.aD.len;have yL:cpu<cs[i].ao.n:=Y;have xk:=P.av.sl.base;have xl:=P.aD.sl.base;have zv:=BX hM zW;have ym:=q.C6;obtain⟨o,ho⟩:=bq (xZ s.ab[i] cpu);obtain⟨t,ht⟩:=bq (s.ab[i].ao[cpu]);have gT:(s.ab[i].ao.getD cpu 0)=t:=by rw[<-ht];simp[zW]
 rw[ho,ht]at zv;have gA:∀E,SX E wb.heap.size r s cs->E.cell? ((((cs[i].ao.A).getD default).add (cpu*1)))=some (Iv t):=λE h=>(h.each.get i S hi).aD.sl.one yL (by rw[show s.ab[i].ao[cpu]=t from ht];rfl);obtain⟨q,J⟩:=bk d q J;repeat'(first|refine Wz ?_|refine Wm ((q.row.sl.all zr)) ?_)
 refine Wr (ox cs[i]) λb9 w2 N yn n=>?_;have xc:=d.up yn;obtain⟨d,f,l,q,J⟩:=dz N d f l q J;refine SW.nil (ah.seq ?_);refine CW.seq (CW.region ?_);refine SW.pure Z Z ?_;refine SW.nil (ah.seq ?_);refine CW.seq ?_;obtain⟨K1,zP⟩:∃K:Env->World->Prop,K=λL' E=>∃kk:Int,((0<=kk∧jS s.ab[i] cpu=kk)∨(kk= -1∧jS s.ab[i] cpu=idxOf (nd s.ab[i]) s.ab[i].ae))∧eA L' [(1,Iv (i:Int)),(2,Iv (cpu:Int)),(3,Pt b3),(6,Pt b6),(9,Pt b9),(10,Iv kk)]∧Ext w E∧ay E b3 37 (ar r)∧ay E b6 37 (ar .zero)∧ay E b9 58 (cr cs[i])∧SX E wb.heap.size r s cs∧SJ G E wb.heap.size r s cs:=⟨_,Z⟩;refine CW.cut K1 ?_ ?_
 ·rcases zv with⟨yM,yo⟩|⟨yM,k,hk,yo,xm⟩
  ·have V:jS s.ab[i] cpu=idxOf (nd s.ab[i]) s.ab[i].ae:=by
    unfold jS;rw[ho,if_neg Y]
   repeat'(first|refine Wz ?_|refine Wl (gA _ q) ?_)
   all_goals try omega
   exact ah.cut (K:=K1) (by rw[zP];exact⟨-1,.inr ⟨Z,V⟩,⟨Z,Z,Z,Z,Z,Z,trivial⟩,d,f,l,n,q,J⟩)
  subst yo;have zQ:k<cs[i].ae.n:=Y;obtain⟨y,hy⟩:=bq (s.ab[i].ae[k]);have z4:=(hM.oK _ (Pf hk)).free;rw[hy]at z4;have gF:∀E,SX E wb.heap.size r s cs->E.cell? ((((cs[i].ae.A).getD default).add (k*3)).add 1)=some (Iv y.ai):=λE h=>(h.each.get i S hi).av.sl.dp zQ (j:=1) (show(bG (s.ab[i].ae[k]'Y))[1]?=some (Iv y.ai)by rw[hy];rfl);have yp:ey s.ab[i] ((k:Int)).toNat=y:=by rw[show((k:Int)).toNat=k by omega,eR hk,hy]
  have P:=q.each.get i S hi
  have cF:∀E,Ext w2 E->aS prog 188 [.agg (cr cs[i]).toArray,Iv t] E λv _=>v=Iv (k:Int):=λE h=>by
   have:=sr cs[i] s.ab[i].ae t E (P.av.sl.ext h) Y;unfold xZ at ho;rw[gT]at ho;rwa[ho]at this
  have zs:=d;have d:=Ext.refl w2;by_cases zd:0<y.ai
  ·have V:jS s.ab[i] cpu=k:=by
    unfold jS;rw[ho,if_pos ⟨by omega,by rw[yp];exact zd⟩]
   repeat'(first|refine Wz ?_|refine fq ?_|refine Wl (gA _ q) ?_|refine Wl (gF _ q) ?_|refine SW.ba Z Z (λw1 C=>(cF _ (d.trans C))) ?_|(refine SW.br λw1 C=>?_;obtain⟨d,f,l,n,q,J⟩:=fi C d f l n q J))
   all_goals try omega
   have d:=zs.trans d;exact ah.cut (K:=K1) (by rw[zP];exact⟨k,.inl ⟨by omega,V⟩,⟨Z,Z,Z,Z,Z,Z,trivial⟩,d,f,l,n,q,J⟩)
  have V:jS s.ab[i] cpu=idxOf (nd s.ab[i]) s.ab[i].ae:=by
   unfold jS;rw[ho,if_neg (by rw[yp];omega)]
  repeat'(first|refine Wz ?_|refine fq ?_|refine Wl (gA _ q) ?_|refine Wl (gF _ q) ?_|refine SW.ba Z Z (λw1 C=>(cF _ (d.trans C))) ?_|(refine SW.br λw1 C=>?_;obtain⟨d,f,l,n,q,J⟩:=fi C d f l n q J))
  all_goals try omega
  have d:=zs.trans d;exact ah.cut (K:=K1) (by rw[zP];exact⟨-1,.inr ⟨Z,V⟩,⟨Z,Z,Z,Z,Z,Z,trivial⟩,d,f,l,n,q,J⟩)
 subst zP;rintro L' w5 ⟨kk,ze,T,d,f,l,n,q,J⟩;refine ah.sub T ?_;obtain⟨z,hz⟩:=bq (jS s.ab[i] cpu);rw[hz]at ze;refine Wz ?_;obtain⟨K2,z5⟩:∃K:Env->World->Prop,K=λL' E=>eA L' [(1,Iv (i:Int)),(2,Iv (cpu:Int)),(3,Pt b3),(6,Pt b6),(9,Pt b9),(10,Iv z)]∧Ext w E∧ay E b3 37 (ar r)∧ay E b6 37 (ar .zero)∧ay E b9 58 (cr cs[i])∧SX E wb.heap.size r s cs∧SJ G E wb.heap.size r s cs:=⟨_,Z⟩;refine CW.vE K2 ?_ ?_
 ·refine CW.loop (λt:Nat×Int=>[(1,Iv (i:Int)),(2,Iv (cpu:Int)),(3,Pt b3),(6,Pt b6),(9,Pt b9),(10,Iv t.2),(11,Iv (t.1:Int))])
   (λt E=>t.1<=cs[i].ae.n∧((0<=t.2∧z=t.2)∨(t.2= -1∧z=idxOf (nd s.ab[i]) s.ab[i].ae∧∀(j:Nat)(U:j<s.ab[i].ae.length),j<t.1->nd s.ab[i] s.ab[i].ae[j]=false))∧Ext w E∧ay E b3 37 (ar r)∧ay E b6 37 (ar .zero)∧ay E b9 58 (cr cs[i])∧SX E wb.heap.size r s cs∧SJ G E wb.heap.size r s cs) (λt=>cs[i].ae.n-t.1) (0,kk)
   ⟨Z,Z,Z,Z,Z,Z,Z,trivial⟩ ⟨PL _,by
    rcases ze with h|h
    ·exact .inl h
    exact .inr ⟨h.1,h.2,λj U h0=>absurd h0 (Nat.not_lt_zero _)⟩,d,f,l,n,q,J⟩ ?_
  rintro⟨j,kk⟩ w6 ⟨U,ze,d,f,l,n,q,J⟩;simp only at U ze⊢;by_cases yN:j<cs[i].ae.n
  ·rcases ze with⟨yO,rfl⟩|⟨rfl,zw,zR⟩
   ·refine Wz ?_;all_goals try omega
    exact ah.fW (by rw[z5];exact⟨⟨Z,Z,Z,Z,Z,Z,trivial⟩,d,f,l,n,q,J⟩)
   have yP:j<s.ab[i].ae.length:=Y;obtain⟨y,hy⟩:=bq (s.ab[i].ae[j])
   have gy:∀E,SX E wb.heap.size r s cs->∀k v,(bG y)[k]?=some v->E.cell? ((((cs[i].ae.A).getD default).add (j*3)).add k)=some v:=λE h k v hv=>by
    refine(h.each.get i S hi).av.sl.all yN k v ?_;rw[show(s.ab[i].ae[j]'Y)=y from hy];exact hv
   obtain⟨t2,yq⟩:=bq (decide (y.At∈s.ab[i].ao));have P:=q.each.get i S hi
   have cT:∀E,Ext w6 E->aS prog 121 [.agg (cr cs[i]).toArray,Iv y.At] E λv _=>v= .bool t2:=λE hx=>by
    have:=uQ cs[i] s.ab[i] y.At E (P.rd.ext hx) Y;rwa[yq]at this
   have z6:nd s.ab[i] y=(decide (0<y.ai) && !t2):=by unfold nd;rw[yq]
   have zs:=d;have d:=Ext.refl w6
   have zx:∀b,nd s.ab[i] y=b->b=false->∀(k:Nat)(hk:k<s.ab[i].ae.length),k<j+1->nd s.ab[i] s.ab[i].ae[k]=false:=λb h1 h2 k hk h=>by
    by_cases e:k=j
    ·subst e;rw[hy,h1,h2]
    exact zR k hk Y
   by_cases zd:0<y.ai
   ·cases t2
    ·have yQ:z=(j:Int):=by
      rw[zw];exact jA yP (by rw[hy,z6,decide_eq_true zd];rfl) zR
     repeat'(first|refine Wz ?_|(first|refine CW.bQ Z ?_|(apply CW.dF mixed;(·kernel_rfl);rotate_left;intro w1 C;obtain⟨d,f,l,n,q,J⟩:=fi C d f l n q J;rotate_right))|refine Wl (gy _ q 1 (Iv y.ai) Z) ?_|refine Wl (gy _ q 0 (Iv y.At) Z) ?_|refine SW.ba Z Z (λw1 C=>(cT _ (d.trans C))) ?_|exact SW.br Z)
     all_goals try omega
     have d:=zs.trans d;exact ah.again (j+1,(j:Int)) ⟨Z,Z,Z,Z,Z,Z,Z,trivial⟩ dD ⟨by simp only;omega,.inl ⟨by simp only;omega,yQ⟩,d,f,l,n,q,J⟩
    repeat'(first|refine Wz ?_|(first|refine CW.bo Z ?_|(apply CW.dF mixed;(·kernel_rfl);rotate_left;intro w1 C;obtain⟨d,f,l,n,q,J⟩:=fi C d f l n q J;rotate_right))|refine Wl (gy _ q 1 (Iv y.ai) Z) ?_|refine Wl (gy _ q 0 (Iv y.At) Z) ?_|refine SW.ba Z Z (λw1 C=>(cT _ (d.trans C))) ?_|exact SW.br Z)
    all_goals try omega
    have d:=zs.trans d;exact ah.again (j+1,(-1:Int)) ⟨Z,Z,Z,Z,Z,Z,Z,trivial⟩ dD ⟨by simp only;omega,.inr ⟨Z,zw,zx _ z6 fy⟩,d,f,l,n,q,J⟩
   repeat'(first|refine Wz ?_|refine fq ?_|refine Wl (gy _ q 1 (Iv y.ai) Z) ?_|(refine SW.br λw1 C=>?_;obtain⟨d,f,l,n,q,J⟩:=fi C d f l n q J))
   all_goals try omega
   have d:=zs.trans d;exact ah.again (j+1,(-1:Int)) ⟨Z,Z,Z,Z,Z,Z,Z,trivial⟩ dD ⟨by simp only;omega,.inr ⟨Z,zw,zx _ z6 (by rw[decide_eq_false zd];rfl)⟩,d,f,l,n,q,J⟩
  have yR:kk=z:=by
   rcases ze with⟨yO,h⟩|⟨h,zw,zR⟩
   ·exact h.symm
   rw[h,zw];exact(iv λk hk=>zR k hk Y).1.symm
  subst yR;refine Wz ?_;all_goals try omega
  exact ah.fW (by rw[z5];exact⟨⟨Z,Z,Z,Z,Z,Z,trivial⟩,d,f,l,n,q,J⟩)
 subst z5;rintro L' w6 ⟨T,d,f,l,n,q,J⟩;refine ah.sub T ?_;refine ah.seq ?_;refine CW.seq ?_
 obtain⟨K3,zS⟩:∃K:Env->World->Prop,K=λL' E=>∃M X H cs',mb s s.ab[i] cpu (some M,0)∧eA L' [(1,Iv (i:Int)),(2,Iv (cpu:Int)),(3,Pt b3),(6,Pt b6),(10,Iv (M.k:Int))]∧Ext wb E∧ay E b3 37 (ar ⟨X,H,r.ab⟩)∧ay E b6 37 (ar .zero)∧
  SX E wb.heap.size ⟨X,H,r.ab⟩ (aZ (jJ s M.ws) i (M.h,M.c)) cs'∧SJ G E wb.heap.size ⟨X,H,r.ab⟩ (aZ (jJ s M.ws) i (M.h,M.c)) cs'∧(∀j x,ay w j 37 x->ay E j 37 x)∧(∀j x,G j->ay w j 3 x->ay E j 3 x)∧w.heap.size<=E.heap.size:=⟨_,Z⟩
 refine CW.LG K3 ?_ ?_
 ·by_cases yS:0<=z
  ·obtain⟨k,rfl⟩:=Pm yS;refine Wz ?_;all_goals try omega
   rw[<-e0]at q J;exact ah.fW (by rw[zS];exact⟨⟨s.Words,s.Heap,s.ab[i],k⟩,r.Words,r.Heap,cs,.xF hz,⟨Z,Z,Z,Z,Z,trivial⟩,hx.trans d,f,l,q,J,λj x h=>h.ext d,λj x _ h=>h.ext d,d.size⟩)
  have zp:jS s.ab[i] cpu<0:=Y;repeat'(first|refine Wz ?_|refine Wm ((e7 f)) ?_)
  all_goals try omega
  refine Wk (n0 r.Heap s.Heap (cpu:Int) cs[i].Order 0 _ q.heap.rd h1.small h1.tz) λv w7 N hv=>?_;obtain⟨u,hu,H,rfl,hH⟩:=hv;have hH:=hH.low d.size;obtain⟨e,he⟩:=bq u.2.2;obtain⟨D,zj⟩:=bq u.2.1;rw[he,zj];rw[yl]at hu;obtain⟨d,f,l,n,q,J⟩:=fi N d f l n q J;refine Wz ?_;refine Wr (bw H) λxn w2 N z7 z0=>?_;have yT:=d.up z7;obtain⟨d,f,l,n,q,J,hH⟩:=iX N d f l n q J hH;by_cases z8:e=0
  ·subst z8;have yU:=hu.at_ he;rw[zj]at yU;refine Wz ?_;all_goals try omega
   refine Wk (EF r.Words.A r.Words.n r.Words.c s.Words (16*D) cs[i].ax cs[i].bd _ q.words.sl Y) λv w8 N hv=>?_;rw[lu,z3,zu]at hv;have yr:=d.size;have zg:=hH.kQ;obtain⟨d,f,l,n,z0,q,J,hH,zg⟩:=HG N d f l n z0 q J hH zg;by_cases hc:gI s.Words.length (16*D) s.ab[i].ax s.ab[i].bd
   ·have zk:=hc;unfold gI at zk;rw[if_pos (by rw[yk]at zk;exact zk)]at hv;obtain⟨XA,Xc,rfl,Q⟩:=hv;have yV:∀g,aN XA Xc=some g->_<=g:=λg e=>Q.az g e;have Q:=Q.low yr;refine Wz ?_;all_goals try omega
    refine SW.ib 1 f Z Z Z (PE Z) (bw H) (ar ⟨r.Words,H,r.ab⟩) Z λw9 O I=>?_;have hG:=f.gr I;have zh:∀j x,ay w j 37 x->ay w9 j 37 x:=λj x h=>(h.ext d).grown I (by have:=h.lt;simp;omega);have zi:∀j x,G j->ay w j 3 x->ay w9 j 3 x:=λj x U h=>(h.ext d).grown I (by have:=h.lt;simp;omega);have d:=d.own zX I;have l:=l.grown I (by simpa using yj);obtain⟨n,q,J,hH,zg,Q⟩:=fi hG n q J hH zg Q;refine Wz ?_;refine Wb (i:=0) O λzf zy I=>?_;have hG:=O.gr I;have z1:∀j x,ay w j 37 x->ay zf j 37 x:=λj x h=>(zh j x h).grown I (by have:=h.lt;simp;omega);have z2:∀j x,G j->ay w j 3 x->ay zf j 3 x:=λj x U h=>(zi j x U h).grown I (by have:=h.lt;simp;omega);have d:=d.own zX I;have l:=l.grown I (by simpa using yj);obtain⟨n,q,J,hH,zg,Q⟩:=fi hG n q J hH zg Q;have f:ay zf b3 37 (ar ⟨⟨XA,r.Words.n,Xc⟩,H,r.ab⟩):=zy;rw[<-e0]at q;obtain⟨zz,ys⟩:=nM.fresh (p:=(s.Heap,s.ab[i])) (X:=⟨XA,r.Words.n,Xc⟩) (H:=H) (h':=u.1) (m:=w.heap.size) q zO ym (λg I=>⟨yJ g I,λu hu=>J.sep u hu g I⟩) Q zg yV;have zq:=d.size;have yt:=hx.trans d;refine Wz ?_
    refine CW.loop (λt:Nat×Option Addr×Nat=>[(1,Iv (i:Int)),(2,Iv (cpu:Int)),(3,Pt b3),(6,Pt b6),(9,Pt b9),(10,Iv (t.1:Int)),(13,Iv D),(16,.slice t.2.1 t.1 t.2.2)])
     (λt E=>t.1<=cs[i].ae.n∧(∀(j:Nat)(U:j<s.ab[i].ae.length),j<t.1->s.ab[i].ae[j].At<D)∧Ext zf E∧Own E zf.heap.size 60 3 bG t.2.1 t.1 t.2.2 (s.ab[i].ae.take t.1)) (λt=>cs[i].ae.n-t.1) (0,none,0)
     ⟨Z,Z,Z,Z,Z,Z,Z,Z,trivial⟩ ⟨PL _,λj U h=>absurd h (Nat.not_lt_zero _),Ext.refl _,by simpa using Own.cq _ _ _ _ _ _⟩ ?_
    rintro⟨k,A,c⟩ zT ⟨hk,zU,d,hL⟩;simp only at hk zU hL⊢;have z9:=zz.get S hi;simp only at z9;have gS:=z9.av.sl;have xo:=z9.av.le;by_cases zQ:k<cs[i].ae.n
    ·have yu:k<s.ab[i].ae.length:=Y;obtain⟨y,hy⟩:=bq (s.ab[i].ae[k]);have gA:=gS.dp zQ (j:=0) (show(bG (s.ab[i].ae[k]'Y))[0]?=some (Iv y.At)by rw[hy];rfl);by_cases yv:y.At<D
     ·repeat'(first|refine Wz ?_|refine Wn d (n.cell (i:=4) (v:= .slice cs[i].ae.A cs[i].ae.n cs[i].ae.c) Z) ?_|refine Wn d gA ?_|refine Wo d ((gS.all zQ)) ?_)
      all_goals try omega
      refine SW.bz Z Z Z Z Z λb zA N hb yW=>?_;obtain⟨d,hL⟩:=bk N d hL;refine SW.append hL (ay.la (enc:=bG) yW) d.size Z Z Z Y Y λA2 c2 yw yX I=>?_;have d:=au d I (Ph _) hL.az;refine Wz ?_;refine ah.again (k+1,A2,c2) ⟨Z,Z,Z,Z,Z,Z,Z,Z,trivial⟩ dD ⟨by simp only;omega,λj U h=>?_,d,?_⟩
      ·by_cases e:j=k
       ·subst e;rw[hy];exact yv
       exact zU j U (by simp only at h;omega)
      rw[Pk Y];exact yX
     have zB:eU s.ab[i] D=k:=wa Y zU (λh=>by rw[hy];exact yv);repeat'(first|refine Wz ?_|refine Wn d (n.cell (i:=4) (v:= .slice cs[i].ae.A cs[i].ae.n cs[i].ae.c) Z) ?_|refine Wn d gA ?_|refine Wn d (n.cell (i:=2) (v:=Iv cs[i].bd) Z) ?_)
     all_goals try omega
     have y0:=lD s.ab[i] D;have y1:(s.ab[i].ae.take k).length=k:=by rw[P3];omega
     refine SW.bz Z Z Z Z Z λbn zA N y2 ya=>?_;obtain⟨d,hL⟩:=bk N d hL;refine SW.append hL (ay.la (enc:=bG) (x:=⟨D,cs[i].bd,16*D⟩) ya) d.size Z Z Z Y Y λA2 c2 yw zC I=>?_;have d:=au d I (Ph _) hL.az;repeat'(first|refine Wz ?_|refine Wn d (n.cell (i:=4) (v:= .slice cs[i].ae.A cs[i].ae.n cs[i].ae.c) Z) ?_|(refine SW.st (dG (k:=k) Z Z Y Y) Z ?_))
     have zD:=((zz.get S hi).av.sl).ext d;simp only at zD;refine SW.append zC (zD.drop k cs[i].ae.c Y Y) d.size Z Z Z Y Y λA3 c3 y3 zE I=>?_;have d:=au d I (Ph _) zC.az;have zF:(s.ab[i].ae.take k++[(⟨D,cs[i].bd,16*D⟩:Slab)])++s.ab[i].ae.drop k=aP s.ab[i].ae k ⟨D,cs[i].bd,16*D⟩:=Z;rw[zF,show k+1+(cs[i].ae.n-k)=cs[i].ae.n+1 by omega]at zE;rw[show k+1+(cs[i].ae.n-k)=cs[i].ae.n+1 by omega];repeat'(first|refine Wz ?_|refine Wn d (f.cell (i:=6) (v:= .slice r.ab.A r.ab.n r.ab.c) Z) ?_)
     have zG:=zz.sy (Pj zO zq) S hi d zE;have W:=zG.row;have O:=f.ext d;have za:=l.ext d;have zl:=ys.ext d;refine SW.eY i 4 ⟨cs[i].Names,cs[i].ax,cs[i].bd,cs[i].Order,⟨A3,cs[i].ae.n+1,c3⟩,cs[i].ao⟩ W Z Z Z zr ir Z Z λy4 zm R=>?_;have zb:=W.gr R;have yb:=zG.sw zm R;have zH:=au (yt.trans d) R (Ph _) W.az;obtain⟨O,za,zl⟩:=aY zb O za zl
     have yc:=zl.rows (s':=aZ (jJ s (df s.Words (16*D) s.ab[i].ax s.ab[i].bd)) i (u.1,de s.ab[i] D)) (cs':=cs.set i ⟨cs[i].Names,cs[i].ax,cs[i].bd,cs[i].Order,⟨A3,cs[i].ae.n+1,c3⟩,cs[i].ao⟩) Z (λu hu=>by
      rcases Pu hu with hu|rfl
      ·exact⟨u,hu,Z⟩
      exact⟨cs[i],Pf S,Z⟩)
     have yd:de s.ab[i] D=⟨s.ab[i].Names,s.ab[i].ax,s.ab[i].bd,s.ab[i].Order,aP s.ab[i].ae k ⟨D,cs[i].bd,16*D⟩,s.ab[i].ao⟩:=by
      unfold de;rw[zB,zu]
     have L:=mb.new zp hu he (by rw[zj];exact hc);rw[zj]at L;refine Wz ?_;refine ah.fW ?_;rw[zS];refine⟨_,⟨XA,r.Words.n,Xc⟩,H,_,L,⟨Z,Z,Z,Z,by rw[zB];rfl,trivial⟩,zH,O,za,?_,yc,λj x h=>((z1 j x h).ext d).aQ zb Z,λj x U h=>((z2 j x U h).ext d).aQ zb Z,Pj zq (Pj d.size R.size)⟩;simp only;rw[yd];exact yb
    have ze:k=cs[i].ae.n:=Y;have zB:eU s.ab[i] D=k:=wa Y (λj U h=>zU j U Y) (λh=>by omega);repeat'(first|refine Wz ?_|refine Wn d (n.cell (i:=4) (v:= .slice cs[i].ae.A cs[i].ae.n cs[i].ae.c) Z) ?_|refine Wn d (n.cell (i:=2) (v:=Iv cs[i].bd) Z) ?_)
    all_goals try omega
    have y0:=lD s.ab[i] D;have y1:(s.ab[i].ae.take k).length=k:=by rw[P3];omega
    refine SW.bz Z Z Z Z Z λbn zA N y2 ya=>?_;obtain⟨d,hL⟩:=bk N d hL;refine SW.append hL (ay.la (enc:=bG) (x:=⟨D,cs[i].bd,16*D⟩) ya) d.size Z Z Z Y Y λA2 c2 yw zC I=>?_;have d:=au d I (Ph _) hL.az;repeat'(first|refine Wz ?_|refine Wn d (n.cell (i:=4) (v:= .slice cs[i].ae.A cs[i].ae.n cs[i].ae.c) Z) ?_|(refine SW.st (dG (k:=k) Z Z Y Y) Z ?_))
    have zD:=((zz.get S hi).av.sl).ext d;simp only at zD;refine SW.append zC (zD.drop k cs[i].ae.c Y Y) d.size Z Z Z Y Y λA3 c3 y3 zE I=>?_;have d:=au d I (Ph _) zC.az;have zF:(s.ab[i].ae.take k++[(⟨D,cs[i].bd,16*D⟩:Slab)])++s.ab[i].ae.drop k=aP s.ab[i].ae k ⟨D,cs[i].bd,16*D⟩:=Z;rw[zF,show k+1+(cs[i].ae.n-k)=cs[i].ae.n+1 by omega]at zE;rw[show k+1+(cs[i].ae.n-k)=cs[i].ae.n+1 by omega];repeat'(first|refine Wz ?_|refine Wn d (f.cell (i:=6) (v:= .slice r.ab.A r.ab.n r.ab.c) Z) ?_)
    have zG:=zz.sy (Pj zO zq) S hi d zE;have W:=zG.row;have O:=f.ext d;have za:=l.ext d;have zl:=ys.ext d;refine SW.eY i 4 ⟨cs[i].Names,cs[i].ax,cs[i].bd,cs[i].Order,⟨A3,cs[i].ae.n+1,c3⟩,cs[i].ao⟩ W Z Z Z zr ir Z Z λy4 zm R=>?_;have zb:=W.gr R;have yb:=zG.sw zm R;have zH:=au (yt.trans d) R (Ph _) W.az;obtain⟨O,za,zl⟩:=aY zb O za zl
    have yc:=zl.rows (s':=aZ (jJ s (df s.Words (16*D) s.ab[i].ax s.ab[i].bd)) i (u.1,de s.ab[i] D)) (cs':=cs.set i ⟨cs[i].Names,cs[i].ax,cs[i].bd,cs[i].Order,⟨A3,cs[i].ae.n+1,c3⟩,cs[i].ao⟩) Z (λu hu=>by
     rcases Pu hu with hu|rfl
     ·exact⟨u,hu,Z⟩
     exact⟨cs[i],Pf S,Z⟩)
    have yd:de s.ab[i] D=⟨s.ab[i].Names,s.ab[i].ax,s.ab[i].bd,s.ab[i].Order,aP s.ab[i].ae k ⟨D,cs[i].bd,16*D⟩,s.ab[i].ao⟩:=by
     unfold de;rw[zB,zu]
    have L:=mb.new zp hu he (by rw[zj];exact hc);rw[zj]at L;refine Wz ?_;refine ah.fW ?_;rw[zS];refine⟨_,⟨XA,r.Words.n,Xc⟩,H,_,L,⟨Z,Z,Z,Z,by rw[zB];rfl,trivial⟩,zH,O,za,?_,yc,λj x h=>((z1 j x h).ext d).aQ zb Z,λj x U h=>((z2 j x U h).ext d).aQ zb Z,Pj zq (Pj d.size R.size)⟩;simp only;rw[yd];exact yb
   have zk:=hc;unfold gI at zk;rw[if_neg (by rw[yk]at zk;exact zk)]at hv;subst hv;have L:=mb.chain zp hu he (by rw[zj];exact hc);refine Wz ?_;all_goals try omega
   refine Wg l (aB r) λw9 zI I=>?_;have zh:∀j x,ay w j 37 x->ay w9 j 37 x:=λj x h=>(h.ext d).grown I (by have:=h.lt;simp;omega);have zi:∀j x,G j->ay w j 3 x->ay w9 j 3 x:=λj x U h=>(h.ext d).grown I (by have:=h.lt;simp;omega);have d:=d.own zt I;refine Wz ?_;refine ah.GS ?_;refine Wz ?_;exact ah.cb Z Z Z Z zI Z ⟨_,Z,_,L,hx.trans d,zh,zi,.inl ⟨Z,by simp,Z⟩⟩
  have L:=mb.room zp hu (by rw[he];exact z8);refine Wz ?_;all_goals try omega
  refine Wg l (aB r) λw9 zI I=>?_;have zh:∀j x,ay w j 37 x->ay w9 j 37 x:=λj x h=>(h.ext d).grown I (by have:=h.lt;simp;omega);have zi:∀j x,G j->ay w j 3 x->ay w9 j 3 x:=λj x U h=>(h.ext d).grown I (by have:=h.lt;simp;omega);have d:=d.own zt I;refine Wz ?_;refine ah.GS ?_;refine Wz ?_;exact ah.cb Z Z Z Z zI Z ⟨_,Z,_,L,hx.trans d,zh,zi,.inl ⟨Z,by simp only;rw[he];exact z8,by simp only;rw[he];rfl⟩⟩
 subst zS;rintro L' w7 ⟨M,X,H,cs',L,T,y5,f,l,q,J,y6,y7,xp⟩;refine ah.sub T ?_;have zV:=L.Mp hM M Z;obtain⟨e3,e4⟩:=q.rows;simp only[jJ]at e3;have zc:i<cs'.length:=Y;have yu:=zV.hk;have yx:=zV.first
 have z4:=zV.free;have xd:=zV.len;obtain⟨y,hy⟩:=bq (M.c.ae[M.k]);have yy:ey M.c M.k=y:=by rw[eR yu,hy]
 rw[hy]at yx z4;obtain⟨an,ye⟩:=Pm yx.1;have y8:M.c.ao.length=s.ab[i].ao.length:=by cases L<;>rfl
 have Q:=q;have P:=Q.get zc hi;simp only at P;have q5:M.c.ae.length=cs'[i].ae.n:=P.av.len;have q6:M.c.ao.length=cs'[i].ao.n:=P.aD.len;have q7:M.ws.length=X.n:=Q.words.len;have yz:M.k<cs'[i].ae.n:=Y;have yA:cpu<cs'[i].ao.n:=Y;have yB:an<M.ws.length:=Y;have yC:an<X.n:=Y;have xe:=P.av.sl.base;have xf:=P.aD.sl.base;have xg:=Q.words.sl.base;have yD:=P.av.lt_size
 have gy:∀j v,(bG y)[j]?=some v->w7.cell? ((((cs'[i].ae.A).getD default).add (M.k*3)).add j)=some v:=λj v hv=>by
  refine P.av.sl.all yz j v ?_;rw[show(M.c.ae[M.k]'Y)=y from hy];exact hv
 have d:=Ext.refl w7;repeat'(first|refine Wz ?_|refine Wl (Q.row.sl.dp zr (j:=4) (u:= .slice cs'[i].ae.A cs'[i].ae.n cs'[i].ae.c) Z) ?_|refine Wm gy ?_)
 refine SW.alloc Z λzJ w8 y9 zK F=>?_;refine Wg F (gG.one (enc:=bG) y) λw9 zL I=>?_;have N:=y9.own zK I;have xa:w7.heap.size<=zJ:=zK;obtain⟨d,f,l,Q,J⟩:=dz N d f l Q J;have F:ay w9 zJ 60 (bG y):=zL;refine Wz ?_;refine CW.iF 10 10 (λ_=>True) mixed bm λw1 C B=>?_;obtain⟨d,f,l,F,Q,J⟩:=fi C d f l F Q J;refine Wt 0 [] [] B Z (aI Z) ?_;refine Wt 1 [] [] B Z (aJ Z (f.cell (i:=6) (v:= .slice r.ab.A r.ab.n r.ab.c) Z)) ?_;refine Wp 2 [] [] B Z Z ?_;refine Wt 3 [] [] B Z (bO Z Z ig Y) ?_;refine Wt 4 [] [] B Z (aI Z) ?_;refine Wt 5 [] [] B Z (aJ Z (Q.row.sl.dp zr (j:=5) (u:= .slice cs'[i].ao.A cs'[i].ao.n cs'[i].ao.c) Z)) ?_;refine Wp 6 [] [] B Z Z ?_;refine Wt 7 [] [] B Z (aI Z) ?_;refine Wt 8 [] [] B Z (aJ Z (F.cell (i:=0) (v:=Iv y.At) Z)) ?_;refine Wt 9 [] [] B Z (bO Z Z ig Y) ?_;refine SF.dQ ?_;have P:=Q.get zc hi;simp only at P;refine SW.j3 cpu P.aD Z Z yA λzf hO I=>?_;have hG:=P.aD.gr I;have yf:=Q.act J zc hi hO I;have zM:=au (y5.trans d) I (Ph _) P.aD.az;have zn:∀j x,ay w j 37 x->ay zf j 37 x:=λj x h=>((y6 j x h).ext d).aQ hG Z;have zo:∀j x,G j->ay w j 3 x->ay zf j 3 x:=λj x U h=>((y7 j x U h).ext d).grown I (J.ne U zc);obtain⟨f,l,F⟩:=aY hG f l F;have Q:=yf.1;have yE:=yf.2;have d:=Ext.refl zf;have gW:∀E,SX E wb.heap.size ⟨X,H,r.ab⟩ (aZ (jJ s M.ws) i (M.h,⟨M.c.Names,M.c.ax,M.c.bd,M.c.Order,M.c.ae,M.c.ao.set cpu y.At⟩)) cs'->E.cell? ((X.A.getD default).add (an*1))=some (Iv M.ws[an]):=λE h=>h.words.sl.one yC (u:=Iv M.ws[an]) Z;have g2:∀E,ay E zJ 60 (bG y)->E.cell? ((⟨zJ,0,none⟩:Addr).add 2)=some (Iv (an:Int)):=λE h=>h.cell (i:=2) (by rw[<-ye];rfl);refine Wz ?_;refine CW.iF 20 20 (λ_=>True) mixed bm λw1 C B=>?_;obtain⟨d,f,l,F,Q⟩:=dz C d f l F Q;refine Wt 0 [] [] B Z (aI Z) ?_;refine Wt 1 [] [] B Z (aJ Z (f.cell (i:=6) (v:= .slice r.ab.A r.ab.n r.ab.c) Z)) ?_;refine Wp 2 [] [] B Z Z ?_;refine Wt 3 [] [] B Z (bO Z Z ig Y) ?_;refine Wt 4 [] [] B Z (aI Z) ?_;refine Wt 5 [] [] B Z (aJ Z (Q.row.sl.dp zr (j:=4) (u:= .slice cs'[i].ae.A cs'[i].ae.n cs'[i].ae.c) Z)) ?_;refine Wp 6 [] [] B Z Z ?_;refine Wt 7 [] [] B Z (aI Z) ?_;refine Wt 8 [] [] B Z (aJ Z (F.cell (i:=0) (v:=Iv y.At) Z)) ?_;refine Wt 9 [] [] B Z (aI Z) ?_;refine Wt 10 [] [] B Z (aJ Z (F.cell (i:=1) (v:=Iv y.ai) Z)) ?_;refine Wt 11 [] [] B Z (r5 Z Z Y Y) ?_;refine Wt 12 [] [] B Z (aI Z) ?_;refine Wt 13 [] [] B Z (aJ Z (f.cell (i:=0) (v:= .slice X.A X.n X.c) Z)) ?_;refine Wt 14 [] [] B Z (aI Z) ?_;refine Wt 15 [] [] B Z (aJ Z (g2 _ F)) ?_;refine Wt 16 [] [] B Z (bO Z Z ig Y) ?_;refine Wt 17 [] [] B Z (aJ Z (gW _ Q)) ?_;refine Wt 18 [] [] B Z (oh Z Z) ?_;refine Wt 19 [] [] B Z (bO Z Z ig Y) ?_;refine SF.dQ ?_;have P:=Q.get zc hi;simp only at P;refine SW.iT (enc:=bG) M.k ⟨y.At,y.ai-1,M.ws[an]⟩ P.av Z Z yz λzT hO I=>?_;have hG:=P.av.gr I;have zN:=Q.Hi zc hi hO I;have yF:=(yE.ext d).aQ hG Z;have zM:=au (zM.trans d) I (Ph _) P.av.az;have zn:∀j x,ay w j 37 x->ay zT j 37 x:=λj x h=>((zn j x h).ext d).aQ hG Z;have zo:∀j x,G j->ay w j 3 x->ay zT j 3 x:=λj x U h=>((zo j x U h).ext d).aQ hG Z;have F:=F.grown I (λe=>by have:=yD _ e.symm;omega);obtain⟨f,l⟩:=bk hG f l
 have xb:dl M.c cpu M.k (M.ws.getD (ey M.c M.k).bR.toNat 0)=⟨M.c.Names,M.c.ax,M.c.bd,M.c.Order,M.c.ae.set M.k ⟨y.At,y.ai-1,M.ws[an]⟩,M.c.ao.set cpu y.At⟩:=by
  unfold dl;rw[yy,ye];simp[yB]
 have d:=Ext.refl zT;refine Wz ?_;refine CW.iF 3 5 (λw2=>ay w2 zJ 60 (bG y)) mixed bm λw1 C B=>?_;obtain⟨d,f,l,F,zN⟩:=dz C d f l F zN;refine Wt 0 [] [] B Z (cv Z Z ((λ_ _=>f.cell))) ?_;refine Wi 1 [] B Z (aI Z) (λw2 q=>aI Z) ?_;refine SF.nz 2 [] B Z bm bm bm (aJ Z (g2 _ F)) (λw2 q=>aJ Z (g2 _ q)) Z ?_;refine SF.eW ?_;refine Wg l (aB ⟨X,H,r.ab⟩) λzA zI I=>?_;have hG:=l.gr I;have q:=F.aQ hG Z;have yG:=zN.aQ hG Z;have yH:=(yF.ext d).aQ hG Z;have yI:=(zM.trans d).own (Pj zO zt) I;have yg:∀j x,ay w j 37 x->ay zA j 37 x:=λj x h=>((zn j x h).ext d).grown I (by have:=h.lt;simp;omega);have yh:∀j x,G j->ay w j 3 x->ay zA j 3 x:=λj x U h=>((zo j x U h).ext d).grown I (by have:=h.lt;simp;omega);refine SW.nil (ah.sg q ?_);refine SG.bD 4 ?_;repeat(refine SW.pure Z Z ?_)
 refine SW.nil (ah.sg q ?_);refine SG.dQ ?_;refine Wz ?_;exact ah.cb Z Z Z Z zI Z ⟨_,Z,_,L,yI,yg,yh,.inr ⟨M,Z,X,H,cs',by rw[yy,ye],by rw[xb];exact⟨yG,yH.rows Z λu hu=>⟨u,hu,Z⟩⟩⟩⟩
variable {n:ByteArray} {a cpu:Int} {c:aO} {G:Nat->Prop} {w0 wb:World}
def py(G:Nat->Prop)(lo:Nat)(s:aj)(i cpu:Nat)(m:Option He×Int)(Q:cc)(a e:Int)(w:World):Prop:=
 (m.1=none∧m.2≠0∧e=m.2∧a=0)∨
 ∃M cs',m=(some M,0)∧a=(ey M.c M.k).bR∧e=0∧SX w lo Q (aZ (jJ s M.ws) i (M.h,dl M.c cpu M.k (M.ws.getD (ey M.c M.k).bR.toNat 0))) cs'∧SJ G w lo Q (aZ (jJ s M.ws) i (M.h,dl M.c cpu M.k (M.ws.getD (ey M.c M.k).bR.toNat 0))) cs'
theorem py.ext{cpu:Nat}{m:Option He×Int}{Q:cc}{e:Int}(h:py G lo s i cpu m Q a e w)(b:Ext w w'):py G lo s i cpu m Q a e w':=by
 rcases h with h|⟨M,cs',d,f,g,c⟩
 ·exact .inl h
 exact .inr ⟨M,cs',d,f,g,c.1.ext b,c.2.ext b⟩
theorem py.J4{cpu:Nat}{m:Option He×Int}{Q:cc}{e:Int}(h:py G lo s i cpu m Q a e w)(b:oe w w' 37):py G lo s i cpu m Q a e w':=by
 rcases h with h|⟨M,cs',d,f,g,c⟩
 ·exact .inl h
 exact .inr ⟨M,cs',d,f,g,c.1.aQ b Z,c.2.aQ b Z⟩
theorem Gf.form{r:cc}{cpu:Nat}{v:Value}(h:Gf G wb w0 r s i c cpu v w'):
 ∃m Q a e,v= .tuple #[.agg (ar Q).toArray,Iv a,Iv e]∧mb s c cpu m∧Ext wb w'∧(∀j x,ay w0 j 37 x->ay w' j 37 x)∧(∀j x,G j->ay w0 j 3 x->ay w' j 3 x)∧py G wb.heap.size s i cpu m Q a e w':=by
 obtain⟨m,k,l,n,b,o⟩:=h;rcases o with⟨d,f,g⟩|⟨M,d,X,H,cs',f,g⟩
 ·exact⟨m,_,_,_,g,k,l,n,b,.inl ⟨d,f,Z,Z⟩⟩
 exact⟨m,_,_,_,f,k,l,n,b,.inr ⟨M,cs',d,Z,Z,g⟩⟩
theorem Ca(r:cc)(s:aj)(n:ByteArray)(cpu:Int)(w:World)(S:mB w r s)(T:s.bU):
 aS prog 44 [.agg (ar r).toArray,.string n,Iv cpu] w λv U=>∃u,mo s n cpu u∧∃q,v= .tuple #[.agg (ar q).toArray,Iv u.2.1,Iv u.2.2]∧kX U w.heap.size q u.1:=by
 refine Wj func44 ntmps44 ?_;have V:=T.small;refine Ww λb3 w1 k ze l=>?_;refine SW.alloc Z λW w3 za X f=>?_;have zf:=k.up X;have zg:W≠b3:=by have:=l.lt;omega
 obtain⟨k,l⟩:=bk za k l;obtain⟨e,hE⟩:=bq (ga s n cpu)
 have cA:∀U,Ext w U->aS prog 117 [.agg (ar r).toArray,.string n,Iv cpu] U λv _=>v=Iv e:=λU hx=>by
  have:=kR r s n cpu U (S.ext hx) T;rwa[hE]at this
 by_cases he:e=0
 ·subst he;obtain⟨hq,ht,zb,zh⟩:=jj hE;obtain⟨i,N,_,_,O⟩:=eK ht;have hM:=dg.1 hq;obtain⟨c,rfl⟩:=Pm zb;have zi:=(hM.each i N).may.aD;have I:c<s.ab[i].ao.length:=Y;repeat'(first|refine Wz ?_|(refine Wc (cA _ k) λw1 F=>?_;obtain⟨k,l,f⟩:=aY F k l f))
  all_goals try omega
  focus
   refine CW.iF 6 14 (λ_=>True) mixed bm λw1 F A=>?_;obtain⟨k,l,f⟩:=aY F k l f;refine Wf ?_;refine SF.two 1 11 Z Z bm Z Z ?_ ?_
   focus
    refine Wk (cX r s _ (S.ext k) V) λv w6 b D=>?_;obtain⟨q,cs,rfl,B,C⟩:=D;have B:=B.low k.size;have C:=C.low k.size;obtain⟨k,l,f⟩:=aY b k l f;try have d:=d.ext b
    refine SW.nil (ah.sf b ?_);refine SF.two 4 11 Z Z bm Z Z ?_ ?_
    focus
     refine Wk (gg r s n _ (S.ext k) V) λv w7 b D=>?_;rw[O]at D;subst D;obtain⟨k,l,f,B,C⟩:=dz b k l f B C;try have d:=d.ext b
     refine SW.nil (ah.sf b ?_);refine SF.Mx 11 Z Z bm Z Z ?_ ?_
     focus
      refine SW.cm Z Z (px (λ_=>False) w _ q s cs i c T N (mn.of hM N) k B C.sj (λ_ h=>h.elim) I) λv w8 D=>?_;obtain⟨m,Q,a,e,rfl,J,G,t,_,j⟩:=D.form;have f:=t _ _ f;try have d:=t _ _ d
      have k:=G;have p:True:=trivial;refine SW.nil (ah.sg p ?_);refine SG.gm 7 A Z bm bm Z p (λ_=>aH Z) Z ?_;refine SG.gm 8 A Z bm bm Z p (λ_=>aH Z) Z ?_;refine SG.gm 9 A Z bm bm Z p (λ_=>aH Z) Z ?_;refine SG.gm 10 A Z bm bm Z p (λ_=>aH Z) Z ?_;refine SG.bD 11 ?_;refine SW.alloc Z λH w9 b x d=>?_;have y:W≠H:=λe=>absurd f.lt Y;have z:=k.up x;have f:=f.ext b;try have l:=l.ext b
      try have B:=B.ext b
      try have C:=C.ext b
      try have j:=j.ext b
      have k:=k.trans b;have p:True:=trivial;refine SW.nil (ah.sg p ?_);refine SG.bD 12 ?_;refine Wg d (aB Q) λR o E=>?_;have K:=d.gr E;have f:=f.grown E (by simpa using y);have k:=k.own z E;have j:=j.J4 K;have d:=o;have p:True:=trivial;refine SW.nil (ah.sg p ?_);refine SG.bD 13 ?_;repeat(refine SW.pure Z Z ?_)
      refine SW.nil (ah.sg p ?_)
     rotate_left
     focus
      refine SW.alloc Z λH w9 b x d=>?_;have y:W≠H:=λe=>absurd f.lt Y;have z:=k.up x;have f:=f.ext b;try have l:=l.ext b
      try have B:=B.ext b
      try have C:=C.ext b
      try have j:=j.ext b
      have k:=k.trans b;have p:True:=trivial;refine SW.nil (ah.sf b ?_);refine SF.eW ?_;refine SW.cm Z Z (px (λ_=>False) w _ q s cs i c T N (mn.of hM N) k B C.sj (λ_ h=>h.elim) I) λv w8 D=>?_;obtain⟨m,Q,a,e,rfl,J,G,t,_,j⟩:=D.form;have f:=t _ _ f;try have d:=t _ _ d
      have k:=G;have p:True:=trivial;refine SW.nil (ah.sg p ?_);refine SG.bD 7 ?_;repeat(refine SW.pure Z Z ?_)
      refine SW.nil (ah.sg p ?_);refine SG.gm 8 A Z bm bm Z p (λ_=>aH Z) Z ?_;refine SG.gm 9 A Z bm bm Z p (λ_=>aH Z) Z ?_;refine SG.gm 10 A Z bm bm Z p (λ_=>aH Z) Z ?_;refine SG.bD 12 ?_;refine Wg d (aB Q) λR o E=>?_;have K:=d.gr E;have f:=f.grown E (by simpa using y);have k:=k.own z E;have j:=j.J4 K;have d:=o;have p:True:=trivial;refine SW.nil (ah.sg p ?_);refine SG.bD 13 ?_;repeat(refine SW.pure Z Z ?_)
      refine SW.nil (ah.sg p ?_)
     rotate_left
    rotate_left 2
    focus
     refine SW.alloc Z λH w9 b x d=>?_;have y:W≠H:=λe=>absurd f.lt Y;have z:=k.up x;have f:=f.ext b;try have l:=l.ext b
     try have B:=B.ext b
     try have C:=C.ext b
     try have j:=j.ext b
     have k:=k.trans b;have p:True:=trivial;refine SW.nil (ah.sf b ?_);refine SF.bD 4 ?_;refine Wk (gg r s n _ (S.ext k) V) λv w7 b D=>?_;rw[O]at D;subst D;obtain⟨k,l,f,B,C⟩:=dz b k l f B C;try have d:=d.ext b
     refine SW.nil (ah.sf b ?_);refine SF.eW ?_;refine SW.cm Z Z (px (λ_=>False) w _ q s cs i c T N (mn.of hM N) k B C.sj (λ_ h=>h.elim) I) λv w8 D=>?_;obtain⟨m,Q,a,e,rfl,J,G,t,_,j⟩:=D.form;have f:=t _ _ f;try have d:=t _ _ d
     have k:=G;have p:True:=trivial;refine SW.nil (ah.sg p ?_);refine SG.bD 7 ?_;repeat(refine SW.pure Z Z ?_)
     refine SW.nil (ah.sg p ?_);refine SG.gm 8 A Z bm bm Z p (λ_=>aH Z) Z ?_;refine SG.gm 9 A Z bm bm Z p (λ_=>aH Z) Z ?_;refine SG.gm 10 A Z bm bm Z p (λ_=>aH Z) Z ?_;refine SG.bD 12 ?_;refine Wg d (aB Q) λR o E=>?_;have K:=d.gr E;have f:=f.grown E (by simpa using y);have k:=k.own z E;have j:=j.J4 K;have d:=o;have p:True:=trivial;refine SW.nil (ah.sg p ?_);refine SG.bD 13 ?_;repeat(refine SW.pure Z Z ?_)
     refine SW.nil (ah.sg p ?_)
    rotate_left
   rotate_left 3
   focus
    refine SW.alloc Z λH w9 b x d=>?_;have y:W≠H:=λe=>absurd f.lt Y;have z:=k.up x;have f:=f.ext b;try have l:=l.ext b
    try have B:=B.ext b
    try have C:=C.ext b
    try have j:=j.ext b
    have k:=k.trans b;have p:True:=trivial;refine SW.nil (ah.sf b ?_);refine SF.bD 1 ?_;refine Wk (cX r s _ (S.ext k) V) λv w6 b D=>?_;obtain⟨q,cs,rfl,B,C⟩:=D;have B:=B.low k.size;have C:=C.low k.size;obtain⟨k,l,f⟩:=aY b k l f;try have d:=d.ext b
    refine SW.nil (ah.sf b ?_);refine SF.bD 4 ?_;refine Wk (gg r s n _ (S.ext k) V) λv w7 b D=>?_;rw[O]at D;subst D;obtain⟨k,l,f,B,C⟩:=dz b k l f B C;try have d:=d.ext b
    refine SW.nil (ah.sf b ?_);refine SF.eW ?_;refine SW.cm Z Z (px (λ_=>False) w _ q s cs i c T N (mn.of hM N) k B C.sj (λ_ h=>h.elim) I) λv w8 D=>?_;obtain⟨m,Q,a,e,rfl,J,G,t,_,j⟩:=D.form;have f:=t _ _ f;try have d:=t _ _ d
    have k:=G;have p:True:=trivial;refine SW.nil (ah.sg p ?_);refine SG.bD 7 ?_;repeat(refine SW.pure Z Z ?_)
    refine SW.nil (ah.sg p ?_);refine SG.gm 8 A Z bm bm Z p (λ_=>aH Z) Z ?_;refine SG.gm 9 A Z bm bm Z p (λ_=>aH Z) Z ?_;refine SG.gm 10 A Z bm bm Z p (λ_=>aH Z) Z ?_;refine SG.bD 12 ?_;refine Wg d (aB Q) λR o E=>?_;have K:=d.gr E;have f:=f.grown E (by simpa using y);have k:=k.own z E;have j:=j.J4 K;have d:=o;have p:True:=trivial;refine SW.nil (ah.sg p ?_);refine SG.bD 13 ?_;repeat(refine SW.pure Z Z ?_)
    refine SW.nil (ah.sg p ?_)
   rotate_left
   all_goals
    refine SG.dQ ?_;have P:=mo.A9 hE O N (by simpa using J);rcases j with⟨hn,zc,rfl,rfl⟩|⟨M,cs',rfl,rfl,rfl,hX,hJ⟩
    ·obtain⟨m1,e⟩:=m;simp only at hn zc P;subst hn;simp only[kC]at P;refine Wz ?_;all_goals try omega
     refine Wh f (aB .zero) λzd g L=>?_;have k:=jc g k;refine Wz ?_;exact ah.cb Z Z Z Z L Z ⟨_,Z,k,_,P,.zero,Z,kX.zero _ _⟩
    simp only[kC]at P;refine Wz ?_;refine Wh f (aB Q) λzd g L=>?_;obtain⟨k,hX,hJ⟩:=aY g k hX hJ;refine Wz ?_;exact ah.cb Z Z Z Z L Z ⟨_,Z,k,_,P,_,Z,_,hX,hJ⟩
 have P:=mo.ask (s:=s) (n:=n) (cpu:=cpu) (by rw[hE];exact he);rw[hE]at P;repeat'(first|refine Wz ?_|(refine Wc (cA _ k) λw1 F=>?_;obtain⟨k,l,f⟩:=aY F k l f))
 all_goals try omega
 refine Wh f (aB .zero) λw6 g L=>?_;have k:=jc g k;refine Wz ?_;exact ah.cb Z Z Z Z L Z ⟨_,Z,k,_,P,.zero,Z,kX.zero _ _⟩
theorem mo.small{u:aj×Int×Int}(x:mo s n cpu u)(b:s.bU):u.1.small:=by
 cases x with
 | ask=>exact aj.gu
 | A9 h e a c=>
   have:=oL (.of (dg.1 (jj h).1) a)
   grind[vn]
variable {c2:Nat} {A A2:Option Addr}
theorem nM.aside{n c n2:Nat}{r:cc}{cs:List da}{l:List Int}(h:SX w lo r s cs)(q:SJ (λg=>aN A c=some g) w lo r s cs)(C:Own w lo 3 1 aT A n c l)(b:w.grownBy w' (aN A c))(i:∀g,aN A2 c2=some g->aN A c=some g∨w.heap.size<=g):
 SX w' lo r s cs∧SJ (λg=>aN A2 c2=some g) w' lo r s cs:=by
 obtain⟨m1,m0,t,v,m,D⟩:=q.ints;have o:=C.gr b;have j:=h.C6
 obtain⟨d,E,H,x⟩:∃d,d<=m0∧d<=w.heap.size∧gh w m1 d r.Heap s.Heap:=by
  rcases Nat.le_total m0 w.heap.size with e|e
  ·exact⟨m0,Ph _,e,v⟩
  exact⟨w.heap.size,e,Ph _,v.own.kQ⟩
 have y:gh w' m1 d r.Heap s.Heap:=by
  cases e:aN A c with
  | none=>rw[e]at b;exact x.aQ (⟨none,b,λk F=>by cases F⟩:oe w w' 37) Z
  | some g=>
    rw[e]at b;have:=(m g (.inr e)).1;exact x.xR b o Y
 refine⟨⟨h.words.apart b λg e a=>(m g (.inr a)).2 e,y.own.low t,h.row.aQ o Z,⟨h.each.len,λk z G=>?_⟩,h.pair⟩,⟨⟨m1,d,t,y,λg e=>?_,λg e=>(D g e).imp id λh=>Pj E h⟩,λu B g e a=>?_⟩⟩
 ·have f:=h.each.get k z G;exact⟨f.size,f.per,f.order,f.names.aQ o Z,f.av.aQ o Z,f.aD.apart b λg e a=>q.sep _ (Pf z) g a e⟩
 ·rcases e with e|e
  ·have:=m g (.inl e);exact⟨by omega,this.2⟩
  rcases i g e with a|a
  ·have:=m g (.inr a);exact⟨by omega,this.2⟩
  exact⟨.inr Y,λp=>by have:=h.words.lt_size g p;omega⟩
 rcases i g e with p|p
 ·exact q.sep u B g p a
 have:=j u B g a;omega
theorem SJ.none{r:cc}{cs:List da}(h:SJ (λ_=>False) w lo r s cs)(a:∀g,¬G g):SJ G w lo r s cs:=by
 obtain⟨m1,b,c,d,f,i⟩:=h.ints;exact⟨⟨m1,b,c,d,λg e=>f g (e.imp id λe=>a g e),i⟩,λu j g e=>(a g e).elim⟩
theorem Own.same{n c:Nat}{l:List Int}(h:Own w lo 3 1 aT A n c l)(d:∀j x,aN A c=some j->ay w j 3 x->ay w' j 3 x):Own w' lo 3 1 aT A n c l:=by
 refine⟨h.len,?_⟩;rcases h.row with e|⟨f,g,a,rfl,b,i,k⟩
 ·exact .inl e
 have e:aN (some ⟨g,0,none⟩) c=some g:=by unfold aN;rw[if_neg Y];rfl
 have:=d g a.toList e (by unfold ay;simpa using i);unfold ay at this;exact .inr ⟨f,g,a,Z,b,by simpa using this,k⟩
theorem Dq(r:cc)(s:aj)(n:ByteArray)(cpu many:Int)(w:World)(hr:mB w r s)(hf:s.bU)(za:n.size<=140737488351232)(J:nq w):
 aS prog 83 [.agg (ar r).toArray,.string n,Iv cpu,Iv many] w λv p=>∃u,kb s n cpu many u∧∃q A c,v= .tuple #[.agg (ar q).toArray,.slice A u.2.1.length c,Iv u.2.2]∧gK p w.heap.size q u.1∧Own p w.heap.size 3 1 aT A u.2.1.length c u.2.1:=by
 refine Wj func83 ntmps83 ?_;refine Ww λb3 w1 d K f=>?_;refine SW.alloc Z λb6 w3 zb L b=>?_;have N:=d.up L;have zc:b6≠b3:=by have:=f.lt;omega
 have hz:∀p,gK p w.heap.size cc.zero aj.zero:=λp=>⟨Own.cq _ _ _ _ _ _,ik.zero p _,⟨[],dJ.nil _ _⟩⟩;obtain⟨d,f⟩:=bk zb d f;repeat'(first|refine Wz ?_|fail);refine Wk (tF r s n cpu _ (hr.ext d) hf za) λv w4 D O=>?_;have P:=d.size;obtain⟨d,f,b⟩:=aY D d f b;rcases O with⟨G,rfl⟩|⟨G,q,cs,rfl,k,I⟩
 ·have E:=kb.ask (many:=many) G;obtain⟨e,hE⟩:=bq (ga s n cpu);rw[hE]at G E;rw[hE];repeat'(first|refine Wz ?_|fail);refine Wh f (aB .zero) λw5 g zp=>?_;obtain⟨b,d⟩:=bk g b d;repeat'(first|refine Wz ?_|fail);all_goals try omega
  refine Wh b (aB .zero) λw6 g o=>?_;have d:=jc g d;repeat'(first|refine Wz ?_|fail);exact ah.cb Z Z Z Z o Z ⟨_,Z,d,_,E,.zero,none,0,Z,hz _,Own.cq _ _ _ _ _ _⟩
 have k:=k.low P;have I:=I.low P;obtain⟨i,c,Q,rfl,hM,y⟩:=Dd G hf;rw[Q];repeat'(first|refine Wz ?_|fail);refine Wh f (aB q) λw5 g f=>?_;obtain⟨b,d,k,I⟩:=cG g b d k I;by_cases hm:1<=many∧many<=256
 ·obtain⟨m,rfl⟩:=Pm (show 0<=many by omega);have E:∀u,j2 i c m s [] u->kb s n c m u:=λu R=>kb.A9 G hm Q R;have zq:m<=256:=Y;repeat'(first|refine Wz ?_|fail);all_goals try omega
  refine CW.loop (λt:Nat×(Option Addr×Nat×List Int)×cc×aj×List da=>[(2,Iv (c:Int)),(4,Pt b3),(8,Pt b6),(11,Iv (i:Int)),(13,.slice t.2.1.1 t.1 t.2.1.2.1),(35,Iv (m:Int)),(36,Iv (t.1:Int))])
   (λt p=>t.1<=m∧Ext w p∧ay p b3 37 (ar t.2.2.1)∧ay p b6 37 (ar .zero)∧SX p w.heap.size t.2.2.1 t.2.2.2.1 t.2.2.2.2∧SJ (λg=>aN t.2.1.1 t.2.1.2.1=some g) p w.heap.size t.2.2.1 t.2.2.2.1 t.2.2.2.2∧Own p w.heap.size 3 1 aT t.2.1.1 t.1 t.2.1.2.1 t.2.1.2.2∧Bk t.2.2.2.1 i c∧∀u,j2 i c (m-t.1) t.2.2.2.1 t.2.1.2.2 u->j2 i c m s [] u)
   (λt=>m-t.1) (0,(none,0,[]),q,s,cs) ⟨Z,Z,Z,Z,Z,Z,Z,trivial⟩ ⟨PL _,d,f,b,k,I.sj.none (λg e=>by cases e),Own.cq _ _ _ _ _ _,y,λu R=>R⟩ ?_
  rintro⟨j,⟨A,ca,l⟩,q1,S,zd⟩ w6 ⟨hj,d,f,b,z,C,k,y,T⟩;simp only at hj f z C k y T⊢;by_cases zr:j<m
  ·have zs:=oL y.inv;repeat'(first|refine Wz ?_|fail);all_goals try omega
   refine SW.cm Z Z (Hj (λg=>aN A ca=some g) w _ b3 q1 S zd i c y.bU y.hi y.inv (J.ext d) d f K z C (λg e=>k.lt_size g e) y.KV Y) λv w7 O=>?_;obtain⟨M,B,ze,zf,zg,O⟩:=O;have b:=zf _ _ zc b;have k:=k.same zg;have zh:m-j=(m-(j+1))+1:=Y;rw[zh]at T;have d:=ze;rcases O with⟨hn,zi,rfl⟩|⟨M,rfl,rfl,X,H,zj,hb,z,C⟩
   ·have hQ:=E _ (T _ (.bad y.hi B hn));obtain⟨m1,e⟩:=M;simp only at hn zi hQ;repeat'(first|refine Wz ?_|fail);all_goals try omega
    refine Wh b (aB .zero) λw8 g o=>?_;have d:=jc g d;repeat'(first|refine Wz ?_|fail);exact ah.cb Z Z Z Z o Z ⟨_,Z,d,_,hQ,.zero,none,0,Z,hz _,Own.cq _ _ _ _ _ _⟩
   have U:=y.A9 B;have o:∀u,j2 i c (m-(j+1)) (qO S i c M) (l++[(ey M.c M.k).bR]) u->j2 i c m s [] u:=λu R=>T u (.more y.hi B R);obtain⟨a,ha⟩:=bq ((ey M.c M.k).bR);obtain⟨s2,F⟩:=bq (qO S i c M);rw[show aZ (jJ S M.ws) i (M.h,dl M.c c M.k (M.ws.getD (ey M.c M.k).bR.toNat 0))=s2 from F]at z C;rw[ha,F]at o;rw[F]at U;rw[ha];repeat'(first|refine Wz ?_|fail);all_goals try omega
   refine SW.bz Z Z Z Z Z λbn w9 D zt zk=>?_;obtain⟨d,hb,b,z,C,k⟩:=fi D d hb b z C k;refine SW.tv k (ay.la (enc:=aT) (x:=a) zk) d.size Y Z Z Z Y Y λA2 c2 zu zl V zm=>?_;obtain⟨zn,zo⟩:=z.aside (n2:=0) C k V zm;have hG:=k.gr V;have d:=au d V (Ph _) k.az;obtain⟨hb,b⟩:=bk hG hb b;repeat'(first|refine Wz ?_|fail);exact ah.again (j+1,(A2,c2,l++[a]),⟨X,H,q1.ab⟩,s2,zj) ⟨Z,Z,Z,Z,Z,Z,Z,trivial⟩ dD ⟨by simp only;omega,d,hb,b,zn,zo,zl,U,o⟩
  obtain rfl:j=m:=Y;have hQ:=E _ (T (S,l,0) (by rw[Qy];exact .done));have W:=k.len;repeat'(first|refine Wz ?_|fail);all_goals try omega
  refine Wh b (aB q1) λw7 g o=>?_;obtain⟨d,z,k⟩:=aY g d z k;repeat'(first|refine Wz ?_|fail);exact ah.cb Z Z Z Z o Z ⟨_,Z,d,_,hQ,_,A,ca,by rw[W],z.nb,by rw[W];exact k⟩
 have E:=kb.range G hm;repeat'(first|refine Wz ?_|refine SW.dP Z Z Z (λh=>?_) (λh=>?_))
 all_goals try omega
 all_goals refine Wg b (aB .zero) λw7 o V=>?_
 all_goals have d:=d.own N V
 repeat'(first|refine Wz ?_|fail);all_goals exact ah.cb Z Z Z Z o Z ⟨_,Z,d,_,E,.zero,none,0,Z,hz _,Own.cq _ _ _ _ _ _⟩
theorem GC(r:cc)(s:aj)(n:ByteArray)(cpu many:Int)(w:World)(hr:mB w r s)(hf:s.bU):
 aS prog 53 [.agg (ar r).toArray,.string n,Iv cpu,Iv many] w λv H=>∃u,kb s n cpu many u∧∃q A c,v= .tuple #[.agg (ar q).toArray,.slice A u.2.1.length c,Iv u.2.2]∧gK H w.heap.size q u.1∧Own H w.heap.size 3 1 aT A u.2.1.length c u.2.1:=by
 refine Wj func53 ntmps53 ?_;have hs:=hf.small;refine Ww λb3 w1 h zw f=>?_;refine SW.alloc Z λb6 w3 zl zf d=>?_;have zx:=h.up zf;have zz:b6≠b3:=by have:=f.lt;omega
 have hz:∀H,gK H w.heap.size cc.zero aj.zero:=λH=>⟨Own.cq _ _ _ _ _ _,ik.zero H _,⟨[],dJ.nil _ _⟩⟩;obtain⟨h,f⟩:=bk zl h f;obtain⟨e,hE⟩:=bq (ga s n cpu)
 have cA:∀H,Ext w H->aS prog 117 [.agg (ar r).toArray,.string n,Iv cpu] H λv _=>v=Iv e:=λH hx=>by
  have:=kR r s n cpu H (hr.ext hx) hf;rwa[hE]at this
 by_cases he:e=0
 ·subst he;obtain⟨i,c,zg,rfl,hM,S⟩:=Dd hE hf;by_cases hm:1<=many∧many<=256
  ·obtain⟨m,rfl⟩:=Pm (show 0<=many by omega);have hP:∀u,j2 i c m s [] u->kb s n c m u:=λu hu=>kb.A9 hE hm zg hu;have zA:m<=256:=Y;have zB:=hm.1;repeat'(first|refine Wz ?_|((first|refine Wk (cA _ h) ?_|refine Wk (bE _ _ _ _) ?_);intro v w1 J X;subst X;obtain⟨h,f,d⟩:=aY J h f d))
   all_goals try omega
   refine Wk (cX r s _ (hr.ext h) hs) λv w6 k X=>?_;obtain⟨q,cs,rfl,y,hI⟩:=X;have y:=y.low h.size;have hI:=hI.low h.size;obtain⟨h,f,d⟩:=aY k h f d;refine SW.alloc Z λV w7 k zc b=>?_;have zm:=h.up zc;have zn:b6≠V:=λe=>absurd d.lt Y;have zy:b3≠V:=λe=>absurd f.lt Y;obtain⟨h,f,d,y,hI⟩:=dz k h f d y hI;refine Wh b (aB q) λw8 g b=>?_;obtain⟨d,f,h,y,hI⟩:=dz g d f h y hI;refine Wz ?_
   refine CW.loop (λt:Nat×(Option Addr×Nat×List Int)×cc×aj×List da=>[(1,.string n),(2,Iv (c:Int)),(3,Iv (m:Int)),(4,Pt b3),(8,Pt b6),(12,Pt V),(13,.slice t.2.1.1 t.1 t.2.1.2.1),(14,Iv (t.1:Int))])
    (λt H=>t.1<=m∧Ext w H∧ay H b3 37 (ar r)∧ay H b6 37 (ar .zero)∧ay H V 37 (ar t.2.2.1)∧SX H w.heap.size t.2.2.1 t.2.2.2.1 t.2.2.2.2∧SJ (λg=>aN t.2.1.1 t.2.1.2.1=some g) H w.heap.size t.2.2.1 t.2.2.2.1 t.2.2.2.2∧Own H w.heap.size 3 1 aT t.2.1.1 t.1 t.2.1.2.1 t.2.1.2.2∧Bk t.2.2.2.1 i c∧∀u,j2 i c (m-t.1) t.2.2.2.1 t.2.1.2.2 u->j2 i c m s [] u)
    (λt=>m-t.1) (0,(none,0,[]),q,s,cs) ⟨Z,Z,Z,Z,Z,Z,Z,Z,trivial⟩ ⟨PL _,h,f,d,b,y,hI.sj.none (λg e=>by cases e),Own.cq _ _ _ _ _ _,S,λu hu=>hu⟩ ?_
   rintro⟨j,⟨A,ca,l⟩,q1,s1,zd⟩ w9 ⟨hj,h,f,d,b,C,G,y,S,hR⟩;simp only at hj b C G y S hR⊢
   have cC:∀H,Ext w H->aS prog 101 [.agg (ar r).toArray,.string n] H λv _=>v=Iv (i:Int):=λH hx=>by
    have:=gg r s n H (hr.ext hx) hs;rwa[zg]at this
   by_cases zC:j<m
   ·have zo:m-j=(m-(j+1))+1:=Y;rw[zo]at hR;refine Wz ?_;all_goals try omega
    focus
     refine CW.iF 5 13 (λ_=>True) mixed bm λw1 J P=>?_;obtain⟨h,f,d,b,C,G,y⟩:=iX J h f d b C G y;refine Wf ?_;refine SF.two 3 10 Z Z bm Z Z ?_ ?_
     focus
      refine Wc (cC _ h) λza k=>?_;obtain⟨h,f,d,b,C,G,y⟩:=iX k h f d b C G y;try have o:=o.ext k
      refine SW.nil (ah.sf k ?_);refine SF.Mx 10 Z Z bm Z Z ?_ ?_
      focus
       refine SW.cm Z Z (px (λg=>aN A ca=some g) w _ q1 s1 zd i c S.bU S.hi S.inv h C G (λg e=>y.lt_size g e) S.KV) λv zh X=>?_;obtain⟨M,Q,a,e,rfl,T,U,D,zb,p⟩:=X.form;have f:=D _ _ f;have d:=D _ _ d;have b:=D _ _ b;try have o:=D _ _ o
       have y:=y.same zb;have h:=U;have B:True:=trivial;refine SW.nil (ah.sg B ?_);refine SG.gm 6 P Z bm bm Z B (λ_=>aH Z) Z ?_;refine SG.gm 7 P Z bm bm Z B (λ_=>aH Z) Z ?_;refine SG.gm 8 P Z bm bm Z B (λ_=>aH Z) Z ?_;refine SG.gm 9 P Z bm bm Z B (λ_=>aH Z) Z ?_;refine SG.bD 10 ?_;refine SW.alloc Z λK za k L o=>?_;have N:b6≠K:=λe=>absurd d.lt Y;have E:V≠K:=λe=>absurd b.lt Y;have F:b3≠K:=λe=>absurd f.lt Y;have O:=h.up L;obtain⟨f,d,b,y⟩:=cG k f d b y;try have C:=C.ext k
       try have G:=G.ext k
       try have p:=p.ext k
       have h:=h.trans k;have B:True:=trivial;refine SW.nil (ah.sg B ?_);refine SG.bD 11 ?_;refine Wg o (aB Q) λzi z I=>?_;have W:=o.gr I;have d:=d.grown I (by simpa using N);have b:=b.grown I (by simpa using E);have f:=f.grown I (by simpa using F);have h:=h.own O I;have p:=p.J4 W;have y:=y.aQ W Z;have o:=z;have B:True:=trivial;refine SW.nil (ah.sg B ?_);refine SG.bD 12 ?_;repeat(refine SW.pure Z Z ?_)
       refine SW.nil (ah.sg B ?_)
      rotate_left
      focus
       refine SW.alloc Z λK za k L o=>?_;have N:b6≠K:=λe=>absurd d.lt Y;have E:V≠K:=λe=>absurd b.lt Y;have F:b3≠K:=λe=>absurd f.lt Y;have O:=h.up L;obtain⟨f,d,b,y⟩:=cG k f d b y;try have C:=C.ext k
       try have G:=G.ext k
       try have p:=p.ext k
       have h:=h.trans k;have B:True:=trivial;refine SW.nil (ah.sf k ?_);refine SF.eW ?_;refine SW.cm Z Z (px (λg=>aN A ca=some g) w _ q1 s1 zd i c S.bU S.hi S.inv h C G (λg e=>y.lt_size g e) S.KV) λv zh X=>?_;obtain⟨M,Q,a,e,rfl,T,U,D,zb,p⟩:=X.form;have f:=D _ _ f;have d:=D _ _ d;have b:=D _ _ b;try have o:=D _ _ o
       have y:=y.same zb;have h:=U;have B:True:=trivial;refine SW.nil (ah.sg B ?_);refine SG.bD 6 ?_;repeat(refine SW.pure Z Z ?_)
       refine SW.nil (ah.sg B ?_);refine SG.gm 7 P Z bm bm Z B (λ_=>aH Z) Z ?_;refine SG.gm 8 P Z bm bm Z B (λ_=>aH Z) Z ?_;refine SG.gm 9 P Z bm bm Z B (λ_=>aH Z) Z ?_;refine SG.bD 11 ?_;refine Wg o (aB Q) λzi z I=>?_;have W:=o.gr I;have d:=d.grown I (by simpa using N);have b:=b.grown I (by simpa using E);have f:=f.grown I (by simpa using F);have h:=h.own O I;have p:=p.J4 W;have y:=y.aQ W Z;have o:=z;have B:True:=trivial;refine SW.nil (ah.sg B ?_);refine SG.bD 12 ?_;repeat(refine SW.pure Z Z ?_)
       refine SW.nil (ah.sg B ?_)
      rotate_left
     rotate_left 2
     focus
      refine SW.alloc Z λK za k L o=>?_;have N:b6≠K:=λe=>absurd d.lt Y;have E:V≠K:=λe=>absurd b.lt Y;have F:b3≠K:=λe=>absurd f.lt Y;have O:=h.up L;obtain⟨f,d,b,y⟩:=cG k f d b y;try have C:=C.ext k
      try have G:=G.ext k
      try have p:=p.ext k
      have h:=h.trans k;have B:True:=trivial;refine SW.nil (ah.sf k ?_);refine SF.bD 3 ?_;refine Wc (cC _ h) λza k=>?_;obtain⟨h,f,d,b,C,G,y⟩:=iX k h f d b C G y;try have o:=o.ext k
      refine SW.nil (ah.sf k ?_);refine SF.eW ?_;refine SW.cm Z Z (px (λg=>aN A ca=some g) w _ q1 s1 zd i c S.bU S.hi S.inv h C G (λg e=>y.lt_size g e) S.KV) λv zh X=>?_;obtain⟨M,Q,a,e,rfl,T,U,D,zb,p⟩:=X.form;have f:=D _ _ f;have d:=D _ _ d;have b:=D _ _ b;try have o:=D _ _ o
      have y:=y.same zb;have h:=U;have B:True:=trivial;refine SW.nil (ah.sg B ?_);refine SG.bD 6 ?_;repeat(refine SW.pure Z Z ?_)
      refine SW.nil (ah.sg B ?_);refine SG.gm 7 P Z bm bm Z B (λ_=>aH Z) Z ?_;refine SG.gm 8 P Z bm bm Z B (λ_=>aH Z) Z ?_;refine SG.gm 9 P Z bm bm Z B (λ_=>aH Z) Z ?_;refine SG.bD 11 ?_;refine Wg o (aB Q) λzi z I=>?_;have W:=o.gr I;have d:=d.grown I (by simpa using N);have b:=b.grown I (by simpa using E);have f:=f.grown I (by simpa using F);have h:=h.own O I;have p:=p.J4 W;have y:=y.aQ W Z;have o:=z;have B:True:=trivial;refine SW.nil (ah.sg B ?_);refine SG.bD 12 ?_;repeat(refine SW.pure Z Z ?_)
      refine SW.nil (ah.sg B ?_)
     rotate_left
     all_goals
      refine SG.dQ ?_;rcases p with⟨hn,zp,rfl,rfl⟩|⟨M,cs',rfl,rfl,rfl,C,G⟩
      ·have hQ:=hP _ (hR _ (.bad S.hi T hn));obtain⟨m1,e⟩:=M;simp only at hn zp hQ;refine Wz ?_;all_goals try omega
       refine Wh d (aB .zero) λzq g R=>?_;have h:=jc g h;refine Wz ?_;exact ah.cb Z Z Z Z R Z ⟨_,Z,h,_,hQ,.zero,none,0,Z,hz _,Own.cq _ _ _ _ _ _⟩
      have zj:=S.A9 T;have R:∀u,j2 i c (m-(j+1)) (qO s1 i c M) (l++[(ey M.c M.k).bR]) u->j2 i c m s [] u:=λu hu=>hR u (.more S.hi T hu);obtain⟨a,ha⟩:=bq ((ey M.c M.k).bR);obtain⟨s2,ze⟩:=bq (qO s1 i c M);rw[show aZ (jJ s1 M.ws) i (M.h,dl M.c c M.k (M.ws.getD (ey M.c M.k).bR.toNat 0))=s2 from ze]at C G;rw[ha,ze]at R;rw[ze]at zj;rw[ha];refine Wz ?_;all_goals try omega
      refine Wh b (aB Q) λzq g b=>?_;obtain⟨f,d,h,y,C,G⟩:=fi g f d h y C G;refine Wz ?_;refine SW.bz Z Z Z Z Z λbn zD k zE zr=>?_;obtain⟨h,f,d,b,C,G,y⟩:=iX k h f d b C G y;refine SW.tv y (ay.la (enc:=aT) (x:=a) zr) h.size Y Z Z Z Y Y λA2 c2 zF zs I zt=>?_;obtain⟨zu,zv⟩:=C.aside (n2:=0) G y I zt;have W:=y.gr I;have h:=au h I (Ph _) y.az;obtain⟨f,d,b⟩:=aY W f d b;refine Wz ?_;exact ah.again (j+1,(A2,c2,l++[a]),Q,s2,cs') ⟨Z,Z,Z,Z,Z,Z,Z,Z,trivial⟩ dD ⟨by simp only;omega,h,f,d,b,zu,zv,zs,zj,R⟩
   obtain rfl:j=m:=Y;have hQ:=hP _ (hR (s1,l,0) (by rw[Qy];exact .done));have zk:=y.len;refine Wz ?_;all_goals try omega
   refine Wh d (aB q1) λza g R=>?_;obtain⟨h,C,y⟩:=aY g h C y;refine Wz ?_;exact ah.cb Z Z Z Z R Z ⟨_,Z,h,_,hQ,_,A,ca,by rw[zk],C.nb,by rw[zk];exact y⟩
  have hP:=kb.range hE hm;repeat'(first|refine Wz ?_|((first|refine Wk (cA _ h) ?_|refine Wk (bE _ _ _ _) ?_);intro v w1 J X;subst X;obtain⟨h,f,d⟩:=aY J h f d))
  all_goals try omega
  refine Wh d (aB .zero) λw7 g R=>?_;have h:=jc g h;refine Wz ?_;exact ah.cb Z Z Z Z R Z ⟨_,Z,h,_,hP,.zero,none,0,Z,hz _,Own.cq _ _ _ _ _ _⟩
 have hP:=kb.ask (s:=s) (n:=n) (cpu:=cpu) (many:=many) (by rw[hE];exact he);rw[hE]at hP;repeat'(first|refine Wz ?_|(refine Wc (cA _ h) λw1 J=>?_;obtain⟨h,f,d⟩:=aY J h f d))
 all_goals try omega
 refine Wh d (aB .zero) λw7 g R=>?_;have h:=jc g h;refine Wz ?_;exact ah.cb Z Z Z Z R Z ⟨_,Z,h,_,hP,.zero,none,0,Z,hz _,Own.cq _ _ _ _ _ _⟩
end Go.Proofs.YtdlfabkacdgneaaGreatDoor
