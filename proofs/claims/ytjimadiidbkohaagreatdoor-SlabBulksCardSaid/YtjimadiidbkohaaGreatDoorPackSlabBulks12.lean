/-
  Texts of the claim SlabBulks, part 12: what its theorem leans on.
-/
import Derived.Test.YtjimadiidbkohaaGreatDoorPackSlabBulks9
import Derived.Test.YtjimadiidbkohaaGreatDoorPackSlabBulks8
import Derived.Test.YtjimadiidbkohaaGreatDoorPackSlabBulks2
set_option linter.unusedVariables false
set_option linter.unusedSimpArgs false
namespace Go.Proofs.YtjimadiidbkohaaGreatDoor
open Go.RowKit
structure ki (w:World) (lo:Nat) (R:List bO) (L:List aA) : Prop where
 each:eH (kA w lo) R L
section
variable {w w':World} {lo t:Nat} {R:List bO} {L:List aA} {y:bO} {x:aA}
theorem ki.ext (h:ki w lo R L) (hx:Ext w w') : ki w' lo R L:=⟨h.each.mono fun _ _ h=>h.ext hx⟩
theorem ki.ay (h:ki w lo R L) (hG:nY w w' t) (cG:Nat.beq t 3=false) : ki w' lo R L:=⟨h.each.mono fun _ _ h=>h.ay hG cG⟩
theorem ki.nil (w:World) (lo:Nat) : ki w lo [] []:=⟨eH.nil⟩
theorem ki.snoc (h:ki w lo R L) (hr:kA w lo y x) : ki w lo (R++[y]) (L++[x]):=⟨h.each.snoc hr⟩
end
set_option maxHeartbeats 16000000 in
theorem xA (r:eI) (L:List aA) (ls:List bO) (x:aA) (y:bO) (lo:Nat) (w:World) (hl:cQ w lo r.av ls L) (hy:kA w lo y x) (hs:rH L) (fG:lo≤w.heap.size) (cG : 0<y.aw.n) (hn:(r.av.n+1)*48≤140737488355328) :
 bt Tryz.prog 88 [.agg (bm r).toArray,.int .i64 y.dU,.int .i64 y.aq,.int .i64 y.Ty,.slice y.aw.A y.aw.n y.aw.c] w fun v w' => ∃ s R,v = .agg (bm ⟨r.aN,r.bJ,r.bX,s,r.Live⟩).toArray∧cQ w' lo s R (jM L x):=by
 refine aM Tryz.func88 rfl Tryz.ntmps88 rfl ?_;refine CW.seq (CW.region (SW.box rfl rfl fun b5 w1 hw iC cg => ?_));have nP:=iC;refine SW.alloc rfl fun nE w2 cJ uT aW => ?_
 have xB:w.heap.size≤nE:=Nat.le_trans hw.size uT
 have vO:b5≠nE:=by have:=cg.lt;omega
 (replace hw:=Ext.trans hw cJ;replace cg:=cg.ext cJ);obtain ⟨l1,l2⟩:=hl.rd.len;have hA:=hl.row.sl.base;have y1:=hy.cpu;have y2:=hy.fC;have y3:=hy.ty;refine Wz ?_;refine SW.alloc rfl fun sv w1 ab qN bC => ?_
 skip;refine SW.ap bC rfl rfl rfl rfl (sy y) fun w2 mZ hg => ?_
 have aj:=ab.own qN hg;have pr:w.heap.size≤sv:=Nat.le_trans hw.size qN
 replace hw:=Ext.trans hw aj;replace cg:=cg.ext aj;replace aW:=aW.ext aj;replace bC:=mZ;clear mZ ab hg aj;refine Wz ?_;have di:=fW L x;replace bC:aI w2 sv 62 (bp y):=bC;have z0:(bW L x 0).length=0:=by simp [bW]
 have q0:decide (a9 L x<0)=decide ((y.aw.n:Int)=0):=by rw [decide_eq_false (by omega),decide_eq_false (by omega)]
 refine CW.loop (fun t:Nat×Option Addr×Nat×List bO=>[(1,.int .i64 y.dU),(2,.int .i64 y.aq),(3,.int .i64 y.Ty),(5,.pointer (some ⟨b5,0,none⟩)),(10,.pointer (some ⟨nE,0,none⟩)),(11,.pointer (some ⟨sv,0,none⟩)),(12,.slice t.2.1 (bW L x t.1).length t.2.2.1),(13,.bool (decide (a9 L x<t.1))),(14,.int .i64 (t.1:Int))])
  (fun t w'=>t.1≤r.av.n∧Ext w w'∧aI w' b5 27 (bm r)∧aI w' nE 27 (bm .zero)∧aI w' sv 62 (bp y)∧Own w' (sv+1) 62 4 bp t.2.1 (bW L x t.1).length t.2.2.1 t.2.2.2∧ki w' lo t.2.2.2 (bW L x t.1)) (fun t=>r.av.n-t.1) (0,none,0,[])
  ⟨rfl,rfl,rfl,rfl,rfl,rfl,by simp only;rw [z0];rfl,by simp only;rw [q0];rfl,rfl,trivial⟩ ⟨by omega,hw,cg,aW,bC,by simpa [bW] using Own.dS _ _ _ _ _ _,by simpa [bW] using ki.nil _ _⟩ ?_
 clear hw cg aW bC;rintro ⟨i,A,c,R⟩ w' ⟨hi,hw,cg,aW,bC,hO,hE⟩
 simp only at hi hO hE ⊢
 have hlen:(bW L x i).length≤i+1:=by
  unfold bW;split
  ·simp;omega
  ·split<;>simp<;>omega
 have FA:i≤a9 L x→(bW L x i).length≤i:=fun h=>by rw [bW,if_pos h];simp;omega
 have y6:∀ m:Nat,m≤r.av.n→(m+1)*48≤140737488355328∧m+1≤9223372036854775807:=fun m hm=>by omega
 by_cases ck:i<r.av.n
 ·have qM:(bW L x i).length≤r.av.n:=by omega
  have kM:i<L.length:=by omega
  have lE:i<ls.length:=by omega
  have xu:=hl.each.get i lE kM;have e1:=xu.cpu;have e2:=xu.fC;have e3:=xu.ty;have g0:=hl.row.sl.dA ck (j:=0) (u := .int .i64 ls[i].dU) rfl;have g1:=hl.row.sl.dA ck (j:=1) (u := .int .i64 ls[i].aq) rfl;have g2:=hl.row.sl.dA ck (j:=2) (u := .int .i64 ls[i].Ty) rfl;obtain ⟨p,hp⟩ : ∃ p,decide (bz x L[i])=p:=⟨_,rfl⟩
  have cA:∀ w',bt Tryz.prog 82 [.agg (bp y).toArray,.agg (bp ls[i]).toArray] w' fun v _=>v = .bool p:=fun w'=>by
   have:=sC y ls[i] x L[i] w' ⟨y1,y2,y3⟩ xu.rd.key
   rwa [hp] at this
  rcases Nat.lt_trichotomy i (a9 L x) with hk|hk|hk
  ·have ha:=ma hk;have IF:p=false:=by rw [← hp];exact decide_eq_false (j7 ha).2.2
   subst IF;have IG : ¬ (ls[i].dU=y.dU∧ls[i].aq=y.aq∧ls[i].Ty=y.Ty):=by have:=(j7 ha).1;unfold dk at this;omega
   have ee:=yO hk;have el:(bW L x (i+1)).length=(bW L x i).length+1:=by rw [ee];simp
   have d0:decide (a9 L x<i)=false:=decide_eq_false (by omega)
   have d1:decide (a9 L x<i+1)=false:=decide_eq_false (by omega)
   rw [d0];repeat' (first|refine Wz ?_|((apply CW.aP mixed;(· kernel_rfl);rotate_left;intro w1 ab;replace hw:=Ext.trans hw ab;replace cg:=cg.ext ab;replace aW:=aW.ext ab;replace bC:=bC.ext ab;replace hO:=hO.ext ab;replace hE:=hE.ext ab;clear ab;rotate_right))|refine SW.bZ rfl rfl rfl (fun h => ?_) (fun h => ?_)|refine SW.want rfl rfl ?_|refine SW.st (ao hw rfl g0) rfl ?_|refine SW.st (ao hw rfl g1) rfl ?_|refine SW.st (ao hw rfl g2) rfl ?_|refine SW.st (aH hw rfl rfl ((hl.row.sl.all ck))) rfl ?_|refine SW.bq rfl rfl (fun w1 ab=>(cA _)) ?_|exact SW.bx rfl)
   all_goals try omega
   all_goals
    refine SW.bD rfl rfl rfl rfl rfl fun b w4 aj hb hB => ?_
    (replace hw:=Ext.trans hw aj;replace cg:=cg.ext aj;replace aW:=aW.ext aj;replace bC:=bC.ext aj;replace hO:=hO.ext aj;replace hE:=hE.ext aj);refine SW.append hO (aI.lj (enc:=bp) (x:=ls[i]) hB) bC.lt rfl rfl rfl (y6 _ qM).1 (y6 _ qM).2 fun A2 c2 w5 gi hg => ?_
    have hG:=hO.gr hg;replace hw:=aF hw hg (Nat.le_trans pr (Nat.le_succ _)) hO.aL;replace bC:=bC.grown hg (fun e=>Nat.not_succ_le_self _ (hO.aL sv e.symm));(replace cg:=cg.ay hG rfl;replace aW:=aW.ay hG rfl;replace hE:=hE.ay hG rfl);refine Wz ?_;refine ae.again (i+1,A2,c2,R++[ls[i]]) ⟨rfl,rfl,rfl,rfl,rfl,rfl,by simp only;rw [el];rfl,by simp only;rw [d1];rfl,rfl,trivial⟩ (by simp only;omega) ⟨by simp only;omega,hw,cg,aW,bC,by simp only;rw [el];exact gi,?_⟩;simp only;rw [ee];exact hE.snoc ((hl.each.get i lE kM).ext hw)
  ·have eh:∃ q,bU L x=q:=⟨_,rfl⟩
   obtain ⟨q,hq⟩:=eh;have d0:decide (a9 L x<i)=false:=decide_eq_false (by omega)
   have d1:decide (a9 L x<i+1)=true:=decide_eq_true (by omega)
   have D9:(bW L x i).length+1≤r.av.n:=by have:=FA (by omega);omega
   rw [d0];cases q
   ·have ha:bz x L[i]:=by
     have:=Aj hq (by omega)
     simpa only [← hk] using this
    have IF:p=true:=by rw [← hp];exact decide_eq_true ha
    subst IF;have IG : ¬ (ls[i].dU=y.dU∧ls[i].aq=y.aq∧ls[i].Ty=y.Ty):=by have:=(j7 ha).2.1;unfold dk at this;omega
    have ee:=A6 hk kM hq;have el:(bW L x (i+1)).length=(bW L x i).length+1+1:=by rw [ee];simp
    repeat' (first|refine Wz ?_|((apply CW.aP mixed;(· kernel_rfl);rotate_left;intro w1 ab;replace hw:=Ext.trans hw ab;replace cg:=cg.ext ab;replace aW:=aW.ext ab;replace bC:=bC.ext ab;replace hO:=hO.ext ab;replace hE:=hE.ext ab;clear ab;rotate_right))|refine SW.want rfl rfl ?_|refine SW.st (aH hw rfl rfl ((hl.row.sl.all ck))) rfl ?_|refine SW.bq rfl rfl (fun w1 ab=>(cA _)) ?_|exact SW.bx rfl)
    refine SW.bD rfl rfl rfl rfl rfl fun b w4 aj hb hB => ?_
    (replace hw:=Ext.trans hw aj;replace cg:=cg.ext aj;replace aW:=aW.ext aj;replace bC:=bC.ext aj;replace hO:=hO.ext aj;replace hE:=hE.ext aj);refine SW.append hO (aI.lj (enc:=bp) (x:=y) hB) bC.lt rfl rfl rfl (y6 _ qM).1 (y6 _ qM).2 fun A2 c2 w5 gi hg => ?_
    have hG:=hO.gr hg;replace hw:=aF hw hg (Nat.le_trans pr (Nat.le_succ _)) hO.aL;replace bC:=bC.grown hg (fun e=>Nat.not_succ_le_self _ (hO.aL sv e.symm));(replace cg:=cg.ay hG rfl;replace aW:=aW.ay hG rfl;replace hE:=hE.ay hG rfl);replace hE:=hE.snoc (hy.ext hw);replace hO:=gi;clear gi;repeat' (first|refine Wz ?_|refine SW.bZ rfl rfl rfl (fun h => ?_) (fun h => ?_)|refine SW.st (ao hw rfl g0) rfl ?_|refine SW.st (ao hw rfl g1) rfl ?_|refine SW.st (ao hw rfl g2) rfl ?_|refine SW.st (aH hw rfl rfl ((hl.row.sl.all ck))) rfl ?_)
    all_goals try omega
    all_goals
     refine SW.bD rfl rfl rfl rfl rfl fun b w4 aj hb hB => ?_
     (replace hw:=Ext.trans hw aj;replace cg:=cg.ext aj;replace aW:=aW.ext aj;replace bC:=bC.ext aj;replace hO:=hO.ext aj;replace hE:=hE.ext aj);refine SW.append hO (aI.lj (enc:=bp) (x:=ls[i]) hB) bC.lt rfl rfl rfl (y6 _ D9).1 (y6 _ D9).2 fun A2 c2 w5 gf hg => ?_
     have hG:=hO.gr hg;replace hw:=aF hw hg (Nat.le_trans pr (Nat.le_succ _)) hO.aL;replace bC:=bC.grown hg (fun e=>Nat.not_succ_le_self _ (hO.aL sv e.symm));(replace cg:=cg.ay hG rfl;replace aW:=aW.ay hG rfl;replace hE:=hE.ay hG rfl);refine Wz ?_;refine ae.again (i+1,A2,c2,R++[y]++[ls[i]]) ⟨rfl,rfl,rfl,rfl,rfl,rfl,by simp only;rw [el];rfl,by simp only;rw [d1];rfl,rfl,trivial⟩ (by simp only;omega) ⟨by simp only;omega,hw,cg,aW,bC,by simp only;rw [el];exact gf,?_⟩;simp only;rw [ee];exact hE.snoc ((hl.each.get i lE kM).ext hw)
   ·obtain ⟨NH,mc⟩:=jt hq;have IH:dk L[i] x:=by simpa only [← hk] using mc
    have IF:p=false:=by rw [← hp];exact decide_eq_false (by unfold bz dk at *;omega)
    subst IF;obtain ⟨k1,k2,k3⟩:=id IH;have ee:=xp hk hq;have el:(bW L x (i+1)).length=(bW L x i).length+1:=by rw [ee];simp
    repeat' (first|refine Wz ?_|(first|refine CW.bG rfl ?_|(apply CW.aP mixed;(· kernel_rfl);rotate_left;intro w1 ab;replace hw:=Ext.trans hw ab;replace cg:=cg.ext ab;replace aW:=aW.ext ab;replace bC:=bC.ext ab;replace hO:=hO.ext ab;replace hE:=hE.ext ab;clear ab;rotate_right))|refine SW.want rfl rfl ?_|refine SW.st (ao hw rfl g0) rfl ?_|refine SW.st (ao hw rfl g1) rfl ?_|refine SW.st (ao hw rfl g2) rfl ?_|refine SW.st (aH hw rfl rfl ((hl.row.sl.all ck))) rfl ?_|refine SW.bq rfl rfl (fun w1 ab=>(cA _)) ?_|exact SW.bx rfl)
    all_goals try omega
    refine SW.bD rfl rfl rfl rfl rfl fun b w4 aj hb hB => ?_
    (replace hw:=Ext.trans hw aj;replace cg:=cg.ext aj;replace aW:=aW.ext aj;replace bC:=bC.ext aj;replace hO:=hO.ext aj;replace hE:=hE.ext aj);refine SW.append hO (aI.lj (enc:=bp) (x:=y) hB) bC.lt rfl rfl rfl (y6 _ qM).1 (y6 _ qM).2 fun A2 c2 w5 gi hg => ?_
    have hG:=hO.gr hg;replace hw:=aF hw hg (Nat.le_trans pr (Nat.le_succ _)) hO.aL;replace bC:=bC.grown hg (fun e=>Nat.not_succ_le_self _ (hO.aL sv e.symm));(replace cg:=cg.ay hG rfl;replace aW:=aW.ay hG rfl;replace hE:=hE.ay hG rfl);refine Wz ?_;refine ae.again (i+1,A2,c2,R++[y]) ⟨rfl,rfl,rfl,rfl,rfl,rfl,by simp only;rw [el];rfl,by simp only;rw [d1];rfl,rfl,trivial⟩ (by simp only;omega) ⟨by simp only;omega,hw,cg,aW,bC,by simp only;rw [el];exact gi,?_⟩;simp only;rw [ee];exact hE.snoc (hy.ext hw)
  ·have KN:a9 L x<L.length:=by omega
   have ha:bz x L[i]:=by
    have h0:=hs.get kM hk;have h1:=Ai KN;unfold bz at *;omega
   have IG : ¬ (ls[i].dU=y.dU∧ls[i].aq=y.aq∧ls[i].Ty=y.Ty):=by have:=(j7 ha).2.1;unfold dk at this;omega
   have ee:=xq hk kM;have el:(bW L x (i+1)).length=(bW L x i).length+1:=by rw [ee];simp
   have d0:decide (a9 L x<i)=true:=decide_eq_true (by omega)
   have d1:decide (a9 L x<i+1)=true:=decide_eq_true (by omega)
   rw [d0];repeat' (first|refine Wz ?_|((apply CW.aP mixed;(· kernel_rfl);rotate_left;intro w1 ab;replace hw:=Ext.trans hw ab;replace cg:=cg.ext ab;replace aW:=aW.ext ab;replace bC:=bC.ext ab;replace hO:=hO.ext ab;replace hE:=hE.ext ab;clear ab;rotate_right))|refine SW.bZ rfl rfl rfl (fun h => ?_) (fun h => ?_)|refine SW.skip rfl rfl rfl rfl ?_|refine SW.st (ao hw rfl g0) rfl ?_|refine SW.st (ao hw rfl g1) rfl ?_|refine SW.st (ao hw rfl g2) rfl ?_|refine SW.st (aH hw rfl rfl ((hl.row.sl.all ck))) rfl ?_|exact SW.bx rfl)
   all_goals try omega
   all_goals
    refine SW.bD rfl rfl rfl rfl rfl fun b w4 aj hb hB => ?_
    (replace hw:=Ext.trans hw aj;replace cg:=cg.ext aj;replace aW:=aW.ext aj;replace bC:=bC.ext aj;replace hO:=hO.ext aj;replace hE:=hE.ext aj);refine SW.append hO (aI.lj (enc:=bp) (x:=ls[i]) hB) bC.lt rfl rfl rfl (y6 _ qM).1 (y6 _ qM).2 fun A2 c2 w5 gi hg => ?_
    have hG:=hO.gr hg;replace hw:=aF hw hg (Nat.le_trans pr (Nat.le_succ _)) hO.aL;replace bC:=bC.grown hg (fun e=>Nat.not_succ_le_self _ (hO.aL sv e.symm));(replace cg:=cg.ay hG rfl;replace aW:=aW.ay hG rfl;replace hE:=hE.ay hG rfl);refine Wz ?_;refine ae.again (i+1,A2,c2,R++[ls[i]]) ⟨rfl,rfl,rfl,rfl,rfl,rfl,by simp only;rw [el];rfl,by simp only;rw [d1];rfl,rfl,trivial⟩ (by simp only;omega) ⟨by simp only;omega,hw,cg,aW,bC,by simp only;rw [el];exact gi,?_⟩;simp only;rw [ee];exact hE.snoc ((hl.each.get i lE kM).ext hw)
 ·have ei:i=L.length:=by omega
  subst ei;by_cases hk:a9 L x<L.length
  ·have ee:=xr hk;rw [ee] at hO hE;rw [ee,decide_eq_true hk];repeat' (first|refine Wz ?_|(refine CW.bA rfl ?_))
   refine SW.bB (i:=3) cg rfl rfl rfl rfl fun w6 gl hg => ?_
   have hG:=cg.gr hg;replace hw:=hw.own nP hg;replace aW:=aW.grown hg (by simpa using Ne.symm vO);(replace hO:=hO.ay hG rfl;replace hE:=hE.ay hG rfl);refine Wz ?_;refine SW.ap aW rfl rfl rfl rfl (cS ⟨r.aN,r.bJ,r.bX,⟨A,_,c⟩,r.Live⟩) fun w7 bL hg => ?_
   have hG:=aW.gr hg;replace hw:=hw.own xB hg;(replace hO:=hO.ay hG rfl;replace hE:=hE.ay hG rfl);refine Wz ?_;exact ae.mn rfl rfl bL rfl ⟨_,rfl,hw,⟨A,_,c⟩,R,rfl,⟨hO.low (by omega),hE.each⟩⟩
  ·have qM:(bW L x L.length).length≤r.av.n:=by have:=FA (by omega);omega
   have ee:=xt hk;rw [decide_eq_false hk];repeat' (first|refine Wz ?_|(refine CW.bG rfl ?_))
   refine SW.bD rfl rfl rfl rfl rfl fun b w4 aj hb hB => ?_
   (replace hw:=Ext.trans hw aj;replace cg:=cg.ext aj;replace aW:=aW.ext aj;replace bC:=bC.ext aj;replace hO:=hO.ext aj;replace hE:=hE.ext aj);refine SW.append hO (aI.lj (enc:=bp) (x:=y) hB) bC.lt rfl rfl rfl (y6 _ qM).1 (y6 _ qM).2 fun A2 c2 w5 gi hg => ?_
   have hG:=hO.gr hg;replace hw:=aF hw hg (Nat.le_trans pr (Nat.le_succ _)) hO.aL;replace bC:=bC.grown hg (fun e=>Nat.not_succ_le_self _ (hO.aL sv e.symm));(replace cg:=cg.ay hG rfl;replace aW:=aW.ay hG rfl;replace hE:=hE.ay hG rfl);replace hE:=hE.snoc (hy.ext hw);rw [ee] at hE;refine Wz ?_;refine SW.bB (i:=3) cg rfl rfl rfl rfl fun w6 gl hg => ?_
   have hG:=cg.gr hg;replace hw:=hw.own nP hg;replace aW:=aW.grown hg (by simpa using Ne.symm vO);(replace gi:=gi.ay hG rfl;replace hE:=hE.ay hG rfl);refine Wz ?_;refine SW.ap aW rfl rfl rfl rfl (cS ⟨r.aN,r.bJ,r.bX,⟨A2,_,c2⟩,r.Live⟩) fun w7 bL hg => ?_
   have hG:=aW.gr hg;replace hw:=hw.own xB hg;(replace gi:=gi.ay hG rfl;replace hE:=hE.ay hG rfl);refine Wz ?_;exact ae.mn rfl rfl bL rfl ⟨_,rfl,hw,⟨A2,_,c2⟩,R++[y],rfl,⟨gi.low (by omega),hE.each⟩⟩
end Go.Proofs.YtjimadiidbkohaaGreatDoor
