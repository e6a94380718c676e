/-
  Texts of the claim KmemFrees, part 18: what its theorem leans on.
-/
import Derived.Test.YtbidkghlpijecaaGreatDoorPackKmemFrees15
import Derived.Test.YtbidkghlpijecaaGreatDoorPackKmemFrees2
import Derived.Test.YtbidkghlpijecaaGreatDoorPackKmemFrees14
import Derived.Test.YtbidkghlpijecaaGreatDoorPackKmemFrees17
import Derived.Test.YtbidkghlpijecaaGreatDoorPackKmemFrees10
import Derived.Test.YtbidkghlpijecaaGreatDoorPackKmemFrees16
import Derived.Test.YtbidkghlpijecaaGreatDoorPackKmemFrees4
import Derived.Test.YtbidkghlpijecaaGreatDoorPackKmemFrees5
set_option linter.unusedVariables false
set_option linter.unusedSimpArgs false
namespace Go.Proofs.YtbidkghlpijecaaGreatDoor
open Go.RowKit
set_option maxHeartbeats 4000000 in
theorem p5 (r:dF) (s:ar) (w:World) (hr:lg w r s) (hs:s.small) :
 a9 Tryz.prog 36 [.agg (aH r).toArray] w fun v w' => ∃ q zr,v = .agg (aH q).toArray∧SX w' w.heap.size q s zr∧SI w' w.heap.size q s zr:=by
 refine aC Tryz.func36 rfl Tryz.ntmps36 rfl ?_;refine CW.seq (CW.region (SW.box rfl rfl fun b1 w1 hw gI au => ?_));refine SW.alloc rfl fun b2 w2 cg ff ax => ?_
 have oT:w.heap.size≤b2:=Nat.le_trans hw.size ff
 have Bc:b2≠b1:=by have:=au.lt;omega
 (replace hw:=Ext.trans hw cg;replace au:=au.ext cg);obtain ⟨cs,hc⟩:=hr.bJ;have C5:=hr.words.len;have s1:=hs.words;have s3:=hs.bJ;obtain ⟨c1,c2⟩:=hc.len;refine Wz ?_
 obtain ⟨K,hK⟩ : ∃ K:Env→World→Prop,K=fun L' w' => ∃ X c1 G b3 m1 m2,gj L' [(1,.pointer (some ⟨b1,0,none⟩)),(2,.pointer (some ⟨b2,0,none⟩)),(3,.pointer (some ⟨b3,0,none⟩))]∧Ext w w'∧aU w' b1 44 (aH r)∧aU w' b2 44 (aH .zero) ∧
  aU w' b3 44 (aH ⟨⟨X,r.Words.n,c1⟩,G,.nil⟩)∧Own w' w.heap.size 3 1 bm X r.Words.n c1 s.Words∧eU w' m1 m2 G s.Heap∧(w.heap.size≤m1∧m1≤m2∧m2≤w'.heap.size ∧ ∀ g,aX X c1=some g→g<m1)∧w.heap.size≤b3∧b1≠b3∧b2≠b3:=⟨_,rfl⟩
 refine CW.cut K ?_ ?_
 ·refine CW.any 8 mixed (bZ (by kernel_rfl)) rfl fun w1 ab bd => ?_
  replace hw:=Ext.trans hw ab;replace au:=au.ext ab;replace ax:=ax.ext ab;clear ab;refine Wa ?_;refine SA.take 4 bd rfl (by kernel_rfl) (by kernel_rfl) rfl ?_;repeat ((show SW _ _ _ _ (⟨_,Op.load _ _,_,_,_,none⟩::_) _ _;refine SW.st (aS rfl rfl ((eK au))) rfl ?_))
  refine SW.aq ?_;refine SA.two 2 7 rfl rfl (by kernel_rfl) rfl rfl ?_ ?_
  ·refine SW.call rfl rfl (dC _ _ _ _ _ (hr.words.ext hw) (by omega)) fun v w4 ai hv => ?_
   obtain ⟨X,c4,rfl,hX⟩:=hv;replace hX:=hX.low hw.size;replace hw:=Ext.trans hw ai;replace au:=au.ext ai;replace ax:=ax.ext ai;try replace ap:=ap.ext ai
   refine SW.nil (ae.sa ai ?_);refine SA.two 5 7 rfl rfl (by kernel_rfl) rfl rfl ?_ ?_
   ·refine SW.call rfl rfl (mV _ _ _ (hr.heap.ext hw) hs.heap) fun v w4 ai hv => ?_
    obtain ⟨G,rfl,hY⟩:=hv;have ze:∃ m1 m2,w.heap.size≤m1∧m1≤m2∧m2≤w4.heap.size∧(∀ g,aX X c4=some g→g<m1)∧eU w4 m1 m2 G s.Heap:=⟨_,_,hw.size,ai.size,Nat.le_refl _,hX.lt_size,hY.kV⟩
    clear hY;obtain ⟨m1,m2,kC,jo,mJ,vi,hY⟩:=ze;replace hX:=hX.ext ai;replace hw:=Ext.trans hw ai;replace au:=au.ext ai;replace ax:=ax.ext ai;try replace ap:=ap.ext ai
    refine SW.nil (ae.sa ai ?_);refine Wa ?_;refine SA.one 7 rfl (by kernel_rfl) rfl ?_;refine SW.alloc rfl fun b3 w4 ai bM ap => ?_
    have bO:w.heap.size≤b3:=Nat.le_trans hw.size bM
    try replace mJ:=Nat.le_trans mJ ai.size
    have dD:b1≠b3:=by have:=au.lt;omega
    have dw:b2≠b3:=by have:=ax.lt;omega
    replace hw:=Ext.trans hw ai;replace au:=au.ext ai;replace ax:=ax.ext ai;try replace hX:=hX.ext ai
    try replace hY:=hY.ext ai
    refine SW.nil (ae.sa ai ?_);refine SA.done (by kernel_rfl) ?_;skip;refine SW.aj ap rfl rfl rfl rfl (cf ⟨⟨X,r.Words.n,c4⟩,G,.nil⟩) fun w5 bV hg => ?_
    have hG:=ap.gr hg;have su:=Nat.le_trans mJ hg.size;replace hw:=hw.own bO hg;(replace hX:=hX.aD hG rfl;replace hY:=hY.aD hG rfl);replace au:=au.grown hg (by simpa using dD);replace ax:=ax.grown hg (by simpa using dw);refine Wz ?_;exact ae.cut (K:=K) (by rw [hK];exact ⟨X,c4,G,b3,m1,m2,⟨rfl,rfl,rfl,trivial⟩,hw,au,ax,bV,hX,hY,⟨kC,jo,su,vi⟩,bO,dD,dw⟩)
   ·refine SW.alloc rfl fun b3 w4 ai bM ap => ?_
    have bO:w.heap.size≤b3:=Nat.le_trans hw.size bM
    try replace mJ:=Nat.le_trans mJ ai.size
    have dD:b1≠b3:=by have:=au.lt;omega
    have dw:b2≠b3:=by have:=ax.lt;omega
    replace hw:=Ext.trans hw ai;replace au:=au.ext ai;replace ax:=ax.ext ai;try replace hX:=hX.ext ai
    try replace hY:=hY.ext ai
    refine SW.nil (ae.sa ai ?_);refine SA.one 5 rfl (by kernel_rfl) rfl ?_;refine SW.call rfl rfl (mV _ _ _ (hr.heap.ext hw) hs.heap) fun v w4 ai hv => ?_
    obtain ⟨G,rfl,hY⟩:=hv;have ze:∃ m1 m2,w.heap.size≤m1∧m1≤m2∧m2≤w4.heap.size∧(∀ g,aX X c4=some g→g<m1)∧eU w4 m1 m2 G s.Heap:=⟨_,_,hw.size,ai.size,Nat.le_refl _,hX.lt_size,hY.kV⟩
    clear hY;obtain ⟨m1,m2,kC,jo,mJ,vi,hY⟩:=ze;replace hX:=hX.ext ai;replace hw:=Ext.trans hw ai;replace au:=au.ext ai;replace ax:=ax.ext ai;try replace ap:=ap.ext ai
    refine SW.nil (ae.sa ai ?_);refine Wa ?_;refine SA.done (by kernel_rfl) ?_;skip;refine SW.aj ap rfl rfl rfl rfl (cf ⟨⟨X,r.Words.n,c4⟩,G,.nil⟩) fun w5 bV hg => ?_
    have hG:=ap.gr hg;have su:=Nat.le_trans mJ hg.size;replace hw:=hw.own bO hg;(replace hX:=hX.aD hG rfl;replace hY:=hY.aD hG rfl);replace au:=au.grown hg (by simpa using dD);replace ax:=ax.grown hg (by simpa using dw);refine Wz ?_;exact ae.cut (K:=K) (by rw [hK];exact ⟨X,c4,G,b3,m1,m2,⟨rfl,rfl,rfl,trivial⟩,hw,au,ax,bV,hX,hY,⟨kC,jo,su,vi⟩,bO,dD,dw⟩)
  ·refine SW.alloc rfl fun b3 w4 ai bM ap => ?_
   have bO:w.heap.size≤b3:=Nat.le_trans hw.size bM
   try replace mJ:=Nat.le_trans mJ ai.size
   have dD:b1≠b3:=by have:=au.lt;omega
   have dw:b2≠b3:=by have:=ax.lt;omega
   replace hw:=Ext.trans hw ai;replace au:=au.ext ai;replace ax:=ax.ext ai;try replace hX:=hX.ext ai
   try replace hY:=hY.ext ai
   refine SW.nil (ae.sa ai ?_);refine SA.one 2 rfl (by kernel_rfl) rfl ?_;refine SW.call rfl rfl (dC _ _ _ _ _ (hr.words.ext hw) (by omega)) fun v w4 ai hv => ?_
   obtain ⟨X,c4,rfl,hX⟩:=hv;replace hX:=hX.low hw.size;replace hw:=Ext.trans hw ai;replace au:=au.ext ai;replace ax:=ax.ext ai;try replace ap:=ap.ext ai
   refine SW.nil (ae.sa ai ?_);refine SA.one 5 rfl (by kernel_rfl) rfl ?_;refine SW.call rfl rfl (mV _ _ _ (hr.heap.ext hw) hs.heap) fun v w4 ai hv => ?_
   obtain ⟨G,rfl,hY⟩:=hv;have ze:∃ m1 m2,w.heap.size≤m1∧m1≤m2∧m2≤w4.heap.size∧(∀ g,aX X c4=some g→g<m1)∧eU w4 m1 m2 G s.Heap:=⟨_,_,hw.size,ai.size,Nat.le_refl _,hX.lt_size,hY.kV⟩
   clear hY;obtain ⟨m1,m2,kC,jo,mJ,vi,hY⟩:=ze;replace hX:=hX.ext ai;replace hw:=Ext.trans hw ai;replace au:=au.ext ai;replace ax:=ax.ext ai;try replace ap:=ap.ext ai
   refine SW.nil (ae.sa ai ?_);refine Wa ?_;refine SA.done (by kernel_rfl) ?_;skip;refine SW.aj ap rfl rfl rfl rfl (cf ⟨⟨X,r.Words.n,c4⟩,G,.nil⟩) fun w5 bV hg => ?_
   have hG:=ap.gr hg;have su:=Nat.le_trans mJ hg.size;replace hw:=hw.own bO hg;(replace hX:=hX.aD hG rfl;replace hY:=hY.aD hG rfl);replace au:=au.grown hg (by simpa using dD);replace ax:=ax.grown hg (by simpa using dw);refine Wz ?_;exact ae.cut (K:=K) (by rw [hK];exact ⟨X,c4,G,b3,m1,m2,⟨rfl,rfl,rfl,trivial⟩,hw,au,ax,bV,hX,hY,⟨kC,jo,su,vi⟩,bO,dD,dw⟩)
 ·clear au ax hw;subst hK;rintro L' w' ⟨X,c4,G,b3,m1,m2,lC,hw,au,ax,ap,hX,hY,⟨kC,jo,su,vi⟩,bO,dD,dw⟩
  refine ae.sub lC ?_;refine Wz ?_
  refine CW.loop (fun s:Nat×Option Addr×Nat×List cr=>[(2,.pointer (some ⟨b2,0,none⟩)),(3,.pointer (some ⟨b3,0,none⟩)),(14,.slice r.aa.A r.aa.n r.aa.c),(15,.int .i64 (r.aa.n:Int)),(16,.int .i64 (s.1:Int))])
   (fun t w'=>t.1≤r.aa.n∧m2≤w'.heap.size∧Ext w w'∧aU w' b2 44 (aH .zero)∧aU w' b3 44 (aH ⟨⟨X,r.Words.n,c4⟩,G,⟨t.2.1,t.1,t.2.2.1⟩⟩)∧Own w' w.heap.size 3 1 bm X r.Words.n c4 s.Words∧eU w' m1 m2 G s.Heap ∧
     dt w' m2 ⟨t.2.1,t.1,t.2.2.1⟩ t.2.2.2 (s.aa.take t.1)∧sq ⟨X,r.Words.n,c4⟩ t.2.2.2) (fun t=>r.aa.n-t.1) (0,none,0,[]) ⟨rfl,rfl,rfl,rfl,rfl,trivial⟩ ⟨by omega,su,hw,ax,ap,hX,hY,dt.nil _ _,sq.nil _⟩ ?_
  clear au ax ap hX hY hw lC;rintro ⟨k,A,c,zr⟩ w' ⟨hk,su,hw,ax,ap,hX,hY,hO,rI⟩
  simp only at hk ap hO rI ⊢;have hA:=hc.row.base;by_cases cc:k<r.aa.n
  ·have dm:=hc.each.get k (by omega) (by omega);have q:=hs.each _ (List.getElem_mem (show k<s.aa.length by omega));have q1:=dm.names.len;have q2:=dm.aL.len;have q3:=dm.bh.len;have q4:=q.names;have q5:=q.aL;have q6:=q.bh;have vj:=hO.row.lt_size;repeat' (first|refine Wz ?_|refine SW.st (aA hw rfl rfl ((hc.row.all cc))) rfl ?_)
   refine SW.alloc rfl fun b5 w1 ab gm bY => ?_
   skip;refine SW.aj bY rfl rfl rfl rfl (nr _) fun w2 fg hg => ?_
   have ai:=ab.own gm hg;have mh:w.heap.size≤b5:=Nat.le_trans hw.size gm
   replace hw:=Ext.trans hw ai;replace ax:=ax.ext ai;replace ap:=ap.ext ai;replace hX:=hX.ext ai;replace hY:=hY.ext ai;replace hO:=hO.ext ai;replace bY:=fg;clear fg ab hg ai;have zf:m2≤b5:=Nat.le_trans su gm
   refine Wz ?_;refine CW.any 10 mixed (bZ (by kernel_rfl)) rfl fun w1 ab bd => ?_
   replace hw:=Ext.trans hw ab;replace ax:=ax.ext ab;replace ap:=ap.ext ab;replace bY:=bY.ext ab;replace hX:=hX.ext ab;replace hY:=hY.ext ab;replace hO:=hO.ext ab;clear ab;refine Wa ?_;refine SA.one 2 rfl (by kernel_rfl) rfl ?_;refine SW.call rfl rfl (so _ _ _ _ _ (dm.names.ext hw) (by omega)) fun v w4 ai hv => ?_
   obtain ⟨N,n4,rfl,hN⟩:=hv;have Ak:=hO.Gx (b:=⟨N,cs[k].Names.n,n4⟩) hN.aN;replace hN:=hN.low (Nat.le_trans zf (Nat.le_of_lt bY.lt));(replace hw:=Ext.trans hw ai;replace ax:=ax.ext ai;replace ap:=ap.ext ai;replace bY:=bY.ext ai;replace hX:=hX.ext ai;replace hY:=hY.ext ai;replace hO:=hO.ext ai);refine SW.nil (ae.sa ai ?_);refine Wa ?_;refine SA.one 5 rfl (by kernel_rfl) rfl ?_;refine SW.call rfl rfl (qk _ _ _ _ _ (dm.aL.ext hw) (by omega)) fun v w4 ai hv => ?_
   obtain ⟨M,m4,rfl,hM⟩:=hv;have kY:=hO.Gy (b:=⟨M,cs[k].ah.n,m4⟩) hM.aN;replace hM:=hM.low (Nat.le_trans zf (Nat.le_of_lt bY.lt));(replace hw:=Ext.trans hw ai;replace ax:=ax.ext ai;replace ap:=ap.ext ai;replace bY:=bY.ext ai;replace hX:=hX.ext ai;replace hY:=hY.ext ai;replace hO:=hO.ext ai;replace hN:=hN.ext ai);refine SW.nil (ae.sa ai ?_);refine SA.one 8 rfl (by kernel_rfl) rfl ?_;refine SW.call rfl rfl (dC _ _ _ _ _ (dm.bh.ext hw) (by omega)) fun v w4 ai hv => ?_
   obtain ⟨Q,q7,rfl,hQ⟩:=hv;have pp:=hO.Gz (b:=⟨Q,cs[k].aG.n,q7⟩) hQ.aN;have zM:=iz (a:=⟨X,r.Words.n,c4⟩) (b:=⟨Q,cs[k].aG.n,q7⟩) hX hQ.aN;replace hQ:=hQ.low (Nat.le_trans zf (Nat.le_of_lt bY.lt));(replace hw:=Ext.trans hw ai;replace ax:=ax.ext ai;replace ap:=ap.ext ai;replace bY:=bY.ext ai;replace hX:=hX.ext ai;replace hY:=hY.ext ai;replace hO:=hO.ext ai;replace hN:=hN.ext ai;replace hM:=hM.ext ai);refine SW.nil (ae.sa ai ?_);refine SA.done (by kernel_rfl) ?_;refine SW.bT (i:=0) bY rfl rfl rfl rfl fun w6 fg hg => ?_
   have hG:=bY.gr hg;replace hw:=hw.own mh hg;replace hO:=hO.gd bY hg vj gm;(replace ax:=ax.aD hG rfl;replace ap:=ap.aD hG rfl;replace hX:=hX.aD hG rfl;replace hY:=hY.aD hG rfl;replace hN:=hN.aD hG rfl;replace hM:=hM.aD hG rfl;replace hQ:=hQ.aD hG rfl);replace bY:=fg;clear fg hg hG;refine Wz ?_;refine SW.bT (i:=4) bY rfl rfl rfl rfl fun w6 fg hg => ?_
   have hG:=bY.gr hg;replace hw:=hw.own mh hg;replace hO:=hO.gd bY hg vj gm;(replace ax:=ax.aD hG rfl;replace ap:=ap.aD hG rfl;replace hX:=hX.aD hG rfl;replace hY:=hY.aD hG rfl;replace hN:=hN.aD hG rfl;replace hM:=hM.aD hG rfl;replace hQ:=hQ.aD hG rfl);replace bY:=fg;clear fg hg hG;refine Wz ?_;refine SW.bT (i:=5) bY rfl rfl rfl rfl fun w6 fg hg => ?_
   have hG:=bY.gr hg;replace hw:=hw.own mh hg;replace hO:=hO.gd bY hg vj gm;(replace ax:=ax.aD hG rfl;replace ap:=ap.aD hG rfl;replace hX:=hX.aD hG rfl;replace hY:=hY.aD hG rfl;replace hN:=hN.aD hG rfl;replace hM:=hM.aD hG rfl;replace hQ:=hQ.aD hG rfl);replace bY:=fg;clear fg hg hG;refine Wz ?_;refine SW.bW rfl rfl rfl rfl rfl fun b w6 ai hb hB => ?_
   (replace hw:=Ext.trans hw ai;replace ax:=ax.ext ai;replace ap:=ap.ext ai;replace hX:=hX.ext ai;replace hY:=hY.ext ai;replace hO:=hO.ext ai;replace hN:=hN.ext ai;replace hM:=hM.ext ai;replace hQ:=hQ.ext ai);refine SW.append hO.row (aU.kf (enc:=bR) (x:=⟨⟨N,_,n4⟩,cs[k].bp,cs[k].dE,cs[k].Order,⟨M,_,m4⟩,⟨Q,_,q7⟩⟩) hB) (Nat.le_trans zf (Nat.le_trans (Nat.le_of_lt bY.lt) ai.size)) rfl rfl rfl (by simp only;omega) (by simp only;omega) fun A2 c2 w5 e8 hg => ?_
   have hG:=hO.row.gr hg;have Du:=Nat.le_trans (Nat.le_trans zf (Nat.le_trans (Nat.le_of_lt bY.lt) ai.size)) hg.size;replace hw:=aK hw hg (Nat.le_trans kC jo) hO.row.aN;(replace ax:=ax.aD hG rfl;replace ap:=ap.aD hG rfl;replace hX:=hX.aD hG rfl;replace hY:=hY.aD hG rfl;replace hN:=hN.aD hG rfl;replace hM:=hM.aD hG rfl;replace hQ:=hQ.aD hG rfl);have hE:=hO.each.mono fun _ _ h=>h.aD hG rfl
   refine Wz ?_;refine SW.bT (i:=6) ap rfl rfl rfl rfl fun w6 de hg => ?_
   have hG:=ap.gr hg;replace hw:=hw.own bO hg;replace ax:=ax.grown hg (by simpa using dw);(replace hX:=hX.aD hG rfl;replace hY:=hY.aD hG rfl;replace hN:=hN.aD hG rfl;replace hM:=hM.aD hG rfl;replace hQ:=hQ.aD hG rfl;replace e8:=e8.aD hG rfl);replace hE:=hE.mono fun _ _ h=>h.aD hG rfl
   refine Wz ?_;refine ae.again (k+1,A2,c2,zr++[⟨⟨N,_,n4⟩,cs[k].bp,cs[k].dE,cs[k].Order,⟨M,_,m4⟩,⟨Q,_,q7⟩⟩]) ⟨rfl,rfl,rfl,rfl,rfl,trivial⟩ (by simp only;omega) ⟨by simp only;omega,Nat.le_trans Du hg.size,hw,ax,de,hX,hY,⟨e8,?_⟩,rI.snoc (fun u hu=>⟨Ak u hu,kY u hu,pp u hu⟩) zM⟩;rw [List.take_succ_eq_append_getElem (by omega)];exact hE.snoc ⟨dm.size,dm.iM,dm.order,hN,hM,hQ⟩
  ·obtain rfl:k=r.aa.n:=by omega
   rw [List.take_of_length_le (by omega)] at hO;refine Wz ?_;refine SW.aj ax rfl rfl rfl rfl (cf _) fun w5 bV hg => ?_
   have hG:=ax.gr hg;replace hw:=hw.own oT hg;(replace hX:=hX.aD hG rfl;replace hY:=hY.aD hG rfl;replace hO:=hO.aD hG rfl);refine Wz ?_;exact ae.jY rfl rfl bV rfl ⟨_,rfl,hw,⟨_,G,_⟩,zr,rfl,⟨hX,hY.own.low kC,hO.row.low (Nat.le_trans kC jo),hO.each.mono fun _ _ h=>h.low (Nat.le_trans kC jo),rI.pair⟩,⟨m1,m2,kC,jo,vi,hY,hO.each⟩⟩
open Go.RowKit
set_option maxHeartbeats 2000000 in
theorem Ae (r:dF) (s:ar) (n:ByteArray) (cpu:Int) (w:World) (hr:lg w r s) (hf:s.iN) (GO:n.size≤140737488351232) :
 a9 Tryz.prog 99 [.agg (aH r).toArray,.string n,.int .i64 cpu] w (Ca w.heap.size s n cpu):=by
 refine aC Tryz.func99 rfl Tryz.ntmps99 rfl ?_;have hs:=hf.small;refine CW.seq (CW.region (SW.box rfl rfl fun b3 w1 hw bM ap => ?_));refine SW.alloc rfl fun b6 w3 jI eJ aB => ?_
 have cX:w.heap.size≤b6:=Nat.le_trans hw.size eJ
 (replace hw:=Ext.trans hw jI;replace ap:=ap.ext jI);obtain ⟨q,hq⟩ : ∃ q,eD s=q:=⟨_,rfl⟩
 have c1:∀ w',Ext w w'→a9 Tryz.prog 41 [.agg (aH r).toArray] w' fun v _=>v = .int .i64 (if q then 0 else 8):=fun w' hx=>by
  have:=lR r s w' (hr.ext hx) hf
  rwa [hq] at this
 cases q
 ·simp only [Bool.false_eq_true,if_false] at c1;repeat' (first|refine Wz ?_|(refine SW.call rfl rfl (c1 _ hw) ?_;intro v w1 ab hv;subst hv;replace hw:=Ext.trans hw ab;replace ap:=ap.ext ab;replace aB:=aB.ext ab;clear ab))
  refine SW.aj aB rfl rfl rfl rfl (cf .zero) fun w5 bV hg => ?_
  replace hw:=hw.own cX hg;refine Wz ?_;exact ae.vu rfl rfl rfl rfl bV rfl ⟨_,rfl,hw,.inl ⟨by rw [vd hq];decide,by rw [vd hq];rfl⟩⟩
 ·simp only [if_true] at c1;obtain ⟨t,ht⟩ : ∃ t,s.aa.any (dV n)=t:=⟨_,rfl⟩;obtain ⟨ix,tN⟩ : ∃ ix,idxOf (dV n) s.aa=ix:=⟨_,rfl⟩
  have c3:∀ w',Ext w w'→a9 Tryz.prog 136 [.agg (aH r).toArray,.string n] w' fun v _=>v = .tuple #[.int .i64 ix,.bool t]:=fun w' hx=>by
   have:=wW r s n w' (hr.ext hx) hs
   rwa [ht,tN] at this
  cases t
  ·repeat' (first|refine Wz ?_|(refine CW.cU rfl ?_)|((first|refine SW.call rfl rfl (c1 _ hw) ?_|refine SW.call rfl rfl (c3 _ hw) ?_);intro v w1 ab hv;subst hv;replace hw:=Ext.trans hw ab;replace ap:=ap.ext ab;replace aB:=aB.ext ab;clear ab))
   refine SW.aj aB rfl rfl rfl rfl (cf .zero) fun w5 bV hg => ?_
   replace hw:=hw.own cX hg;refine Wz ?_;exact ae.vu rfl rfl rfl rfl bV rfl ⟨_,rfl,hw,.inl ⟨by rw [ve hq ht];decide,by rw [ve hq ht];rfl⟩⟩
  ·have ku:=hr.heap.dc;by_cases hc : 0≤cpu∧cpu<s.Heap.bt
   ·repeat' (first|refine Wz ?_|(refine CW.cj rfl ?_)|((first|refine SW.call rfl rfl (c1 _ hw) ?_|refine SW.call rfl rfl (c3 _ hw) ?_);intro v w1 ab hv;subst hv;replace hw:=Ext.trans hw ab;replace ap:=ap.ext ab;replace aB:=aB.ext ab;clear ab))
    all_goals try omega
    refine SW.call rfl rfl (p5 r s _ (hr.ext hw) hs) fun v w6 ai hv => ?_
    obtain ⟨q,zr,rfl,hO,hI⟩:=hv;replace hO:=hO.low hw.size;replace hI:=hI.low hw.size;(replace hw:=Ext.trans hw ai;replace aB:=aB.ext ai);refine Wz ?_;refine SW.aj aB rfl rfl rfl rfl (cf q) fun w5 bV hg => ?_
    have hG:=aB.gr hg;replace hw:=hw.own cX hg;(replace hO:=hO.aD hG rfl;replace hI:=hI.aD hG rfl);refine Wz ?_;exact ae.vu rfl rfl rfl rfl bV rfl ⟨_,rfl,hw,.inr ⟨za hq ht hc,q,zr,by rw [tN];rfl,hO,hI⟩⟩
   ·rcases (show cpu<0∨(0≤cpu∧s.Heap.bt≤cpu) by omega) with g|g
    all_goals
     repeat' (first|refine Wz ?_|(refine CW.cj rfl ?_)|((first|refine SW.call rfl rfl (c1 _ hw) ?_|refine SW.call rfl rfl (c3 _ hw) ?_);intro v w1 ab hv;subst hv;replace hw:=Ext.trans hw ab;replace ap:=ap.ext ab;replace aB:=aB.ext ab;clear ab))
     all_goals try omega
     refine SW.aj aB rfl rfl rfl rfl (cf .zero) fun w5 bV hg => ?_
     replace hw:=hw.own cX hg;refine Wz ?_;exact ae.vu rfl rfl rfl rfl bV rfl ⟨_,rfl,hw,.inl ⟨by rw [vf hq ht hc];decide,by rw [vf hq ht hc];rfl⟩⟩
set_option maxHeartbeats 1000000 in
theorem sw (r:dF) (s:ar) (n:ByteArray) (cpu:Int) (w:World) (hr:lg w r s) (hf:s.iN) :
 a9 Tryz.prog 119 [.agg (aH r).toArray,.string n,.int .i64 cpu] w fun v _=>v = .int .i64 (j9 s n cpu):=by
 refine aC Tryz.func119 rfl Tryz.ntmps119 rfl ?_;have hs:=hf.small;refine CW.seq (CW.region (SW.box rfl rfl fun b3 w1 hw bM ap => ?_));obtain ⟨q,hq⟩ : ∃ q,eD s=q:=⟨_,rfl⟩
 have c1:∀ w',Ext w w'→a9 Tryz.prog 47 [.agg (aH r).toArray] w' fun v _=>v = .bool q:=fun w' hx=>by
  have:=pP r s w' (hr.ext hx) hf
  rwa [hq] at this
 cases q
 ·repeat' (first|refine Wz ?_|(refine CW.cU rfl ?_)|(refine SW.call rfl rfl (c1 _ hw) ?_;intro v w1 ab hv;subst hv;replace hw:=Ext.trans hw ab;replace ap:=ap.ext ab;clear ab))
  exact ae.aF rfl rfl ⟨_,rfl,hw,by rw [vd hq]⟩
 ·have hM:=(ga.1 hq).heap.dc;obtain ⟨ix,tN⟩ : ∃ ix,idxOf (dV n) s.aa=ix:=⟨_,rfl⟩;have qb:=fr (dV n) s.aa;rw [tN] at qb
  have c3:∀ w',Ext w w'→a9 Tryz.prog 118 [.agg (aH r).toArray,.string n] w' fun v _=>v = .int .i64 ix:=fun w' hx=>by
   have:=kE r s n w' (hr.ext hx) hs
   rwa [tN] at this
  have eC:=hr.heap.dc;by_cases DP : 0≤ix
  ·have ht:s.aa.any (dV n)=true:=by rw [← qb];exact decide_eq_true DP
   by_cases hc : 0≤cpu∧cpu<s.Heap.bt
   ·repeat' (first|refine Wz ?_|(refine CW.cj rfl ?_)|((first|refine SW.call rfl rfl (c1 _ hw) ?_|refine SW.call rfl rfl (c3 _ hw) ?_|refine SW.call rfl rfl (ca _ _ _ _) ?_);intro v w1 ab hv;subst hv;replace hw:=Ext.trans hw ab;replace ap:=ap.ext ab;clear ab))
    all_goals try omega
    exact ae.aF rfl rfl ⟨_,rfl,hw,by rw [za hq ht hc]⟩
   ·repeat' (first|refine Wz ?_|(refine CW.cj rfl ?_)|((first|refine SW.call rfl rfl (c1 _ hw) ?_|refine SW.call rfl rfl (c3 _ hw) ?_|refine SW.call rfl rfl (ca _ _ _ _) ?_);intro v w1 ab hv;subst hv;replace hw:=Ext.trans hw ab;replace ap:=ap.ext ab;clear ab))
    all_goals try omega
    exact ae.aF rfl rfl ⟨_,rfl,hw,by rw [vf hq ht hc]⟩
  ·have ht:s.aa.any (dV n)=false:=by rw [← qb];exact decide_eq_false DP
   repeat' (first|refine Wz ?_|(refine CW.cj rfl ?_)|((first|refine SW.call rfl rfl (c1 _ hw) ?_|refine SW.call rfl rfl (c3 _ hw) ?_);intro v w1 ab hv;subst hv;replace hw:=Ext.trans hw ab;replace ap:=ap.ext ab;clear ab))
   all_goals try omega
   exact ae.aF rfl rfl ⟨_,rfl,hw,by rw [ve hq ht]⟩
open Go.RowKit
theorem SW.jE {P:Program} {n:Nat} {ops:Array Oper} {Q:Exit→Act→World→Prop} {rest:List Oper} {L:Env} {w:World} {T:TypeId} {pos:String} {af:Array Edge} {t:TypeId} {k:Nat} [G:fR P t k] {b:Nat} {tb:TypeId} {cs vs:List Value} {x y:Operand} (o:Nat)
 (hB:aU w b tb cs) (hx:bG L x=some (.pointer (some ((⟨b,0,none⟩ : Addr).add o)))) (hy:bG L y=some (.agg vs.toArray)) (hl:vs.length=k) (hc:o+k≤cs.length) (h1:∀ v∈vs,v.oneCell'=true) (qw:List Value) (fK:cs.take o++vs++cs.drop (o+k)=qw)
 (h:∀ w',aU w' b tb qw→w.grownBy w' (some b)→SW P n ops (.eG Q) rest L w') : SW P n ops (.eG Q) (⟨none,.store t x y,T,pos,af,none⟩::rest) L w :=
 ⟨fun a ha=>by
  rw [c7] at hx;have og:=run_storeCells_at P b o tb vs 0 cs.toArray w hB (by simp only [List.size_toArray];omega) h1;simp only [Nat.add_zero,hl,fK] at og;simp only [swp,wpList,Region.wanted,if_true];refine .inl ?_;unfold Oper.wp
  have uU:(execOp a.eval ⟨none,.store t x y,T,pos,af,none⟩).run P w = .ok .skip (w.setRow b qw.toArray):=by
   simp [execOp,ha.eval hx,ha.eval hy,Instr.storeAt,Instr.sureAddr,storeVar,Value.cells,run_sizeOf G.size,hl,og]
  rw [uU,Oper.upon_skip];obtain ⟨nU,wq⟩:=dG (cs:=qw) hB;exact (h _ nU wq).out _ ha⟩
open Go.RowKit
structure Sh (wb w w':World) (b:Nat) (r:dF) (H:eu) (s:ar) (i:Nat) (p:Heap×aZ) (cs:List cr) : Prop where
 ext:Ext wb w'
 gd:aU w' b 44 (aH ⟨r.Words,H,r.aa⟩)
 sx:SX w' wb.heap.size ⟨r.Words,H,r.aa⟩ (ef s i p) cs
 kp:∀ j x,j≠b→aU w j 44 x→aU w' j 44 x
set_option maxHeartbeats 4000000 in
theorem tU (wb w0:World) (b:Nat) (r:dF) (s:ar) (cs:List cr) (i k:Nat) (p:Heap×aZ) (cpu:Int)
 (hx:Ext wb w0) (hb:aU w0 b 44 (aH r)) (Iw:wb.heap.size≤b) (hS:SX w0 wb.heap.size r (ef s i p) cs) (hi:i<s.aa.length) (hn:s.aa.length≤1000000) (hk:k<p.2.ah.length) (h1:zy p.1) (h2:xC p.2) :
 kt Tryz.prog 101 [.pointer (some ⟨b,0,none⟩),.int .i64 (i:Int),.int .i64 (k:Int),.int .i64 cpu] w0 fun v w'=>v = .tuple #[] ∧ ∃ H qw,Sh wb w0 w' b r H s i ((fv p.1 cpu p.2.ah[k].At).2,kW p.2 k) qw:=by
 refine fy Tryz.func101 rfl Tryz.ntmps101 rfl ?_;obtain ⟨e1,e2⟩:=hS.rows;have k9:i<cs.length:=by omega
 have cy:i<r.aa.n:=by omega
 have FF:=hS.row.sl.base;have hC:=hS.get k9 hi;have q1:=hC.aL.len;have q2:=h2.small.aL;have kR:k<cs[i].ah.n:=by omega
 have Cy:=hC.aL.sl.base;have nc:=h2.at_ _ (List.getElem_mem hk);obtain ⟨x,xj⟩ : ∃ x,p.2.ah[k]=x:=⟨_,rfl⟩;have gA:=hC.aL.sl.fE kR (j:=0) (show (bB (p.2.ah[k]'(by omega)))[0]?=some (Value.int .i64 x.At) by rw [xj];rfl);rw [xj] at nc ⊢;have hw:=Ext.refl w0;have Ix:∀ j x,j≠b→aU w0 j 44 x→aU w0 j 44 x:=fun _ _ _ h=>h
 refine Wz ?_;refine CW.qf 20 20 (fun _=>True) mixed (by kernel_rfl) fun w1 ab bd => ?_
 replace hw:=Ext.trans hw ab;replace hb:=hb.ext ab;replace hS:=hS.ext ab;clear ab;refine Wf ?_;refine SF.take 4 [] [] bd rfl (by kernel_rfl) (by kernel_rfl) (by kernel_rfl) ?_;repeat ((show SW _ _ _ _ (⟨_,Op.load _ _,_,_,_,none⟩::_) _ _;refine SW.st (aS rfl rfl ((eK hb))) rfl ?_))
 refine SW.aq ?_;refine Wf ?_;refine SF.take 9 [] [] bd rfl (by kernel_rfl) (by kernel_rfl) (by kernel_rfl) ?_;repeat ((show SW _ _ _ _ (⟨_,Op.load _ _,_,_,_,none⟩::_) _ _;refine SW.st (az rfl (hS.row.sl.fE cy (j:=4) (u := .slice cs[i].ah.A cs[i].ah.n cs[i].ah.c) rfl)) rfl ?_))
 refine SW.aq ?_;refine Wf ?_;refine SF.take 13 [] [] bd rfl (by kernel_rfl) (by kernel_rfl) (by kernel_rfl) ?_;repeat ((show SW _ _ _ _ (⟨_,Op.load _ _,_,_,_,none⟩::_) _ _;refine SW.st (ag hw rfl gA) rfl ?_))
 refine SW.aq ?_;refine SF.one 14 rfl (by kernel_rfl) rfl ?_;refine SW.call rfl rfl (tQ r.Heap p.1 cpu x.At _ hS.heap.rd h1.small h1.BO nc) fun v w4 ai hv => ?_
 obtain ⟨H,rfl,hH⟩:=hv;replace hH:=hH.low (Nat.le_trans hx.size hw.size);(replace hw:=Ext.trans hw ai;replace hb:=hb.ext ai;replace hS:=hS.ext ai);refine SW.nil (ae.sf ai ?_);refine Wf ?_;refine SF.xO 17 bd rfl (by kernel_rfl) (by kernel_rfl) rfl (fun _=>cK rfl) rfl ?_;refine Wf ?_;refine SF.last rfl (by kernel_rfl) (by kernel_rfl) ?_;refine SW.jE 1 hb rfl rfl rfl (Nat.le_of_ble_eq_true rfl) (cV H) (aH ⟨r.Words,H,r.aa⟩) rfl fun w5 bY hg => ?_
 have hG:=hb.gr hg;replace hx:=(hx.trans hw).own Iw hg;have FG:∀ j x,j≠b→aU w0 j 44 x→aU w5 j 44 x:=fun j x hj h=>(h.ext hw).grown hg (by simpa using hj)
 have FH:SX w5 wb.heap.size ⟨r.Words,H,r.aa⟩ (ef s i ((fv p.1 cpu x.At).2,p.2)) cs:=(hS.aD hG rfl).vg (hH.aD hG rfl)
 clear hw Ix hS hb hC gA;have hw:=Ext.refl w5;have hC:=FH.get k9 hi;repeat' (first|refine Wz ?_|refine SW.st (az rfl (FH.row.sl.fE cy (j:=4) (u := .slice cs[i].ah.A cs[i].ah.n cs[i].ah.c) rfl)) rfl ?_)
 refine SW.ie rfl rfl (pZ _ _ _ wb.heap.size _ _ hC.aL k kR (by omega) hx.size) fun v w6 hv => ?_
 obtain ⟨rfl,Iy,nR⟩:=hv;have qz:=hC.aL.gr nR;have GP:=FH.vO k9 hi Iy nR;have aB:=bY.aD qz rfl;replace hx:=aK hx nR (Nat.le_refl _) hC.aL.aN;have FI:∀ j x,j≠b→aU w0 j 44 x→aU w6 j 44 x:=fun j x hj h=>(FG j x hj h).aD qz rfl
 have ez:=GP.row;refine Wz ?_;refine SW.jh i 4 ⟨cs[i].Names,cs[i].bp,cs[i].dE,cs[i].Order,⟨cs[i].ah.A,cs[i].ah.n-1,cs[i].ah.c⟩,cs[i].aG⟩ ez rfl rfl rfl cy (by decide) rfl rfl fun w7 gi xo => ?_
 have AL:=ez.gr xo;have Cb:=GP.va gi xo;replace hx:=aK hx xo (Nat.le_refl _) ez.aN;refine Wz ?_;exact ae.wk rfl ⟨_,rfl,rfl,H,_,hx,aB.aD AL rfl,Cb,fun j x hj h=>(FI j x hj h).aD AL rfl⟩
open Go.RowKit
section
variable {P:Program} {n:Nat} {ops:Array Oper} {Q:Exit→Act→World→Prop} {fin dX f:Nat} {S2:World→Prop} {listed:Array Bool} {L:Env} {w:World}
theorem SF.two (i k:Nat) {o o':Oper} (hi:ops[i]?=some o) (hk:ops[k]?=some o') (hr:Region.ready .any ops listed=[i,k]) (hw:(!Nat.beq i dX && !Nat.beq i fin)=true) (p6:(!Nat.beq k dX && !Nat.beq k fin)=true)
 (h:SW P n ops (.eG (Ba P n ops Q fin dX S2 f (listed.setIfInBounds i true) w)) [o] L w) (h':SW P n ops (.eG (Ba P n ops Q fin dX S2 f (listed.setIfInBounds k true) w)) [o'] L w) : SF P n ops Q fin dX S2 (f+1) listed L w :=
 ⟨fun a ha inv=>⟨by rw [hr];simp,fun j hj=>by
  have ue:=hj;rw [hr] at ue;simp only [List.mem_cons,List.not_mem_nil,or_false] at ue;rcases ue with rfl|rfl
  ·obtain ⟨n1,n2⟩:=Bb hw;have cy:j<ops.size:=(Array.getElem?_eq_some_iff.1 hi).1
   refine ⟨cy,oR (Q1:=Ba P n ops Q fin dX S2 f (listed.setIfInBounds j true) w) hi (fun e a w ne h=>by cases e<;>first|exact h|exact absurd rfl ne) (fun h=>h) (fun a' w' hh=>⟨fun e=>absurd e n1,fun _ e=>absurd e n2,fun _ _=>⟨hh.1,kP f (fun AV A7=>Ext.trans hh.1 A7) _ _ _ (hh.2 (inv.set hj cy))⟩⟩) (h.out a ha)⟩
  ·obtain ⟨n1,n2⟩:=Bb p6;have cy:j<ops.size:=(Array.getElem?_eq_some_iff.1 hk).1
   refine ⟨cy,oR (Q1:=Ba P n ops Q fin dX S2 f (listed.setIfInBounds j true) w) hk (fun e a w ne h=>by cases e<;>first|exact h|exact absurd rfl ne) (fun h=>h) (fun a' w' hh=>⟨fun e=>absurd e n1,fun _ e=>absurd e n2,fun _ _=>⟨hh.1,kP f (fun AV A7=>Ext.trans hh.1 A7) _ _ _ (hh.2 (inv.set hj cy))⟩⟩) (h'.out a ha)⟩⟩⟩
end
open Go.RowKit
theorem lq {α:Type} {l:List α} {j k:Nat} (hj:j<l.length) (h:j≠k) : (l.take (j+1)).eraseIdx k=(l.take j).eraseIdx k++[l[j]]:=by
 rw [List.take_succ_eq_append_getElem hj];rcases Nat.lt_or_gt_of_ne h with g|g
 ·rw [List.eraseIdx_of_length_le (by simp;omega),List.eraseIdx_of_length_le (by simp;omega)]
 ·rw [List.eraseIdx_append_of_lt_length (by simp;omega)]
theorem lu {α:Type} {l:List α} {k:Nat} (hk:k<l.length) : (l.take (k+1)).eraseIdx k=(l.take k).eraseIdx k:=by
 have e:(l.take k).length=k:=by simp;omega
 have h1:(l.take k).eraseIdx k=l.take k:=List.eraseIdx_of_length_le (by omega)
 rw [h1,List.take_succ_eq_append_getElem hk,List.eraseIdx_append_of_length_le (by omega),e,Nat.sub_self];simp
set_option maxHeartbeats 4000000 in
theorem sy (wb w0:World) (r:dF) (s:ar) (cs:List cr) (i k:Nat) (p:Heap×aZ) (cpu:Int)
 (hx:Ext wb w0) (hS:SX w0 wb.heap.size r (ef s i p) cs) (hi:i<s.aa.length) (hn:s.aa.length≤1000000) (hk:k<p.2.ah.length) (h1:zy p.1) (h2:xC p.2) :
 kt Tryz.prog 121 [.agg (aH r).toArray,.int .i64 (i:Int),.int .i64 (k:Int),.int .i64 cpu] w0 fun v w' => ∃ H qw,v = .agg (aH ⟨r.Words,H,r.aa⟩).toArray∧Ext wb w'∧SX w' wb.heap.size ⟨r.Words,H,r.aa⟩ (ef s i ((fv p.1 cpu p.2.ah[k].At).2,kW p.2 k)) qw∧w0.grownBy w' (aX r.aa.A r.aa.c):=by
 refine fy Tryz.func121 rfl Tryz.ntmps121 rfl ?_;refine CW.seq (CW.region (SW.box rfl rfl fun b4 w1 hw iL bA => ?_));refine SW.alloc rfl fun b8 w3 jI jj bx => ?_
 have gK:w0.heap.size≤b8:=Nat.le_trans hw.size jj
 have AM:b4≠b8:=by have:=bA.lt;omega
 (replace hw:=Ext.trans hw jI;replace bA:=bA.ext jI);obtain ⟨e1,e2⟩:=hS.rows;have k9:i<cs.length:=by omega
 have cy:i<r.aa.n:=by omega
 have FF:=hS.row.sl.base;have hC:=hS.get k9 hi;have q1:=hC.aL.len;have q2:=h2.small.aL;have kR:k<cs[i].ah.n:=by omega
 have Cy:=hC.aL.sl.base;have nc:=h2.at_ _ (List.getElem_mem hk);obtain ⟨x,xj⟩ : ∃ x,p.2.ah[k]=x:=⟨_,rfl⟩;have gA:=hC.aL.sl.fE kR (j:=0) (show (bB (p.2.ah[k]'(by omega)))[0]?=some (Value.int .i64 x.At) by rw [xj];rfl);rw [xj] at nc ⊢;obtain ⟨u,hu⟩ : ∃ u,cs[i]=u:=⟨_,rfl⟩;have gS:=hS.row.sl.fE cy (j:=4) (show (bR cs[i])[4]?=some (Value.slice u.ah.A u.ah.n u.ah.c) by rw [hu];rfl);rw [hu] at hC q1 kR Cy gA;try simp only at hC q1
 have GQ:=hC.aL.sl;have Ji:=hS;replace hS:=hS.ext hw;refine Wz ?_;refine CW.qf 18 19 (fun _=>True) mixed (by kernel_rfl) fun w1 ab bd => ?_
 replace hw:=Ext.trans hw ab;replace bA:=bA.ext ab;replace bx:=bx.ext ab;replace hS:=hS.ext ab;clear ab;refine Wf ?_;refine SF.take 1 [] [] bd rfl (by kernel_rfl) (by kernel_rfl) (by kernel_rfl) ?_;repeat ((show SW _ _ _ _ (⟨_,Op.load _ _,_,_,_,none⟩::_) _ _;refine SW.st (aS rfl rfl ((eK bA))) rfl ?_))
 refine SW.aq ?_;refine Wf ?_;refine SF.take 8 [] [] bd rfl (by kernel_rfl) (by kernel_rfl) (by kernel_rfl) ?_;repeat ((show SW _ _ _ _ (⟨_,Op.load _ _,_,_,_,none⟩::_) _ _;refine SW.st (ag hw rfl gS) rfl ?_))
 refine SW.aq ?_;refine Wf ?_;refine SF.take 12 [] [] bd rfl (by kernel_rfl) (by kernel_rfl) (by kernel_rfl) ?_;repeat ((show SW _ _ _ _ (⟨_,Op.load _ _,_,_,_,none⟩::_) _ _;refine SW.st (ag hw rfl gA) rfl ?_))
 refine SW.aq ?_;refine SF.two 13 17 rfl rfl (by kernel_rfl) rfl rfl ?_ ?_
 ·refine SW.call rfl rfl (jU r.Heap p.1 cpu x.At _ hS.heap.rd h1.small h1.BO nc) fun v w4 ai hv => ?_
  obtain ⟨H,rfl,hH⟩:=hv;replace hH:=hH.low hw.size;(replace hw:=Ext.trans hw ai;replace bA:=bA.ext ai;replace bx:=bx.ext ai;replace hS:=hS.ext ai);try replace cn:=cn.ext ai
  refine SW.nil (ae.sf ai ?_);refine Wf ?_;refine SF.js 16 [] bd rfl (by kernel_rfl) (by kernel_rfl) (by kernel_rfl) (cK rfl) (fun w2 hS=>cK rfl) rfl ?_;refine SF.one 17 rfl (by kernel_rfl) rfl ?_;refine SW.alloc rfl fun b9 w4 ai jl cn => ?_
  have mz:w0.heap.size≤b9:=Nat.le_trans hw.size jl
  try replace hH:=hH.ext ai
  (replace hw:=Ext.trans hw ai;replace bA:=bA.ext ai;replace bx:=bx.ext ai;replace hS:=hS.ext ai);refine SW.nil (ae.sf ai ?_);refine SF.turn rfl (by kernel_rfl) rfl ?_;refine SW.aj cn rfl rfl rfl rfl (cV H) fun w5 fu hg => ?_
  have hG:=cn.gr hg;replace hw:=hw.own mz hg;(replace bA:=bA.aD hG rfl;replace bx:=bx.aD hG rfl;replace hH:=hH.aD hG rfl;replace hS:=hS.aD hG rfl);replace cn:=fu;clear fu hg hG;have DQ:=hS;have hS:True:=trivial
  refine SW.nil (ae.sg hS ?_);refine SG.last rfl (by kernel_rfl) (by kernel_rfl) ?_;replace hS:=DQ;clear DQ;refine Wz ?_;refine SW.jE 1 bA rfl rfl rfl (Nat.le_of_ble_eq_true rfl) (cV H) (aH ⟨r.Words,H,r.aa⟩) rfl fun w6 jn hg => ?_
  have hG:=bA.gr hg;replace bx:=bx.grown hg (by simpa using AM.symm);replace hw:=hw.own iL hg;replace hH:=hH.aD hG rfl;replace hS:=hS.aD hG rfl;replace bA:=jn;clear jn hg hG;refine Wz ?_;have vP:Ext w0 w6:=hw
  refine CW.loop (fun t:Nat×Nat×Option Addr×Nat=>[(1,.int .i64 (i:Int)),(2,.int .i64 (k:Int)),(4,.pointer (some ⟨b4,0,none⟩)),(8,.pointer (some ⟨b8,0,none⟩)),(11,.slice t.2.2.1 t.2.1 t.2.2.2),(12,.int .i64 (t.1:Int))])
   (fun t w'=>t.1≤u.ah.n∧t.2.1≤t.1∧Ext w6 w'∧Own w' w6.heap.size 91 3 bB t.2.2.1 t.2.1 t.2.2.2 ((p.2.ah.take t.1).eraseIdx k)) (fun t=>u.ah.n-t.1) (0,0,none,0) ⟨rfl,rfl,rfl,rfl,rfl,rfl,trivial⟩ ⟨Nat.zero_le _,Nat.zero_le _,Ext.refl _,by simpa using Own.er _ _ _ _ _ _⟩ ?_
  clear hw;rintro ⟨j,m,A,c⟩ w7 ⟨hj,hm,hw,hL⟩
  simp only at hj hm hL ⊢;have gC:=bA.cell (i:=6) (v := .slice r.aa.A r.aa.n r.aa.c) rfl;have Cc:=vP.cell gS;have Cd:=GQ.ext vP;by_cases fF:j<u.ah.n
  ·have jq:j<p.2.ah.length:=by omega
   by_cases iB:j=k
   ·subst iB;repeat' (first|refine Wz ?_|refine SW.st (ag hw rfl gC) rfl ?_|refine SW.st (ag hw rfl Cc) rfl ?_)
    refine ae.again (j+1,m,A,c) ⟨rfl,rfl,rfl,rfl,rfl,rfl,trivial⟩ (by simp only;omega) ⟨by simp only;omega,by simp only;omega,hw,?_⟩;simp only;rw [lu jq];exact hL
   ·repeat' (first|refine Wz ?_|refine SW.st (ag hw rfl gC) rfl ?_|refine SW.st (ag hw rfl Cc) rfl ?_|refine SW.st (aA hw rfl rfl ((Cd.all fF))) rfl ?_)
    refine SW.bW rfl rfl rfl rfl rfl fun b w8 ai hb Ad => ?_
    (replace hw:=Ext.trans hw ai;replace hL:=hL.ext ai);refine SW.append hL (aU.kf (enc:=bB) Ad) hw.size rfl rfl rfl (by omega) (by omega) fun A2 c2 w9 e8 hg => ?_
    replace hw:=aK hw hg (Nat.le_refl _) hL.aN;refine Wz ?_;refine ae.again (j+1,m+1,A2,c2) ⟨rfl,rfl,rfl,rfl,rfl,rfl,trivial⟩ (by simp only;omega) ⟨by simp only;omega,by simp only;omega,hw,?_⟩;simp only;rw [lq jq iB];exact e8
  ·obtain rfl:j=u.ah.n:=by omega
   rw [List.take_of_length_le (by omega)] at hL;repeat' (first|refine Wz ?_|refine SW.st (ag hw rfl gC) rfl ?_|refine SW.st (ag hw rfl Cc) rfl ?_)
   have Cb:=(hS.vg (hH.low hx.size)).pX (Nat.le_trans hx.size vP.size) k9 hi hw hL;have ez:=Cb.row;have jn:=bA.ext hw;have fY:=bx.ext hw;refine SW.jh i 4 ⟨cs[i].Names,cs[i].bp,cs[i].dE,cs[i].Order,⟨A,m,c⟩,cs[i].aG⟩ ez rfl rfl rfl cy (by decide) rfl rfl fun Cz gi xo => ?_
   have AL:=ez.gr xo;have FJ:=Cb.va gi xo;have nv:=(vP.trans hw).gr (aX r.aa.A r.aa.c);have Ce:=bi nv xo (.inl rfl);(replace jn:=jn.aD AL rfl;replace fY:=fY.aD AL rfl);refine Wz ?_;refine SW.aj fY rfl rfl rfl rfl (cf ⟨r.Words,H,r.aa⟩) fun DR bV hg => ?_
   have hG:=fY.gr hg;refine Wz ?_;refine ae.jY rfl rfl bV rfl ⟨_,rfl,H,_,rfl,?_,FJ.aD hG rfl,?_⟩
   ·exact (aK (hx.trans (vP.trans hw)) xo (Nat.le_refl _) ez.aN).own (Nat.le_trans hx.size gK) hg
   ·exact bi Ce hg (.inr fun i e=>by cases e;exact gK)
 ·refine SW.alloc rfl fun b9 w4 ai jl cn => ?_
  have mz:w0.heap.size≤b9:=Nat.le_trans hw.size jl
  try replace hH:=hH.ext ai
  (replace hw:=Ext.trans hw ai;replace bA:=bA.ext ai;replace bx:=bx.ext ai;replace hS:=hS.ext ai);refine SW.nil (ae.sf ai ?_);refine SF.one 13 rfl (by kernel_rfl) rfl ?_;refine SW.call rfl rfl (jU r.Heap p.1 cpu x.At _ hS.heap.rd h1.small h1.BO nc) fun v w4 ai hv => ?_
  obtain ⟨H,rfl,hH⟩:=hv;replace hH:=hH.low hw.size;(replace hw:=Ext.trans hw ai;replace bA:=bA.ext ai;replace bx:=bx.ext ai;replace hS:=hS.ext ai);try replace cn:=cn.ext ai
  refine SW.nil (ae.sf ai ?_);refine Wf ?_;refine SF.js 16 [] bd rfl (by kernel_rfl) (by kernel_rfl) (by kernel_rfl) (cK rfl) (fun w2 hS=>cK rfl) rfl ?_;refine SF.turn rfl (by kernel_rfl) rfl ?_;refine SW.aj cn rfl rfl rfl rfl (cV H) fun w5 fu hg => ?_
  have hG:=cn.gr hg;replace hw:=hw.own mz hg;(replace bA:=bA.aD hG rfl;replace bx:=bx.aD hG rfl;replace hH:=hH.aD hG rfl;replace hS:=hS.aD hG rfl);replace cn:=fu;clear fu hg hG;have DQ:=hS;have hS:True:=trivial
  refine SW.nil (ae.sg hS ?_);refine SG.last rfl (by kernel_rfl) (by kernel_rfl) ?_;replace hS:=DQ;clear DQ;refine Wz ?_;refine SW.jE 1 bA rfl rfl rfl (Nat.le_of_ble_eq_true rfl) (cV H) (aH ⟨r.Words,H,r.aa⟩) rfl fun w6 jn hg => ?_
  have hG:=bA.gr hg;replace bx:=bx.grown hg (by simpa using AM.symm);replace hw:=hw.own iL hg;replace hH:=hH.aD hG rfl;replace hS:=hS.aD hG rfl;replace bA:=jn;clear jn hg hG;refine Wz ?_;have vP:Ext w0 w6:=hw
  refine CW.loop (fun t:Nat×Nat×Option Addr×Nat=>[(1,.int .i64 (i:Int)),(2,.int .i64 (k:Int)),(4,.pointer (some ⟨b4,0,none⟩)),(8,.pointer (some ⟨b8,0,none⟩)),(11,.slice t.2.2.1 t.2.1 t.2.2.2),(12,.int .i64 (t.1:Int))])
   (fun t w'=>t.1≤u.ah.n∧t.2.1≤t.1∧Ext w6 w'∧Own w' w6.heap.size 91 3 bB t.2.2.1 t.2.1 t.2.2.2 ((p.2.ah.take t.1).eraseIdx k)) (fun t=>u.ah.n-t.1) (0,0,none,0) ⟨rfl,rfl,rfl,rfl,rfl,rfl,trivial⟩ ⟨Nat.zero_le _,Nat.zero_le _,Ext.refl _,by simpa using Own.er _ _ _ _ _ _⟩ ?_
  clear hw;rintro ⟨j,m,A,c⟩ w7 ⟨hj,hm,hw,hL⟩
  simp only at hj hm hL ⊢;have gC:=bA.cell (i:=6) (v := .slice r.aa.A r.aa.n r.aa.c) rfl;have Cc:=vP.cell gS;have Cd:=GQ.ext vP;by_cases fF:j<u.ah.n
  ·have jq:j<p.2.ah.length:=by omega
   by_cases iB:j=k
   ·subst iB;repeat' (first|refine Wz ?_|refine SW.st (ag hw rfl gC) rfl ?_|refine SW.st (ag hw rfl Cc) rfl ?_)
    refine ae.again (j+1,m,A,c) ⟨rfl,rfl,rfl,rfl,rfl,rfl,trivial⟩ (by simp only;omega) ⟨by simp only;omega,by simp only;omega,hw,?_⟩;simp only;rw [lu jq];exact hL
   ·repeat' (first|refine Wz ?_|refine SW.st (ag hw rfl gC) rfl ?_|refine SW.st (ag hw rfl Cc) rfl ?_|refine SW.st (aA hw rfl rfl ((Cd.all fF))) rfl ?_)
    refine SW.bW rfl rfl rfl rfl rfl fun b w8 ai hb Ad => ?_
    (replace hw:=Ext.trans hw ai;replace hL:=hL.ext ai);refine SW.append hL (aU.kf (enc:=bB) Ad) hw.size rfl rfl rfl (by omega) (by omega) fun A2 c2 w9 e8 hg => ?_
    replace hw:=aK hw hg (Nat.le_refl _) hL.aN;refine Wz ?_;refine ae.again (j+1,m+1,A2,c2) ⟨rfl,rfl,rfl,rfl,rfl,rfl,trivial⟩ (by simp only;omega) ⟨by simp only;omega,by simp only;omega,hw,?_⟩;simp only;rw [lq jq iB];exact e8
  ·obtain rfl:j=u.ah.n:=by omega
   rw [List.take_of_length_le (by omega)] at hL;repeat' (first|refine Wz ?_|refine SW.st (ag hw rfl gC) rfl ?_|refine SW.st (ag hw rfl Cc) rfl ?_)
   have Cb:=(hS.vg (hH.low hx.size)).pX (Nat.le_trans hx.size vP.size) k9 hi hw hL;have ez:=Cb.row;have jn:=bA.ext hw;have fY:=bx.ext hw;refine SW.jh i 4 ⟨cs[i].Names,cs[i].bp,cs[i].dE,cs[i].Order,⟨A,m,c⟩,cs[i].aG⟩ ez rfl rfl rfl cy (by decide) rfl rfl fun Cz gi xo => ?_
   have AL:=ez.gr xo;have FJ:=Cb.va gi xo;have nv:=(vP.trans hw).gr (aX r.aa.A r.aa.c);have Ce:=bi nv xo (.inl rfl);(replace jn:=jn.aD AL rfl;replace fY:=fY.aD AL rfl);refine Wz ?_;refine SW.aj fY rfl rfl rfl rfl (cf ⟨r.Words,H,r.aa⟩) fun DR bV hg => ?_
   have hG:=fY.gr hg;refine Wz ?_;refine ae.jY rfl rfl bV rfl ⟨_,rfl,H,_,rfl,?_,FJ.aD hG rfl,?_⟩
   ·exact (aK (hx.trans (vP.trans hw)) xo (Nat.le_refl _) ez.aN).own (Nat.le_trans hx.size gK) hg
   ·exact bi Ce hg (.inr fun i e=>by cases e;exact gK)
open Go.RowKit
theorem ru (u:cr) (c:aZ) (t:Int) (w:World) (hr:sD w u c) (hn:u.aG.n≤9223372036854775807) :
 a9 Tryz.prog 120 [.agg (bR u).toArray,.int .i64 t] w fun v _=>v = .bool (decide (t∈c.aG)):=by
 refine aC Tryz.func120 rfl Tryz.ntmps120 rfl ?_;refine CW.seq (CW.region (SW.box rfl rfl fun b2 w1 hw ff ax => ?_));have hA:=hr.bh.base;have lz:=hr.bh.len;have hl:=hr.bh;refine Wz ?_
 refine CW.loop (fun k:Nat=>[(1,.int .i64 t),(2,.pointer (some ⟨b2,0,none⟩)),(5,.int .i64 (k:Int))]) (fun k w'=>k≤u.aG.n∧Ext w w'∧aU w' b2 89 (bR u) ∧ ∀ (i:Nat) (h:i<c.aG.length),i<k→c.aG[i]≠t)
  (fun k=>u.aG.n-k) 0 ⟨rfl,rfl,rfl,trivial⟩ ⟨by omega,hw,ax,fun i h hi=>by omega⟩ ?_
 clear hw ax;rintro k w' ⟨hk,hw,ax,hI⟩
 by_cases cc:k<u.aG.n
 ·have cG:k<c.aG.length:=by omega
  by_cases hx:c.aG[k]=t
  ·repeat' (first|refine Wz ?_|refine SW.st (ag hw rfl (hl.one cc (congrArg bm (rfl:c.aG[k]=c.aG[k])))) rfl ?_)
   all_goals try omega
   exact ae.aF rfl rfl ⟨_,rfl,hw,by rw [decide_eq_true (hx ▸ List.getElem_mem cG)]⟩
  ·repeat' (first|refine Wz ?_|refine SW.st (ag hw rfl (hl.one cc (congrArg bm (rfl:c.aG[k]=c.aG[k])))) rfl ?_)
   all_goals try omega
   refine ae.again (k+1) ⟨rfl,rfl,rfl,trivial⟩ (by omega) ⟨by omega,hw,ax,fun i h' hi => ?_⟩;by_cases vx:i=k
   ·subst vx;exact hx
   ·exact hI i h' (by omega)
 ·refine Wz ?_;refine ae.aF rfl rfl ⟨_,rfl,hw,?_⟩;rw [decide_eq_false];intro hm;obtain ⟨i,hi,e⟩:=List.getElem_of_mem hm;exact hI i hi (by omega) e
open Go.RowKit
theorem tV (u:cr) (c:aZ) (x:Slab) (w:World) (hr:sD w u c) (hn:u.aG.n≤9223372036854775807) :
 a9 Tryz.prog 100 [.agg (bR u).toArray,.agg (bB x).toArray] w fun v _=>v = .bool (fi c x):=by
 refine aC Tryz.func100 rfl Tryz.ntmps100 rfl ?_;refine CW.seq (CW.region (SW.box rfl rfl fun b2 w1 hw ff ax => ?_));refine SW.box rfl rfl fun b3 w3 jI bM ap => ?_
 (replace hw:=Ext.trans hw jI;replace ax:=ax.ext jI);obtain ⟨q,hq⟩ : ∃ q,decide (x.At∈c.aG)=q:=⟨_,rfl⟩
 have cC:∀ w',Ext w w'→a9 Tryz.prog 95 [.slice u.aG.A u.aG.n u.aG.c,.int .i64 x.At] w' fun v _=>v = .bool q:=fun w' hx=>by
  have:=eA _ _ u.aG.c _ x.At _ (hr.bh.ext hx) hn
  rwa [hq] at this
 have FK:=hr.iM;by_cases hf:x.ao=c.dE
 ·repeat' (first|refine Wz ?_|(refine SW.call rfl rfl (cC _ hw) ?_;intro v w1 ab hv;subst hv;replace hw:=Ext.trans hw ab;replace ax:=ax.ext ab;replace ap:=ap.ext ab;clear ab))
  all_goals try omega
  exact ae.aF rfl rfl ⟨_,rfl,hw,by unfold fi;rw [hq,decide_eq_true hf];simp⟩
 ·refine Wz ?_;all_goals try omega
  exact ae.aF rfl rfl ⟨_,rfl,hw,by unfold fi;rw [decide_eq_false hf];simp⟩
theorem mL.vQ {w w':World} {lo:Nat} {r:dF} {s:ar} {cs:List cr} {i:Nat} {p:Heap×aZ} {l':List Slab} (h:SX w lo r (ef s i p) cs) (hi:i<cs.length) (oh:i<s.aa.length) (hO:Own w' lo 91 3 bB cs[i].ah.A cs[i].ah.n cs[i].ah.c l') (hg:w.grownBy w' (aX cs[i].ah.A cs[i].ah.c)) :
 SX w' lo r (ef s i (p.1,⟨p.2.Names,p.2.bp,p.2.dE,p.2.Order,l',p.2.aG⟩)) cs:=by
 have:=h.vO hi oh hO hg
 have e:cs.set i ⟨cs[i].Names,cs[i].bp,cs[i].dE,cs[i].Order,⟨cs[i].ah.A,cs[i].ah.n,cs[i].ah.c⟩,cs[i].aG⟩=cs:=List.set_getElem_self hi
 rwa [e] at this
theorem nQ {α:Type} (p : α → Bool) (l:List α) (k:Nat) (hk:k<l.length) : (l.take (k+1)).countP p=(l.take k).countP p+(if p l[k] then 1 else 0):=by
 rw [List.take_succ_eq_append_getElem hk,List.countP_append,List.countP_singleton]
theorem sA {s:ar} {c:aZ} {k:Nat} {x:Slab} {cpu a:Int} (h:fi (ka c k x a) ⟨x.At,x.ao+1,a⟩=false) : oc s c k x cpu a=(s.Heap,ka c k x a):=by unfold oc;rw [h];simp
theorem tW {s:ar} {c:aZ} {k:Nat} {x:Slab} {cpu a:Int} (h : ¬ 1<(ka c k x a).ah.countP (fi (ka c k x a))) : oc s c k x cpu a=(s.Heap,ka c k x a):=by unfold oc;rw [decide_eq_false h];simp
theorem tX {s:ar} {c:aZ} {k:Nat} {x:Slab} {cpu a:Int} (h:fi (ka c k x a) ⟨x.At,x.ao+1,a⟩=true) (h1 : 1<(ka c k x a).ah.countP (fi (ka c k x a))) : oc s c k x cpu a=((fv s.Heap cpu x.At).2,kW (ka c k x a) k):=by unfold oc;rw [h,decide_eq_true h1];simp
set_option maxHeartbeats 8000000 in
theorem sB (r:dF) (s:ar) (n:ByteArray) (cpu a:Int) (w:World) (hr:lg w r s) (hf:s.iN) (GO:n.size≤140737488351232) (ha : -9223372036854775808≤a∧a≤9223372036854775807) :
 a9 Tryz.prog 44 [.agg (aH r).toArray,.string n,.int .i64 cpu,.int .i64 a] w fun v w' => ∃ u,kH s n cpu a u∧fl w.heap.size u v w':=by
 refine aC Tryz.func44 rfl Tryz.ntmps44 rfl ?_;refine CW.seq (CW.region (SW.box rfl rfl fun b4 w1 hw iL bA => ?_));refine SW.alloc rfl fun b8 w3 jI jj bx => ?_
 have gK:w.heap.size≤b8:=Nat.le_trans hw.size jj
 have cQ:b8≠b4:=by have:=bA.lt;omega
 (replace hw:=Ext.trans hw jI;replace bA:=bA.ext jI);refine Wz ?_;refine SW.call rfl rfl (Ae r s n cpu _ (hr.ext hw) hf GO) fun v w4 ai hv => ?_
 have ub:=hw.size;(replace hw:=Ext.trans hw ai;replace bA:=bA.ext ai;replace bx:=bx.ext ai);rcases hv with ⟨he,rfl⟩|⟨he,q,cs,rfl,hO,hI⟩
 ·obtain ⟨e,hE⟩ : ∃ e,j9 s n cpu=e:=⟨_,rfl⟩;have hP:=kH.ask (a:=a) he;rw [hE] at he hP;rw [hE];refine Wz ?_;refine SW.aj bA rfl rfl rfl rfl (cf .zero) fun w5 jn hg => ?_
  replace bx:=bx.grown hg (by simpa using cQ);replace hw:=hw.own iL hg;refine Wz ?_;all_goals try omega
  refine SW.aj bx rfl rfl rfl rfl (cf .zero) fun w6 bV hg => ?_
  replace hw:=hw.own gK hg;refine Wz ?_;exact ae.bQ rfl rfl rfl bV rfl ⟨_,rfl,hw,_,hP,fl.zero e _ _⟩
 ·replace hO:=hO.low ub;replace hI:=hI.low ub;obtain ⟨ix,tN⟩ : ∃ ix,idxOf (dV n) s.aa=ix:=⟨_,rfl⟩;rw [tN];refine Wz ?_;refine SW.aj bA rfl rfl rfl rfl (cf q) fun w5 jn hg => ?_
  have hG:=bA.gr hg;replace bx:=bx.grown hg (by simpa using cQ);replace hw:=hw.own iL hg;(replace hO:=hO.aD hG rfl;replace hI:=hI.aD hG rfl);replace bA:=jn;clear jn hG hg;refine Wz ?_;refine SW.call rfl rfl (tL q s a _ hO.pV.rd hf ha) fun v w6 ai hv => ?_
  obtain ⟨⟨j,k,e⟩,hF,rfl⟩:=hv;(replace hw:=Ext.trans hw ai;replace bA:=bA.ext ai;replace bx:=bx.ext ai;replace hO:=hO.ext ai;replace hI:=hI.ext ai);simp only [pS];by_cases hh:e=0∧j=ix
  ·obtain ⟨rfl,rfl⟩:=hh;have Cu:=hF;obtain ⟨i,k',rfl,rfl,hq,hA,BC⟩:=hF.AK;have hi:=hA.hi;have hk:=hA.hk;have hM:=ga.1 hq;have nc:=zb hM hA;have hP:=kH.put he Cu tN hi hk;have hm:=hM.most;obtain ⟨an,rfl⟩:=Int.eq_ofNat_of_zero_le nc.1;have C5:=hM.words;have e0:=lU hi;have h1:=hf.mg;have h2:=hf.FC hi;obtain ⟨x,hx⟩ : ∃ x,s.aa[i].ah[k']=x:=⟨_,rfl⟩;have lA:=h2.put hk (an:Int);rw [hx] at BC hP lA;have e8:=hO;have Iz:=hO.words.len;obtain ⟨e1,e2⟩:=hO.len;have k9:i<cs.length:=by omega
   have cy:i<q.aa.n:=by omega
   have FF:=hO.row.sl.base;have IA:=hO.words.sl.base;have hC:=hO.each.get i k9 hi;have q1:=hC.aL.len;have q2:=h2.small.aL;have q3:=hC.bh.len;have q4:=h2.small.bh;have kR:k'<cs[i].ah.n:=by omega
   have Cy:=hC.aL.sl.base;have gX:∀ w',SX w' w.heap.size q s cs→w'.cell? ((((cs[i].ah.A).getD default).add (k'*3)).add 2)=some (Value.int .i64 x.lf):=fun w' h=>(h.each.get i k9 hi).aL.sl.fE kR (j:=2) (show (bB (s.aa[i].ah[k']'(by omega)))[2]?=some (Value.int .i64 x.lf) by rw [hx];rfl)
   repeat' (first|refine Wz ?_|refine SW.st (az rfl (hO.row.sl.fE cy (j:=4) (u := .slice cs[i].ah.A cs[i].ah.n cs[i].ah.c) rfl)) rfl ?_)
   refine CW.qf 8 8 (fun _=>True) mixed (by kernel_rfl) fun w1 ab bd => ?_
   replace hw:=Ext.trans hw ab;replace bA:=bA.ext ab;replace bx:=bx.ext ab;replace hO:=hO.ext ab;replace hI:=hI.ext ab;clear ab;refine Wf ?_;refine SF.take 6 [] [] bd rfl (by kernel_rfl) (by kernel_rfl) (by kernel_rfl) ?_;repeat ((show SW _ _ _ _ (⟨_,Op.load _ _,_,_,_,none⟩::_) _ _;refine SW.st (az rfl (gX _ hO)) rfl ?_))
   refine SW.aq ?_;refine Wf ?_;refine SF.last rfl (by kernel_rfl) (by kernel_rfl) ?_;refine SW.uv an hO.words rfl rfl (by omega) fun w7 DS hg => ?_
   have hG:=hO.words.gr hg;have hS:=hO.tP hI DS hg;replace hw:=aK hw hg (Nat.le_refl _) hO.words.aN;(replace bA:=bA.aD hG rfl;replace bx:=bx.aD hG rfl);obtain ⟨s1,kY⟩ : ∃ s1:ar,vh s x (an:Int)=s1:=⟨_,rfl⟩;have e4:(⟨s.Words.set an x.lf,s.Heap,s.aa⟩ : ar)=s1:=by rw [← kY];simp [vh]
   rw [e4] at hS;have vk:s1.aa=s.aa:=by rw [← e4]
   have Cf:s1.Heap=s.Heap:=by rw [← e4]
   have p8:i<s1.aa.length:=by rw [vk];exact hi
   have FL:s1.aa[i]=s.aa[i]:=by simp [vk]
   have e5:=lU p8;rw [FL,Cf] at e5;rw [← e5] at hS;replace hC:=hS.get k9 p8;simp only at hC;refine Wz ?_;refine SW.jh k' 2 ⟨x.At,x.ao,(an:Int)⟩ hC.aL rfl rfl rfl kR (by decide) rfl (by simp only [hx];rfl) fun w8 FM GR => ?_
   have g8:=FM.sl.fE kR (j:=1) (show (bB ((s.aa[i].ah.set k' ⟨x.At,x.ao,(an:Int)⟩)[k']'(by rw [List.length_set];exact hk)))[1]?=some (Value.int .i64 x.ao) by rw [List.getElem_set_self];rfl);repeat' (first|refine Wz ?_|refine SW.st (az rfl g8) rfl ?_)
   refine SW.jh k' 1 ⟨x.At,x.ao+1,(an:Int)⟩ FM rfl rfl rfl kR (by decide) rfl (by simp only [List.getElem_set_self];rfl) fun w9 CA AN => ?_
   have nv:=bi GR AN (.inl rfl);rw [List.set_set] at CA;have Cg:=hC.aL.gr nv;have eg:=hS.vQ k9 p8 CA nv;replace hw:=aK hw nv (Nat.le_refl _) hC.aL.aN;(replace bA:=bA.aD Cg rfl;replace bx:=bx.aD Cg rfl);obtain ⟨c1,qE⟩ : ∃ c1,ka s.aa[i] k' x (an:Int)=c1:=⟨_,rfl⟩;have e6:(⟨s.aa[i].Names,s.aa[i].bp,s.aa[i].dE,s.aa[i].Order,s.aa[i].ah.set k' ⟨x.At,x.ao+1,(an:Int)⟩,s.aa[i].aG⟩ : aZ)=c1:=qE
   simp only at eg;rw [e6] at eg;have zn:c1.ah=s.aa[i].ah.set k' ⟨x.At,x.ao+1,(an:Int)⟩:=by rw [← e6]
   have BD:k'<c1.ah.length:=by rw [zn,List.length_set];exact hk
   have xj:c1.ah[k']=⟨x.At,x.ao+1,(an:Int)⟩:=by simp [zn]
   have vG:c1.ah.length=cs[i].ah.n:=by rw [zn,List.length_set];exact hC.aL.len
   rw [qE] at lA;clear hC hS FM CA GR AN nv hO hI e8 DS gX g8 hg hG Cg e6;have hC:=eg.get k9 p8;have Cy:=hC.aL.sl.base;simp only at hC;obtain ⟨t,ht⟩ : ∃ t,fi c1 ⟨x.At,x.ao+1,(an:Int)⟩=t:=⟨_,rfl⟩
   have cI:∀ w',Ext w9 w'→a9 Tryz.prog 100 [.agg (bR cs[i]).toArray,.agg (bB ⟨x.At,x.ao+1,(an:Int)⟩).toArray] w' fun v _=>v = .bool t:=fun w' hx=>by
    have:=tV cs[i] c1 ⟨x.At,x.ao+1,(an:Int)⟩ w' (hC.rd.ext hx) (by omega)
    rwa [ht] at this
   have gk:∀ (w':World),kj w' w.heap.size cs[i] c1 → ∀ j v,(bB ⟨x.At,x.ao+1,(an:Int)⟩)[j]?=some v→w'.cell? (((cs[i].ah.A.getD default).add (k'*3)).add j)=some v:=fun w' h j v hv=>by
    refine h.aL.sl.all kR j v ?_;rw [xj];exact hv
   have vl:=hw;replace hw:=Ext.refl w9;cases t
   ·have vR:=sA (s:=s) (cpu:=cpu) (c:=s.aa[i]) (k:=k') (x:=x) (a:=(an:Int)) (by rw [qE];exact ht);rw [qE] at vR;rw [vR,kY] at hP;repeat' (first|refine Wz ?_|((apply CW.aM mixed;(· kernel_rfl);rotate_left;intro w1 ab;replace hw:=Ext.trans hw ab;replace bA:=bA.ext ab;replace bx:=bx.ext ab;replace eg:=eg.ext ab;clear ab;rotate_right))|refine SW.st (aS rfl rfl ((eg.row.sl.all cy))) rfl ?_|refine SW.st (aS rfl rfl ((gk _ (eg.get k9 p8)))) rfl ?_|refine SW.bf rfl rfl (fun w1 ab=>(cI _ (Ext.trans hw ab))) ?_|exact SW.br rfl)
    replace hw:=Ext.trans vl hw;refine SW.aj bx rfl rfl rfl rfl (cf q) fun Af bV hg => ?_
    have hG:=bx.gr hg;replace hw:=hw.own gK hg;replace eg:=eg.aD hG rfl;refine Wz ?_;exact ae.bQ rfl rfl rfl bV rfl ⟨_,rfl,hw,_,hP,⟨_,rfl,eg.pV⟩⟩
   ·repeat' (first|refine Wz ?_|((apply CW.aM mixed;(· kernel_rfl);rotate_left;intro w1 ab;replace hw:=Ext.trans hw ab;replace bA:=bA.ext ab;replace bx:=bx.ext ab;replace eg:=eg.ext ab;clear ab;rotate_right))|refine SW.st (aS rfl rfl ((eg.row.sl.all cy))) rfl ?_|refine SW.st (aS rfl rfl ((gk _ (eg.get k9 p8)))) rfl ?_|refine SW.st (az rfl (eg.row.sl.fE cy (j:=4) (u := .slice cs[i].ah.A cs[i].ah.n cs[i].ah.c) rfl)) rfl ?_|refine SW.bf rfl rfl (fun w1 ab=>(cI _ (Ext.trans hw ab))) ?_|exact SW.br rfl)
    replace hw:=Ext.trans vl hw;clear cI hC vl
    refine CW.loop (fun t:Nat×Nat=>[(2,.int .i64 cpu),(4,.pointer (some ⟨b4,0,none⟩)),(8,.pointer (some ⟨b8,0,none⟩)),(10,.int .i64 (i:Int)),(13,.int .i64 (k':Int)),(14,.pointer (some ((q.aa.A.getD default).add (i*6)))),(16,.int .i64 (t.2:Int)),(85,.slice cs[i].ah.A cs[i].ah.n cs[i].ah.c),(86,.int .i64 (cs[i].ah.n:Int)),(87,.int .i64 (t.1:Int))])
     (fun t w'=>t.1≤cs[i].ah.n∧t.2=(c1.ah.take t.1).countP (fi c1)∧Ext w w'∧aU w' b4 44 (aH q)∧aU w' b8 44 (aH .zero)∧SX w' w.heap.size q (ef s1 i (s.Heap,c1)) cs) (fun t=>cs[i].ah.n-t.1) (0,0)
     ⟨rfl,rfl,rfl,rfl,rfl,rfl,rfl,rfl,rfl,rfl,trivial⟩ ⟨by omega,by simp,hw,bA,bx,eg⟩ ?_
    clear hw bA bx eg;rintro ⟨j,m⟩ Cz ⟨hj,hm,hw,bA,bx,eg⟩
    simp only at hj hm ⊢;have hC:=eg.get k9 p8;simp only at hC
    have CO:m≤j:=by
     rw [hm];exact Nat.le_trans List.countP_le_length (by rw [List.length_take];omega)
    by_cases fF:j<cs[i].ah.n
    ·have jq:j<c1.ah.length:=by omega
     obtain ⟨y,hy⟩ : ∃ y,c1.ah[j]=y:=⟨_,rfl⟩;have gy:=hC.aL.sl.all fF;rw [show c1.ah[j]'(hC.aL.sl.lt fF)=y from hy] at gy;obtain ⟨t2,DT⟩ : ∃ t2,fi c1 y=t2:=⟨_,rfl⟩;have ku:=nQ (fi c1) c1.ah j jq;rw [hy,DT,← hm] at ku;clear hC;repeat' (first|refine Wz ?_|refine SW.st (aS rfl rfl gy) rfl ?_)
     refine SW.alloc rfl fun IB w1 ab AO xp => ?_
     skip;refine SW.aj xp rfl rfl rfl rfl (fM.one (enc:=bB) y) fun w2 AP hg => ?_
     have ai:=ab.own AO hg;have GS:w.heap.size≤IB:=Nat.le_trans hw.size AO
     replace hw:=Ext.trans hw ai;replace bA:=bA.ext ai;replace bx:=bx.ext ai;replace eg:=eg.ext ai;replace xp:=AP;clear AP ab hg ai;clear gy;have hC:=eg.get k9 p8;simp only at hC
     have cI:∀ w',Ext w2 w'→a9 Tryz.prog 100 [.agg (bR cs[i]).toArray,.agg (bB y).toArray] w' fun v _=>v = .bool t2:=fun w' hx=>by
      have:=tV cs[i] c1 y w' (hC.rd.ext hx) (by omega)
      rwa [DT] at this
     have vl:=hw;replace hw:=Ext.refl w2;cases t2
     ·repeat' (first|refine Wz ?_|((apply CW.aM mixed;(· kernel_rfl);rotate_left;intro w1 ab;replace hw:=Ext.trans hw ab;replace bA:=bA.ext ab;replace bx:=bx.ext ab;replace xp:=xp.ext ab;replace eg:=eg.ext ab;clear ab;rotate_right))|refine SW.st (aS rfl rfl ((eg.row.sl.all cy))) rfl ?_|refine SW.bf rfl rfl (fun w1 ab=>(cI _ (Ext.trans hw ab))) ?_|exact SW.br rfl)
      replace hw:=Ext.trans vl hw;exact ae.again (j+1,m) ⟨rfl,rfl,rfl,rfl,rfl,rfl,rfl,rfl,rfl,rfl,trivial⟩ (by simp only;omega) ⟨by simp only;omega,by rw [ku];simp,hw,bA,bx,eg⟩
     ·repeat' (first|refine Wz ?_|((apply CW.aM mixed;(· kernel_rfl);rotate_left;intro w1 ab;replace hw:=Ext.trans hw ab;replace bA:=bA.ext ab;replace bx:=bx.ext ab;replace xp:=xp.ext ab;replace eg:=eg.ext ab;clear ab;rotate_right))|refine SW.st (aS rfl rfl ((eg.row.sl.all cy))) rfl ?_|refine SW.bf rfl rfl (fun w1 ab=>(cI _ (Ext.trans hw ab))) ?_|exact SW.br rfl)
      replace hw:=Ext.trans vl hw;exact ae.again (j+1,m+1) ⟨rfl,rfl,rfl,rfl,rfl,rfl,rfl,rfl,rfl,rfl,trivial⟩ (by simp only;omega) ⟨by simp only;omega,by rw [ku];simp,hw,bA,bx,eg⟩
    ·obtain rfl:j=cs[i].ah.n:=by omega
     rw [List.take_of_length_le (by omega)] at hm;clear hC;by_cases kC : 1<m
     ·have DU:=tX (s:=s) (cpu:=cpu) (c:=s.aa[i]) (k:=k') (x:=x) (a:=(an:Int)) (by rw [qE];exact ht) (by rw [qE,← hm];exact kC);rw [qE] at DU;rw [DU,kY] at hP;clear gk;refine Wz ?_;refine SW.ie rfl rfl (tU w _ b4 q s1 cs i k' (s.Heap,c1) cpu hw bA iL eg p8 (by rw [vk];omega) BD h1 lA) fun v DR hv => ?_
      obtain ⟨rfl,H,IC,hh⟩:=hv;simp only [xj] at hh;replace hw:=hh.ext;replace bx:=hh.kp _ _ cQ bx;have hb:=hh.gd;have eg:=hh.sx;refine Wz ?_;refine SW.aj bx rfl rfl rfl rfl (cf ⟨q.Words,H,q.aa⟩) fun Af bV hg => ?_
      have hG:=bx.gr hg;replace hw:=hw.own gK hg;replace eg:=eg.aD hG rfl;refine Wz ?_;exact ae.bQ rfl rfl rfl bV rfl ⟨_,rfl,hw,_,hP,⟨_,rfl,eg.pV⟩⟩
     ·have vR:=tW (s:=s) (cpu:=cpu) (c:=s.aa[i]) (k:=k') (x:=x) (a:=(an:Int)) (by rw [qE,← hm];exact kC);rw [qE] at vR;rw [vR,kY] at hP;refine Wz ?_;refine SW.aj bx rfl rfl rfl rfl (cf q) fun Af bV hg => ?_
      have hG:=bx.gr hg;replace hw:=hw.own gK hg;replace eg:=eg.aD hG rfl;refine Wz ?_;exact ae.bQ rfl rfl rfl bV rfl ⟨_,rfl,hw,_,hP,⟨_,rfl,eg.pV⟩⟩
  ·have hP:=kH.none (n:=n) (cpu:=cpu) he hF (by rw [tN];exact hh)
   rcases (show e≠0∨(e=0∧j≠ix) by
    by_cases e0:e=0
    ·exact .inr ⟨e0,fun e1=>hh ⟨e0,e1⟩⟩
    ·exact .inl e0) with g|⟨g,g2⟩
   all_goals
    refine Wz ?_;all_goals try omega
    refine SW.aj bx rfl rfl rfl rfl (cf .zero) fun w7 bV hg => ?_
    replace hw:=hw.own gK hg;refine Wz ?_;exact ae.bQ rfl rfl rfl bV rfl ⟨_,rfl,hw,_,hP,fl.zero 4 _ _⟩
end Go.Proofs.YtbidkghlpijecaaGreatDoor
