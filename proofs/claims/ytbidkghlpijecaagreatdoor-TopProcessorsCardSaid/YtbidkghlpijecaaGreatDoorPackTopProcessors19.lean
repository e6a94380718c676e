/-
  Texts of the claim TopProcessors, part 19: what its theorem leans on.
-/
import Derived.Test.YtbidkghlpijecaaGreatDoorPackTopProcessors13
import Derived.Test.YtbidkghlpijecaaGreatDoorPackTopProcessors2
import Derived.Test.YtbidkghlpijecaaGreatDoorPackTopProcessors12
import Derived.Test.YtbidkghlpijecaaGreatDoorPackTopProcessors14
import Derived.Test.YtbidkghlpijecaaGreatDoorPackTopProcessors18
import Derived.Test.YtbidkghlpijecaaGreatDoorPackTopProcessors7
import Derived.Test.YtbidkghlpijecaaGreatDoorPackTopProcessors15
import Derived.Test.YtbidkghlpijecaaGreatDoorPackTopProcessors16
import Derived.Test.YtbidkghlpijecaaGreatDoorPackTopProcessors17
import Derived.Test.YtbidkghlpijecaaGreatDoorPackTopProcessors8
set_option linter.unusedVariables false
set_option linter.unusedSimpArgs false
namespace Go.Proofs.YtbidkghlpijecaaGreatDoor
open Go.RowKit
set_option maxHeartbeats 4000000 in
theorem nM (r:eQ) (s:ag) (w:World) (hr:Ab w r s) (hs:s.small) :
 bq Tryz.prog 36 [.agg (ba r).toArray] w fun v w' => ∃ q zr,v = .agg (ba q).toArray∧SX w' w.heap.size q s zr∧SI w' w.heap.size q s zr:=by
 refine aG Tryz.func36 rfl Tryz.ntmps36 rfl ?_;refine CW.seq (CW.region (SW.box rfl rfl fun b1 w1 hw jh aI => ?_));refine SW.alloc rfl fun b2 w2 bF j0 aD => ?_
 have qZ:w.heap.size≤b2:=Nat.le_trans hw.size j0
 have E2:b2≠b1:=by have:=aI.lt;omega
 (replace hw:=Ext.trans hw bF;replace aI:=aI.ext bF);obtain ⟨cs,hc⟩:=hr.bR;have NT:=hr.words.len;have s1:=hs.words;have s3:=hs.bR;obtain ⟨c1,c2⟩:=hc.len;refine Wz ?_
 obtain ⟨K,hK⟩ : ∃ K:Env→World→Prop,K=fun L' w' => ∃ X c1 G b3 m1 m2,jd L' [(1,.pointer (some ⟨b1,0,none⟩)),(2,.pointer (some ⟨b2,0,none⟩)),(3,.pointer (some ⟨b3,0,none⟩))]∧Ext w w'∧aW w' b1 44 (ba r)∧aW w' b2 44 (ba .zero) ∧
  aW w' b3 44 (ba ⟨⟨X,r.Words.n,c1⟩,G,.nil⟩)∧Own w' w.heap.size 3 1 bK X r.Words.n c1 s.Words∧iU w' m1 m2 G s.Heap∧(w.heap.size≤m1∧m1≤m2∧m2≤w'.heap.size ∧ ∀ g,aM X c1=some g→g<m1)∧w.heap.size≤b3∧b1≠b3∧b2≠b3:=⟨_,rfl⟩
 refine CW.cut K ?_ ?_
 ·refine CW.any 8 mixed (da (by kernel_rfl)) rfl fun w1 ae aJ => ?_
  replace hw:=Ext.trans hw ae;replace aI:=aI.ext ae;replace aD:=aD.ext ae;clear ae;refine Wa ?_;refine SA.take 4 aJ rfl (by kernel_rfl) (by kernel_rfl) rfl ?_;repeat ((show SW _ _ _ _ (⟨_,Op.load _ _,_,_,_,none⟩::_) _ _;refine SW.st (aB rfl rfl ((mq aI))) rfl ?_))
  refine SW.ai ?_;refine SA.two 2 7 rfl rfl (by kernel_rfl) rfl rfl ?_ ?_
  ·refine SW.call rfl rfl (dw _ _ _ _ _ (hr.words.ext hw) (by omega)) fun v w4 ap hv => ?_
   obtain ⟨X,c4,rfl,hX⟩:=hv;replace hX:=hX.low hw.size;replace hw:=Ext.trans hw ap;replace aI:=aI.ext ap;replace aD:=aD.ext ap;try replace ax:=ax.ext ap
   refine SW.nil (ah.sa ap ?_);refine SA.two 5 7 rfl rfl (by kernel_rfl) rfl rfl ?_ ?_
   ·refine SW.call rfl rfl (kd _ _ _ (hr.heap.ext hw) hs.heap) fun v w4 ap hv => ?_
    obtain ⟨G,rfl,hY⟩:=hv;have OC:∃ m1 m2,w.heap.size≤m1∧m1≤m2∧m2≤w4.heap.size∧(∀ g,aM X c4=some g→g<m1)∧iU w4 m1 m2 G s.Heap:=⟨_,_,hw.size,ap.size,Nat.le_refl _,hX.lt_size,hY.uN⟩
    clear hY;obtain ⟨m1,m2,Cd,xB,yv,Mw,hY⟩:=OC;replace hX:=hX.ext ap;replace hw:=Ext.trans hw ap;replace aI:=aI.ext ap;replace aD:=aD.ext ap;try replace ax:=ax.ext ap
    refine SW.nil (ah.sa ap ?_);refine Wa ?_;refine SA.one 7 rfl (by kernel_rfl) rfl ?_;refine SW.alloc rfl fun b3 w4 ap bQ ax => ?_
    have dB:w.heap.size≤b3:=Nat.le_trans hw.size bQ
    try replace yv:=Nat.le_trans yv ap.size
    have jx:b1≠b3:=by have:=aI.lt;omega
    have iH:b2≠b3:=by have:=aD.lt;omega
    replace hw:=Ext.trans hw ap;replace aI:=aI.ext ap;replace aD:=aD.ext ap;try replace hX:=hX.ext ap
    try replace hY:=hY.ext ap
    refine SW.nil (ah.sa ap ?_);refine SA.done (by kernel_rfl) ?_;skip;refine SW.ak ax rfl rfl rfl rfl (bt ⟨⟨X,r.Words.n,c4⟩,G,.nil⟩) fun w5 bU hg => ?_
    have hG:=ax.gr hg;have JR:=Nat.le_trans yv hg.size;replace hw:=hw.own dB hg;(replace hX:=hX.aw hG rfl;replace hY:=hY.aw hG rfl);replace aI:=aI.grown hg (by simpa using jx);replace aD:=aD.grown hg (by simpa using iH);refine Wz ?_;exact ah.cut (K:=K) (by rw [hK];exact ⟨X,c4,G,b3,m1,m2,⟨rfl,rfl,rfl,trivial⟩,hw,aI,aD,bU,hX,hY,⟨Cd,xB,JR,Mw⟩,dB,jx,iH⟩)
   ·refine SW.alloc rfl fun b3 w4 ap bQ ax => ?_
    have dB:w.heap.size≤b3:=Nat.le_trans hw.size bQ
    try replace yv:=Nat.le_trans yv ap.size
    have jx:b1≠b3:=by have:=aI.lt;omega
    have iH:b2≠b3:=by have:=aD.lt;omega
    replace hw:=Ext.trans hw ap;replace aI:=aI.ext ap;replace aD:=aD.ext ap;try replace hX:=hX.ext ap
    try replace hY:=hY.ext ap
    refine SW.nil (ah.sa ap ?_);refine SA.one 5 rfl (by kernel_rfl) rfl ?_;refine SW.call rfl rfl (kd _ _ _ (hr.heap.ext hw) hs.heap) fun v w4 ap hv => ?_
    obtain ⟨G,rfl,hY⟩:=hv;have OC:∃ m1 m2,w.heap.size≤m1∧m1≤m2∧m2≤w4.heap.size∧(∀ g,aM X c4=some g→g<m1)∧iU w4 m1 m2 G s.Heap:=⟨_,_,hw.size,ap.size,Nat.le_refl _,hX.lt_size,hY.uN⟩
    clear hY;obtain ⟨m1,m2,Cd,xB,yv,Mw,hY⟩:=OC;replace hX:=hX.ext ap;replace hw:=Ext.trans hw ap;replace aI:=aI.ext ap;replace aD:=aD.ext ap;try replace ax:=ax.ext ap
    refine SW.nil (ah.sa ap ?_);refine Wa ?_;refine SA.done (by kernel_rfl) ?_;skip;refine SW.ak ax rfl rfl rfl rfl (bt ⟨⟨X,r.Words.n,c4⟩,G,.nil⟩) fun w5 bU hg => ?_
    have hG:=ax.gr hg;have JR:=Nat.le_trans yv hg.size;replace hw:=hw.own dB hg;(replace hX:=hX.aw hG rfl;replace hY:=hY.aw hG rfl);replace aI:=aI.grown hg (by simpa using jx);replace aD:=aD.grown hg (by simpa using iH);refine Wz ?_;exact ah.cut (K:=K) (by rw [hK];exact ⟨X,c4,G,b3,m1,m2,⟨rfl,rfl,rfl,trivial⟩,hw,aI,aD,bU,hX,hY,⟨Cd,xB,JR,Mw⟩,dB,jx,iH⟩)
  ·refine SW.alloc rfl fun b3 w4 ap bQ ax => ?_
   have dB:w.heap.size≤b3:=Nat.le_trans hw.size bQ
   try replace yv:=Nat.le_trans yv ap.size
   have jx:b1≠b3:=by have:=aI.lt;omega
   have iH:b2≠b3:=by have:=aD.lt;omega
   replace hw:=Ext.trans hw ap;replace aI:=aI.ext ap;replace aD:=aD.ext ap;try replace hX:=hX.ext ap
   try replace hY:=hY.ext ap
   refine SW.nil (ah.sa ap ?_);refine SA.one 2 rfl (by kernel_rfl) rfl ?_;refine SW.call rfl rfl (dw _ _ _ _ _ (hr.words.ext hw) (by omega)) fun v w4 ap hv => ?_
   obtain ⟨X,c4,rfl,hX⟩:=hv;replace hX:=hX.low hw.size;replace hw:=Ext.trans hw ap;replace aI:=aI.ext ap;replace aD:=aD.ext ap;try replace ax:=ax.ext ap
   refine SW.nil (ah.sa ap ?_);refine SA.one 5 rfl (by kernel_rfl) rfl ?_;refine SW.call rfl rfl (kd _ _ _ (hr.heap.ext hw) hs.heap) fun v w4 ap hv => ?_
   obtain ⟨G,rfl,hY⟩:=hv;have OC:∃ m1 m2,w.heap.size≤m1∧m1≤m2∧m2≤w4.heap.size∧(∀ g,aM X c4=some g→g<m1)∧iU w4 m1 m2 G s.Heap:=⟨_,_,hw.size,ap.size,Nat.le_refl _,hX.lt_size,hY.uN⟩
   clear hY;obtain ⟨m1,m2,Cd,xB,yv,Mw,hY⟩:=OC;replace hX:=hX.ext ap;replace hw:=Ext.trans hw ap;replace aI:=aI.ext ap;replace aD:=aD.ext ap;try replace ax:=ax.ext ap
   refine SW.nil (ah.sa ap ?_);refine Wa ?_;refine SA.done (by kernel_rfl) ?_;skip;refine SW.ak ax rfl rfl rfl rfl (bt ⟨⟨X,r.Words.n,c4⟩,G,.nil⟩) fun w5 bU hg => ?_
   have hG:=ax.gr hg;have JR:=Nat.le_trans yv hg.size;replace hw:=hw.own dB hg;(replace hX:=hX.aw hG rfl;replace hY:=hY.aw hG rfl);replace aI:=aI.grown hg (by simpa using jx);replace aD:=aD.grown hg (by simpa using iH);refine Wz ?_;exact ah.cut (K:=K) (by rw [hK];exact ⟨X,c4,G,b3,m1,m2,⟨rfl,rfl,rfl,trivial⟩,hw,aI,aD,bU,hX,hY,⟨Cd,xB,JR,Mw⟩,dB,jx,iH⟩)
 ·clear aI aD hw;subst hK;rintro L' w' ⟨X,c4,G,b3,m1,m2,lQ,hw,aI,aD,ax,hX,hY,⟨Cd,xB,JR,Mw⟩,dB,jx,iH⟩
  refine ah.sub lQ ?_;refine Wz ?_
  refine CW.loop (fun s:Nat×Option Addr×Nat×List dv=>[(2,.pointer (some ⟨b2,0,none⟩)),(3,.pointer (some ⟨b3,0,none⟩)),(14,.slice r.aa.A r.aa.n r.aa.c),(15,.int .i64 (r.aa.n:Int)),(16,.int .i64 (s.1:Int))])
   (fun t w'=>t.1≤r.aa.n∧m2≤w'.heap.size∧Ext w w'∧aW w' b2 44 (ba .zero)∧aW w' b3 44 (ba ⟨⟨X,r.Words.n,c4⟩,G,⟨t.2.1,t.1,t.2.2.1⟩⟩)∧Own w' w.heap.size 3 1 bK X r.Words.n c4 s.Words∧iU w' m1 m2 G s.Heap ∧
     dV w' m2 ⟨t.2.1,t.1,t.2.2.1⟩ t.2.2.2 (s.aa.take t.1)∧uf ⟨X,r.Words.n,c4⟩ t.2.2.2) (fun t=>r.aa.n-t.1) (0,none,0,[]) ⟨rfl,rfl,rfl,rfl,rfl,trivial⟩ ⟨by omega,JR,hw,aD,ax,hX,hY,dV.nil _ _,uf.nil _⟩ ?_
  clear aI aD ax hX hY hw lQ;rintro ⟨k,A,c,zr⟩ w' ⟨hk,JR,hw,aD,ax,hX,hY,hO,tY⟩
  simp only at hk ax hO tY ⊢;have hA:=hc.row.base;by_cases dY:k<r.aa.n
  ·have iS:=hc.each.get k (by omega) (by omega);have q:=hs.each _ (List.getElem_mem (show k<s.aa.length by omega));have q1:=iS.names.len;have q2:=iS.aH.len;have q3:=iS.a8.len;have q4:=q.names;have q5:=q.aH;have q6:=q.a8;have C3:=hO.row.lt_size;repeat' (first|refine Wz ?_|refine SW.st (aU hw rfl rfl ((hc.row.all dY))) rfl ?_)
   refine SW.alloc rfl fun b5 w1 ae jj bC => ?_
   skip;refine SW.ak bC rfl rfl rfl rfl (AI _) fun w2 fg hg => ?_
   have ap:=ae.own jj hg;have kN:w.heap.size≤b5:=Nat.le_trans hw.size jj
   replace hw:=Ext.trans hw ap;replace aD:=aD.ext ap;replace ax:=ax.ext ap;replace hX:=hX.ext ap;replace hY:=hY.ext ap;replace hO:=hO.ext ap;replace bC:=fg;clear fg ae hg ap;have OD:m2≤b5:=Nat.le_trans JR jj
   refine Wz ?_;refine CW.any 10 mixed (da (by kernel_rfl)) rfl fun w1 ae aJ => ?_
   replace hw:=Ext.trans hw ae;replace aD:=aD.ext ae;replace ax:=ax.ext ae;replace bC:=bC.ext ae;replace hX:=hX.ext ae;replace hY:=hY.ext ae;replace hO:=hO.ext ae;clear ae;refine Wa ?_;refine SA.one 2 rfl (by kernel_rfl) rfl ?_;refine SW.call rfl rfl (rE _ _ _ _ _ (iS.names.ext hw) (by omega)) fun v w4 ap hv => ?_
   obtain ⟨N,n4,rfl,hN⟩:=hv;have Gv:=hO.RV (b:=⟨N,cs[k].Names.n,n4⟩) hN.bc;replace hN:=hN.low (Nat.le_trans OD (Nat.le_of_lt bC.lt));(replace hw:=Ext.trans hw ap;replace aD:=aD.ext ap;replace ax:=ax.ext ap;replace bC:=bC.ext ap;replace hX:=hX.ext ap;replace hY:=hY.ext ap;replace hO:=hO.ext ap);refine SW.nil (ah.sa ap ?_);refine Wa ?_;refine SA.one 5 rfl (by kernel_rfl) rfl ?_;refine SW.call rfl rfl (qb _ _ _ _ _ (iS.aH.ext hw) (by omega)) fun v w4 ap hv => ?_
   obtain ⟨M,m4,rfl,hM⟩:=hv;have iF:=hO.RW (b:=⟨M,cs[k].ab.n,m4⟩) hM.bc;replace hM:=hM.low (Nat.le_trans OD (Nat.le_of_lt bC.lt));(replace hw:=Ext.trans hw ap;replace aD:=aD.ext ap;replace ax:=ax.ext ap;replace bC:=bC.ext ap;replace hX:=hX.ext ap;replace hY:=hY.ext ap;replace hO:=hO.ext ap;replace hN:=hN.ext ap);refine SW.nil (ah.sa ap ?_);refine SA.one 8 rfl (by kernel_rfl) rfl ?_;refine SW.call rfl rfl (dw _ _ _ _ _ (iS.a8.ext hw) (by omega)) fun v w4 ap hv => ?_
   obtain ⟨Q,q7,rfl,hQ⟩:=hv;have G3:=hO.RX (b:=⟨Q,cs[k].ar.n,q7⟩) hQ.bc;have sr:=mP (a:=⟨X,r.Words.n,c4⟩) (b:=⟨Q,cs[k].ar.n,q7⟩) hX hQ.bc;replace hQ:=hQ.low (Nat.le_trans OD (Nat.le_of_lt bC.lt));(replace hw:=Ext.trans hw ap;replace aD:=aD.ext ap;replace ax:=ax.ext ap;replace bC:=bC.ext ap;replace hX:=hX.ext ap;replace hY:=hY.ext ap;replace hO:=hO.ext ap;replace hN:=hN.ext ap;replace hM:=hM.ext ap);refine SW.nil (ah.sa ap ?_);refine SA.done (by kernel_rfl) ?_;refine SW.bz (i:=0) bC rfl rfl rfl rfl fun w6 fg hg => ?_
   have hG:=bC.gr hg;replace hw:=hw.own kN hg;replace hO:=hO.dD bC hg C3 jj;(replace aD:=aD.aw hG rfl;replace ax:=ax.aw hG rfl;replace hX:=hX.aw hG rfl;replace hY:=hY.aw hG rfl;replace hN:=hN.aw hG rfl;replace hM:=hM.aw hG rfl;replace hQ:=hQ.aw hG rfl);replace bC:=fg;clear fg hg hG;refine Wz ?_;refine SW.bz (i:=4) bC rfl rfl rfl rfl fun w6 fg hg => ?_
   have hG:=bC.gr hg;replace hw:=hw.own kN hg;replace hO:=hO.dD bC hg C3 jj;(replace aD:=aD.aw hG rfl;replace ax:=ax.aw hG rfl;replace hX:=hX.aw hG rfl;replace hY:=hY.aw hG rfl;replace hN:=hN.aw hG rfl;replace hM:=hM.aw hG rfl;replace hQ:=hQ.aw hG rfl);replace bC:=fg;clear fg hg hG;refine Wz ?_;refine SW.bz (i:=5) bC rfl rfl rfl rfl fun w6 fg hg => ?_
   have hG:=bC.gr hg;replace hw:=hw.own kN hg;replace hO:=hO.dD bC hg C3 jj;(replace aD:=aD.aw hG rfl;replace ax:=ax.aw hG rfl;replace hX:=hX.aw hG rfl;replace hY:=hY.aw hG rfl;replace hN:=hN.aw hG rfl;replace hM:=hM.aw hG rfl;replace hQ:=hQ.aw hG rfl);replace bC:=fg;clear fg hg hG;refine Wz ?_;refine SW.dR rfl rfl rfl rfl rfl fun b w6 ap hb hB => ?_
   (replace hw:=Ext.trans hw ap;replace aD:=aD.ext ap;replace ax:=ax.ext ap;replace hX:=hX.ext ap;replace hY:=hY.ext ap;replace hO:=hO.ext ap;replace hN:=hN.ext ap;replace hM:=hM.ext ap;replace hQ:=hQ.ext ap);refine SW.append hO.row (aW.z7 (enc:=eA) (x:=⟨⟨N,_,n4⟩,cs[k].aE,cs[k].bG,cs[k].Order,⟨M,_,m4⟩,⟨Q,_,q7⟩⟩) hB) (Nat.le_trans OD (Nat.le_trans (Nat.le_of_lt bC.lt) ap.size)) rfl rfl rfl (by simp only;omega) (by simp only;omega) fun A2 c2 w5 n7 hg => ?_
   have hG:=hO.row.gr hg;have Uc:=Nat.le_trans (Nat.le_trans OD (Nat.le_trans (Nat.le_of_lt bC.lt) ap.size)) hg.size;replace hw:=aO hw hg (Nat.le_trans Cd xB) hO.row.bc;(replace aD:=aD.aw hG rfl;replace ax:=ax.aw hG rfl;replace hX:=hX.aw hG rfl;replace hY:=hY.aw hG rfl;replace hN:=hN.aw hG rfl;replace hM:=hM.aw hG rfl;replace hQ:=hQ.aw hG rfl);have hE:=hO.each.mono fun _ _ h=>h.aw hG rfl
   refine Wz ?_;refine SW.bz (i:=6) ax rfl rfl rfl rfl fun w6 cW hg => ?_
   have hG:=ax.gr hg;replace hw:=hw.own dB hg;replace aD:=aD.grown hg (by simpa using iH);(replace hX:=hX.aw hG rfl;replace hY:=hY.aw hG rfl;replace hN:=hN.aw hG rfl;replace hM:=hM.aw hG rfl;replace hQ:=hQ.aw hG rfl;replace n7:=n7.aw hG rfl);replace hE:=hE.mono fun _ _ h=>h.aw hG rfl
   refine Wz ?_;refine ah.again (k+1,A2,c2,zr++[⟨⟨N,_,n4⟩,cs[k].aE,cs[k].bG,cs[k].Order,⟨M,_,m4⟩,⟨Q,_,q7⟩⟩]) ⟨rfl,rfl,rfl,rfl,rfl,trivial⟩ (by simp only;omega) ⟨by simp only;omega,Nat.le_trans Uc hg.size,hw,aD,cW,hX,hY,⟨n7,?_⟩,tY.snoc (fun u hu=>⟨Gv u hu,iF u hu,G3 u hu⟩) sr⟩;rw [List.take_succ_eq_append_getElem (by omega)];exact hE.snoc ⟨iS.size,iS.g7,iS.order,hN,hM,hQ⟩
  ·obtain rfl:k=r.aa.n:=by omega
   rw [List.take_of_length_le (by omega)] at hO;refine Wz ?_;refine SW.ak aD rfl rfl rfl rfl (bt _) fun w5 bU hg => ?_
   have hG:=aD.gr hg;replace hw:=hw.own qZ hg;(replace hX:=hX.aw hG rfl;replace hY:=hY.aw hG rfl;replace hO:=hO.aw hG rfl);refine Wz ?_;exact ah.Al rfl rfl bU rfl ⟨_,rfl,hw,⟨_,G,_⟩,zr,rfl,⟨hX,hY.own.low Cd,hO.row.low (Nat.le_trans Cd xB),hO.each.mono fun _ _ h=>h.low (Nat.le_trans Cd xB),tY.pair⟩,⟨m1,m2,Cd,xB,Mw,hY,hO.each⟩⟩
open Go.RowKit
set_option maxHeartbeats 2000000 in
theorem Ev (r:eQ) (s:ag) (n:ByteArray) (cpu:Int) (w:World) (hr:Ab w r s) (hf:s.dW) (Ng:n.size≤140737488351232) :
 bq Tryz.prog 99 [.agg (ba r).toArray,.string n,.int .i64 cpu] w (Mc w.heap.size s n cpu):=by
 refine aG Tryz.func99 rfl Tryz.ntmps99 rfl ?_;have hs:=hf.small;refine CW.seq (CW.region (SW.box rfl rfl fun b3 w1 hw bQ ax => ?_));refine SW.alloc rfl fun b6 w3 jA eu aA => ?_
 have dl:w.heap.size≤b6:=Nat.le_trans hw.size eu
 (replace hw:=Ext.trans hw jA;replace ax:=ax.ext jA);obtain ⟨q,hq⟩ : ∃ q,en s=q:=⟨_,rfl⟩
 have c1:∀ w',Ext w w'→bq Tryz.prog 41 [.agg (ba r).toArray] w' fun v _=>v = .int .i64 (if q then 0 else 8):=fun w' hx=>by
  have:=kg r s w' (hr.ext hx) hf
  rwa [hq] at this
 cases q
 ·simp only [Bool.false_eq_true,if_false] at c1;repeat' (first|refine Wz ?_|(refine SW.call rfl rfl (c1 _ hw) ?_;intro v w1 ae hv;subst hv;replace hw:=Ext.trans hw ae;replace ax:=ax.ext ae;replace aA:=aA.ext ae;clear ae))
  refine SW.ak aA rfl rfl rfl rfl (bt .zero) fun w5 bU hg => ?_
  replace hw:=hw.own dl hg;refine Wz ?_;exact ah.gK rfl rfl rfl rfl bU rfl ⟨_,rfl,hw,.inl ⟨by rw [HC hq];decide,by rw [HC hq];rfl⟩⟩
 ·simp only [if_true] at c1;obtain ⟨t,ht⟩ : ∃ t,s.aa.any (gD n)=t:=⟨_,rfl⟩;obtain ⟨ix,uF⟩ : ∃ ix,idxOf (gD n) s.aa=ix:=⟨_,rfl⟩
  have c3:∀ w',Ext w w'→bq Tryz.prog 136 [.agg (ba r).toArray,.string n] w' fun v _=>v = .tuple #[.int .i64 ix,.bool t]:=fun w' hx=>by
   have:=x9 r s n w' (hr.ext hx) hs
   rwa [ht,uF] at this
  cases t
  ·repeat' (first|refine Wz ?_|(refine CW.dh rfl ?_)|((first|refine SW.call rfl rfl (c1 _ hw) ?_|refine SW.call rfl rfl (c3 _ hw) ?_);intro v w1 ae hv;subst hv;replace hw:=Ext.trans hw ae;replace ax:=ax.ext ae;replace aA:=aA.ext ae;clear ae))
   refine SW.ak aA rfl rfl rfl rfl (bt .zero) fun w5 bU hg => ?_
   replace hw:=hw.own dl hg;refine Wz ?_;exact ah.gK rfl rfl rfl rfl bU rfl ⟨_,rfl,hw,.inl ⟨by rw [HD hq ht];decide,by rw [HD hq ht];rfl⟩⟩
  ·have qa:=hr.heap.cpus;by_cases hc : 0≤cpu∧cpu<s.Heap.bw
   ·repeat' (first|refine Wz ?_|(refine CW.di rfl ?_)|((first|refine SW.call rfl rfl (c1 _ hw) ?_|refine SW.call rfl rfl (c3 _ hw) ?_);intro v w1 ae hv;subst hv;replace hw:=Ext.trans hw ae;replace ax:=ax.ext ae;replace aA:=aA.ext ae;clear ae))
    all_goals try omega
    refine SW.call rfl rfl (nM r s _ (hr.ext hw) hs) fun v w6 ap hv => ?_
    obtain ⟨q,zr,rfl,hO,hI⟩:=hv;replace hO:=hO.low hw.size;replace hI:=hI.low hw.size;(replace hw:=Ext.trans hw ap;replace aA:=aA.ext ap);refine Wz ?_;refine SW.ak aA rfl rfl rfl rfl (bt q) fun w5 bU hg => ?_
    have hG:=aA.gr hg;replace hw:=hw.own dl hg;(replace hO:=hO.aw hG rfl;replace hI:=hI.aw hG rfl);refine Wz ?_;exact ah.gK rfl rfl rfl rfl bU rfl ⟨_,rfl,hw,.inr ⟨C6 hq ht hc,q,zr,by rw [uF];rfl,hO,hI⟩⟩
   ·rcases (show cpu<0∨(0≤cpu∧s.Heap.bw≤cpu) by omega) with g|g
    all_goals
     repeat' (first|refine Wz ?_|(refine CW.di rfl ?_)|((first|refine SW.call rfl rfl (c1 _ hw) ?_|refine SW.call rfl rfl (c3 _ hw) ?_);intro v w1 ae hv;subst hv;replace hw:=Ext.trans hw ae;replace ax:=ax.ext ae;replace aA:=aA.ext ae;clear ae))
     all_goals try omega
     refine SW.ak aA rfl rfl rfl rfl (bt .zero) fun w5 bU hg => ?_
     replace hw:=hw.own dl hg;refine Wz ?_;exact ah.gK rfl rfl rfl rfl bU rfl ⟨_,rfl,hw,.inl ⟨by rw [HE hq ht hc];decide,by rw [HE hq ht hc];rfl⟩⟩
open Go.RowKit
theorem tP (x:Slab) (b8:Nat) (ad:Addr) (A:Option Addr) (n c:Nat) (l:List Int) (w:World) (h8:aW w b8 156 [.pointer (some ad)]) (hp:w.cell? (ad.add 5)=some (.slice A n c)) (hl:Sl w 1 bK A n l) (hn:n≤9223372036854775807) :
 bq Tryz.prog 242 ([.agg (aX x).toArray]++[.pointer (some ⟨b8,0,none⟩)]) w fun v _=>v = .bool (decide (0<x.aj) && !decide (x.At∈l)):=by
 refine aG Tryz.func242 rfl Tryz.ntmps242 rfl ?_;refine CW.seq (CW.region (SW.box rfl rfl fun b2 w1 hw j0 aD => ?_));have Ew:=h8.cell (i:=0) (v := .pointer (some ad)) rfl;rw [add_zero] at Ew;obtain ⟨q,hq⟩ : ∃ q,decide (x.At∈l)=q:=⟨_,rfl⟩
 have cC:∀ w',Ext w w'→bq Tryz.prog 95 [.slice A n c,.int .i64 x.At] w' fun v _=>v = .bool q:=fun w' hx=>by
  have:=fi _ _ c _ x.At _ (hl.ext hx) hn
  rwa [hq] at this
 by_cases hf : 0<x.aj
 ·repeat' (first|refine Wz ?_|((apply CW.bl mixed;(· kernel_rfl);rotate_left;intro w1 ae;replace hw:=Ext.trans hw ae;replace aD:=aD.ext ae;clear ae;rotate_right))|refine SW.st (aT hw rfl Ew) rfl ?_|refine SW.st (aT hw rfl hp) rfl ?_|refine SW.cx rfl rfl (fun w1 ae=>(cC _ (Ext.trans hw ae))) ?_|exact SW.dF rfl)
  all_goals try omega
  exact ah.aY rfl rfl ⟨_,rfl,hw,by rw [hq,decide_eq_true hf];simp⟩
 ·repeat' (first|refine Wz ?_|((apply CW.bl mixed;(· kernel_rfl);rotate_left;intro w1 ae;replace hw:=Ext.trans hw ae;replace aD:=aD.ext ae;clear ae;rotate_right))|exact SW.dF rfl)
  all_goals try omega
  exact ah.aY rfl rfl ⟨_,rfl,hw,by rw [decide_eq_false hf];simp⟩
def rO (c:aF) (cpu k:Nat) : aF:=⟨c.Names,c.aE,c.bG,c.Order,c.ab,c.ar.set cpu (iV c k).At⟩
def OE (G:Nat→Prop) (wb w0:World) (b:Nat) (r:eQ) (s:ag) (i:Nat) (c:aF) (cpu:Nat) (v:Value) (w':World) : Prop :=
 ∃ m,qF s c cpu m∧Ext wb w'∧(∀ j x,j≠b→aW w0 j 44 x→aW w' j 44 x)∧(∀ j x,G j→aW w0 j 3 x→aW w' j 3 x) ∧
  ((m.1=none∧m.2≠0∧v = .tuple #[.int .i64 0,.int .i64 m.2]) ∨
   ∃ M,m=(some M,0)∧v = .tuple #[.int .i64 (M.k:Int),.int .i64 0] ∧ ∃ X H cs',aW w' b 44 (ba ⟨X,H,r.aa⟩)∧SX w' wb.heap.size ⟨X,H,r.aa⟩ (bV (kU s M.ws) i (M.h,rO M.c cpu M.k)) cs'∧SJ G w' wb.heap.size ⟨X,H,r.aa⟩ (bV (kU s M.ws) i (M.h,rO M.c cpu M.k)) cs')
set_option maxHeartbeats 8000000 in
theorem Dk (G:Nat→Prop) (wb w0:World) (b:Nat) (r:eQ) (s:ag) (cs:List dv) (i cpu:Nat) (hf:s.dW) (hi:i<s.aa.length) (hM:wj s s.aa[i]) (kq:nq w0)
 (hx:Ext wb w0) (hb:aW w0 b 44 (ba r)) (Af:wb.heap.size≤b) (hS:SX w0 wb.heap.size r s cs) (hJ:SJ G w0 wb.heap.size r s cs) (Ms:∀ g,G g→g<w0.heap.size) (lT:cpu<s.aa[i].ar.length) (xS:(s.aa[i].ab.length+1)*24≤140737488355328) :
 jw Tryz.prog 212 [.pointer (some ⟨b,0,none⟩),.int .i64 (i:Int),.int .i64 (cpu:Int)] w0 (OE G wb w0 b r s i s.aa[i] cpu):=by
 refine dM Tryz.func212 rfl Tryz.ntmps212 rfl ?_;have hm:=hM.most;have e0:=nI hi;have h2:=hf.Pr hi;have q4:=h2.small.a8;have gB:=hx.size;obtain ⟨e1,e2⟩:=hS.len;have kO:i<cs.length:=by omega
 have df:i<r.aa.n:=by omega
 have Oy:=hS.row.sl.base;have hC:=hS.each.get i kO hi;have q1:=hC.aH.len;have q3:=hC.a8.len;have Lz:cpu<cs[i].ar.n:=by omega
 have Nd:=hC.aH.sl.base;have VI:=hC.a8.sl.base;have JS:=FH hM lT;have gT:(s.aa[i].ar.getD cpu 0)=s.aa[i].ar[cpu]:=by simp [lT]
 clear hC;have hw:=Ext.refl w0;refine Wz ?_;refine SW.alloc rfl fun b8 w1 ae zM bA => ?_
 have kn:w0.heap.size≤b8:=Nat.le_trans hw.size zM
 (replace hw:=Ext.trans hw ae;replace hb:=hb.ext ae;replace hS:=hS.ext ae;replace hJ:=hJ.ext ae);refine SW.bz (i:=0) bA rfl rfl rfl rfl fun w2 OF hg => ?_
 have hG:=bA.gr hg;replace hw:=hw.own kn hg;(replace hb:=hb.aw hG rfl;replace hS:=hS.aw hG rfl;replace hJ:=hJ.aw hG rfl);replace bA:aW w2 b8 156 [.pointer (some ((r.aa.A.getD default).add (i*6)))]:=OF;clear OF hG hg
 have Ew:∀ w',aW w' b8 156 [.pointer (some ((r.aa.A.getD default).add (i*6)))]→w'.cell? ⟨b8,0,none⟩=some (.pointer (some ((r.aa.A.getD default).add (i*6)))):=fun w' h=>by
  have:=h.cell (i:=0) (v := .pointer (some ((r.aa.A.getD default).add (i*6)))) rfl
  rwa [add_zero] at this
 obtain ⟨o,ho⟩ : ∃ o,zK s.aa[i] cpu=o:=⟨_,rfl⟩;obtain ⟨t,ht⟩ : ∃ t,s.aa[i].ar[cpu]=t:=⟨_,rfl⟩;rw [ho,ht] at JS;have gA:∀ w',SX w' wb.heap.size r s cs→w'.cell? ((((cs[i].ar.A).getD default).add (cpu*1)))=some (Value.int .i64 t):=fun w' h=>(h.each.get i kO hi).a8.sl.one Lz (by rw [show s.aa[i].ar[cpu]=t from ht];rfl)
 have hC:=hS.each.get i kO hi
 have cF:∀ w',Ext w2 w'→bq Tryz.prog 181 [.agg (eA cs[i]).toArray,.int .i64 t] w' fun v _=>v = .int .i64 o:=fun w' h=>by
  have:=AW cs[i] s.aa[i].ab t w' (hC.aH.sl.ext h) (by omega)
  unfold zK at ho;rw [gT,ht] at ho;rwa [ho] at this
 have Gk:=hw;replace hw:=Ext.refl w2;by_cases hA:∃ (k:Nat) (hk:k<s.aa[i].ab.length),o=k∧0<s.aa[i].ab[k].aj
 ·obtain ⟨k,hk,rfl,jC⟩:=hA;have dY:k<cs[i].ab.n:=by omega
  obtain ⟨y,hy⟩ : ∃ y,s.aa[i].ab[k]=y:=⟨_,rfl⟩;rw [hy] at jC;have gF:∀ w',SX w' wb.heap.size r s cs→w'.cell? ((((cs[i].ab.A).getD default).add (k*3)).add 1)=some (Value.int .i64 y.aj):=fun w' h=>(h.each.get i kO hi).aH.sl.fw dY (j:=1) (show (aX (s.aa[i].ab[k]'(by omega)))[1]?=some (Value.int .i64 y.aj) by rw [hy];rfl)
  have wx:k6 s.aa[i] cpu=k:=by
   unfold k6;rw [ho,if_pos ⟨by omega,by rw [show ((k:Int)).toNat=k by omega,ew hk,hy];exact jC⟩]
  repeat' (first|refine Wz ?_|((apply CW.bl mixed;(· kernel_rfl);rotate_left;intro w1 ae;replace hw:=Ext.trans hw ae;replace hb:=hb.ext ae;replace bA:=bA.ext ae;replace hS:=hS.ext ae;replace hJ:=hJ.ext ae;clear ae;rotate_right))|refine SW.st (aq rfl (Ew _ bA)) rfl ?_|refine SW.st (aB rfl rfl ((hS.row.sl.all df))) rfl ?_|refine SW.st (aq rfl (hS.row.sl.fw df (j:=5) (u := .slice cs[i].ar.A cs[i].ar.n cs[i].ar.c) rfl)) rfl ?_|refine SW.st (aq rfl (gA _ hS)) rfl ?_|refine SW.st (aq rfl (hS.row.sl.fw df (j:=4) (u := .slice cs[i].ab.A cs[i].ab.n cs[i].ab.c) rfl)) rfl ?_|refine SW.st (aq rfl (gF _ hS)) rfl ?_|refine SW.cx rfl rfl (fun w1 ae=>(cF _ (Ext.trans hw ae))) ?_|exact SW.dF rfl)
  all_goals try omega
  replace hw:=Ext.trans Gk hw;rcases JS with ⟨_,h⟩|⟨_,k2,r8,h,KM⟩
  ·omega
  ·obtain rfl:k=k2:=by omega
   rw [hy] at KM
   have HZ:rO s.aa[i] cpu k=s.aa[i]:=by
    unfold rO;rw [ew hk,hy,KM,← ht,List.set_getElem_self]
   refine ah.cb rfl rfl rfl ⟨_,rfl,_,.uM wx,hx.trans hw,fun j x hj h=>h.ext hw,fun j x hj h=>h.ext hw,.inr ⟨_,rfl,rfl,r.Words,r.Heap,cs,hb,?_⟩⟩;simp only;rw [HZ];rw [← e0] at hS hJ;exact ⟨hS,hJ⟩
 ·have EK : ¬ (0≤o∧0<(iV s.aa[i] o.toNat).aj):=fun h=>by
   rcases JS with ⟨_,h1⟩|⟨_,k2,r8,h1,_⟩
   ·omega
   ·refine hA ⟨k2,r8,h1,?_⟩;have:=h.2
    rwa [show o.toNat=k2 by omega,ew r8] at this
  rcases JS with ⟨_,H4⟩|⟨_,k2,r8,H4,Ud⟩
  ·repeat' (first|refine Wz ?_|((apply CW.bl mixed;(· kernel_rfl);rotate_left;intro w1 ae;replace hw:=Ext.trans hw ae;replace hb:=hb.ext ae;replace bA:=bA.ext ae;replace hS:=hS.ext ae;replace hJ:=hJ.ext ae;clear ae;rotate_right))|refine SW.st (aq rfl (Ew _ bA)) rfl ?_|refine SW.st (aB rfl rfl ((hS.row.sl.all df))) rfl ?_|refine SW.st (aq rfl (hS.row.sl.fw df (j:=5) (u := .slice cs[i].ar.A cs[i].ar.n cs[i].ar.c) rfl)) rfl ?_|refine SW.st (aq rfl (gA _ hS)) rfl ?_|refine SW.st (aq rfl (hS.row.sl.fw df (j:=4) (u := .slice cs[i].ab.A cs[i].ab.n cs[i].ab.c) rfl)) rfl ?_|refine SW.cx rfl rfl (fun w1 ae=>(cF _ (Ext.trans hw ae))) ?_|(refine SW.st (gI (vs:=[.pointer (some ⟨b8,0,none⟩)]) rfl) rfl ?_)|exact SW.dF rfl)
   all_goals try omega
   replace hw:=Ext.trans Gk hw;clear Gk cF hC;have hC:=hS.each.get i kO hi;have H7:=hS.row.sl.fw df (j:=5) (u := .slice cs[i].ar.A cs[i].ar.n cs[i].ar.c) rfl;refine SW.call rfl rfl (gQ _ _ _ s.aa[i].ab _ hC.aH.sl _ [.pointer (some ⟨b8,0,none⟩)] (tL s.aa[i]) (fun x => .agg (aX x).toArray) (fun x=>rfl) (fun x uw w1 jn=>tP x b8 _ cs[i].ar.A cs[i].ar.n cs[i].ar.c s.aa[i].ar w1 (bA.ext jn) (jn.cell H7) (hC.a8.sl.ext jn) (by omega)) (by omega)) fun v w9 ap hv => ?_
   subst hv;(replace hw:=Ext.trans hw ap;replace hb:=hb.ext ap;replace bA:=bA.ext ap;replace hS:=hS.ext ap;replace hJ:=hJ.ext ap);clear hC H7;obtain ⟨z,hz⟩ : ∃ z,idxOf (tL s.aa[i]) s.aa[i].ab=z:=⟨_,rfl⟩;rw [hz]
   have wx:k6 s.aa[i] cpu=z:=by
    unfold k6;rw [ho,if_neg EK,hz]
   by_cases G4 : 0≤z
   ·obtain ⟨k,rfl⟩:=Int.eq_ofNat_of_zero_le G4;obtain ⟨hk,jC⟩:=zL wx;have dY:k<cs[i].ab.n:=by omega
    obtain ⟨y,hy⟩ : ∃ y,s.aa[i].ab[k]=y:=⟨_,rfl⟩;have gY:∀ w',SX w' wb.heap.size r s cs→w'.cell? ((((cs[i].ab.A).getD default).add (k*3)).add 0)=some (Value.int .i64 y.At):=fun w' h=>(h.each.get i kO hi).aH.sl.fw dY (j:=0) (show (aX (s.aa[i].ab[k]'(by omega)))[0]?=some (Value.int .i64 y.At) by rw [hy];rfl)
    refine Wz ?_;all_goals try omega
    refine CW.iL 14 14 (fun _=>True) mixed (by kernel_rfl) fun w1 ae aJ => ?_
    replace hw:=Ext.trans hw ae;replace hb:=hb.ext ae;replace bA:=bA.ext ae;replace hS:=hS.ext ae;replace hJ:=hJ.ext ae;clear ae;refine SF.take 0 [] [] aJ rfl (by kernel_rfl) (by kernel_rfl) (by kernel_rfl) ?_;repeat ((show SW _ _ _ _ (⟨_,Op.load _ _,_,_,_,none⟩::_) _ _;refine SW.st (aq rfl (Ew _ bA)) rfl ?_))
    refine SW.ai ?_;refine SF.take 1 [] [] aJ rfl (by kernel_rfl) (by kernel_rfl) (by kernel_rfl) ?_;repeat ((show SW _ _ _ _ (⟨_,Op.nilCheck _,_,_,_,none⟩::_) _ _;refine SW.st (aC rfl) rfl ?_))
    refine SW.ai ?_;refine SF.take 2 [] [] aJ rfl (by kernel_rfl) (by kernel_rfl) (by kernel_rfl) ?_;repeat ((show SW _ _ _ _ (⟨_,Op.fieldAddr _ _ _,_,_,_,none⟩::_) _ _;refine SW.st (aP rfl) rfl ?_))
    refine SW.ai ?_;refine SF.take 3 [] [] aJ rfl (by kernel_rfl) (by kernel_rfl) (by kernel_rfl) ?_;repeat ((show SW _ _ _ _ (⟨_,Op.load _ _,_,_,_,none⟩::_) _ _;refine SW.st (aq rfl (hS.row.sl.fw df (j:=5) (u := .slice cs[i].ar.A cs[i].ar.n cs[i].ar.c) rfl)) rfl ?_))
    refine SW.ai ?_;refine SF.take 4 [] [] aJ rfl (by kernel_rfl) (by kernel_rfl) (by kernel_rfl) ?_;repeat (refine SW.pure rfl rfl ?_)
    refine SW.ai ?_;refine SF.take 5 [] [] aJ rfl (by kernel_rfl) (by kernel_rfl) (by kernel_rfl) ?_;repeat ((show SW _ _ _ _ (⟨_,Op.load _ _,_,_,_,none⟩::_) _ _;refine SW.st (aq rfl (Ew _ bA)) rfl ?_))
    refine SW.ai ?_;refine SF.take 6 [] [] aJ rfl (by kernel_rfl) (by kernel_rfl) (by kernel_rfl) ?_;repeat ((show SW _ _ _ _ (⟨_,Op.nilCheck _,_,_,_,none⟩::_) _ _;refine SW.st (aC rfl) rfl ?_))
    refine SW.ai ?_;refine SF.take 7 [] [] aJ rfl (by kernel_rfl) (by kernel_rfl) (by kernel_rfl) ?_;repeat ((show SW _ _ _ _ (⟨_,Op.fieldAddr _ _ _,_,_,_,none⟩::_) _ _;refine SW.st (aP rfl) rfl ?_))
    refine SW.ai ?_;refine SF.take 8 [] [] aJ rfl (by kernel_rfl) (by kernel_rfl) (by kernel_rfl) ?_;repeat ((show SW _ _ _ _ (⟨_,Op.load _ _,_,_,_,none⟩::_) _ _;refine SW.st (aq rfl (hS.row.sl.fw df (j:=4) (u := .slice cs[i].ab.A cs[i].ab.n cs[i].ab.c) rfl)) rfl ?_))
    refine SW.ai ?_;refine SF.take 9 [] [] aJ rfl (by kernel_rfl) (by kernel_rfl) (by kernel_rfl) ?_;repeat (refine SW.pure rfl rfl ?_)
    refine SW.ai ?_;refine SF.take 10 [] [] aJ rfl (by kernel_rfl) (by kernel_rfl) (by kernel_rfl) ?_;repeat ((show SW _ _ _ _ (⟨_,Op.indexAddr _ _ _,_,_,_,none⟩::_) _ _;refine SW.st (bJ rfl rfl (by assumption) (by omega)) rfl ?_))
    refine SW.ai ?_;refine SF.take 11 [] [] aJ rfl (by kernel_rfl) (by kernel_rfl) (by kernel_rfl) ?_;repeat ((show SW _ _ _ _ (⟨_,Op.fieldAddr _ _ _,_,_,_,none⟩::_) _ _;refine SW.st (aP rfl) rfl ?_))
    refine SW.ai ?_;refine SF.take 12 [] [] aJ rfl (by kernel_rfl) (by kernel_rfl) (by kernel_rfl) ?_;repeat ((show SW _ _ _ _ (⟨_,Op.load _ _,_,_,_,none⟩::_) _ _;refine SW.st (aq rfl (gY _ hS)) rfl ?_))
    refine SW.ai ?_;refine SF.take 13 [] [] aJ rfl (by kernel_rfl) (by kernel_rfl) (by kernel_rfl) ?_;repeat ((show SW _ _ _ _ (⟨_,Op.indexAddr _ _ _,_,_,_,none⟩::_) _ _;refine SW.st (bJ rfl rfl (by assumption) (by omega)) rfl ?_))
    refine SW.ai ?_;refine SF.last rfl (by kernel_rfl) (by kernel_rfl) ?_;have hC:=hS.each.get i kO hi;refine SW.oB cpu hC.a8 rfl rfl Lz fun rN hO hg => ?_
    have hG:=hC.a8.gr hg;rw [← e0] at hS hJ;have Mx:=hS.act hJ kO hi hO hg;have My:=aO (hx.trans hw) hg (Nat.le_refl _) hC.a8.bc;replace hb:=hb.aw hG rfl;refine Wz ?_;refine ah.cb rfl rfl rfl ⟨_,rfl,_,.uM wx,My,fun j x hj h=>(h.ext hw).aw hG rfl,fun j x hj h=>(h.ext hw).grown hg (hJ.ne hj kO),.inr ⟨_,rfl,rfl,r.Words,r.Heap,cs,hb,?_⟩⟩
    have HZ:rO s.aa[i] cpu k=⟨s.aa[i].Names,s.aa[i].aE,s.aa[i].bG,s.aa[i].Order,s.aa[i].ab,s.aa[i].ar.set cpu y.At⟩:=by
     unfold rO;rw [ew hk,hy]
    simp only;rw [HZ];exact Mx
   ·have Dl:k6 s.aa[i] cpu<0:=by omega
    refine Wz ?_;all_goals try omega
    refine SW.dt rfl rfl (Bw G wb _ b r s cs i cpu hf hi hM (kq.ext hw) (hx.trans hw) hb Af hS (fun g hg=>⟨Nat.lt_of_lt_of_le (Ms g hg) hw.size,fun u hu=>hJ.sep u hu g hg⟩) xS) fun v rN hv => ?_
    obtain ⟨⟨h',at',e⟩,hu,hv⟩:=hv;simp only at hv;rcases hv with ⟨he,rfl,nN⟩|⟨rfl,Mz,rfl,nN⟩|⟨rfl,iS,rfl,nN,tN,Aw,xG,X,H,cs',ka,uI,D4⟩
    ·refine Wz ?_;all_goals try omega
     exact ah.cb rfl rfl rfl ⟨_,rfl,_,.room Dl hu he,(hx.trans hw).trans nN,fun j x hj h=>(h.ext hw).ext nN,fun j x hj h=>(h.ext hw).ext nN,.inl ⟨rfl,he,rfl⟩⟩
    ·refine Wz ?_;all_goals try omega
     exact ah.cb rfl rfl rfl ⟨_,rfl,_,.chain Dl hu rfl Mz,(hx.trans hw).trans nN,fun j x hj h=>(h.ext hw).ext nN,fun j x hj h=>(h.ext hw).ext nN,.inl ⟨rfl,by simp,rfl⟩⟩
    ·replace bA:=Aw _ _ bA;obtain ⟨e3,e4⟩:=uI.rows;have rP:i<cs'.length:=by simp only [kU] at e3;omega
     obtain ⟨k,JQ⟩ : ∃ k,dT s.aa[i] at'=k:=⟨_,rfl⟩
     obtain ⟨c1,xf⟩ : ∃ c1,dz s.aa[i] at'=c1:=⟨_,rfl⟩
     have Cc:=mi s.aa[i] at'
     have zf:c1.ab.length=s.aa[i].ab.length+1:=by
      rw [← xf];exact cf _ Cc _
     have Cb:k<c1.ab.length:=by omega
     have OG:c1.ab[k]=⟨at',s.aa[i].bG,16*at'⟩:=by
      subst xf;subst JQ;exact wk Cc Cb
     have H9:c1.ar=s.aa[i].ar:=by rw [← xf];rfl
     have wy:=qF.new Dl hu rfl iS;rw [xf] at uI D4;rw [JQ];simp only [xf,JQ] at wy;have hC:=uI.get rP hi;simp only at hC;have q5:=hC.aH.len;have q6:=hC.a8.len;have dY:k<cs'[i].ab.n:=by omega
     have MA:cpu<cs'[i].ar.n:=by rw [← q6,H9];exact lT
     have QV:=hC.aH.sl.base;have QW:=hC.a8.sl.base;have gY:∀ w',SX w' wb.heap.size ⟨X,H,r.aa⟩ (bV (kU s (er s.Words (16*at') s.aa[i].aE s.aa[i].bG)) i (h',c1)) cs'→w'.cell? ((((cs'[i].ab.A).getD default).add (k*3)).add 0)=some (Value.int .i64 at'):=fun w' h=>(h.get rP hi).aH.sl.fw dY (j:=0) (show (aX (c1.ab[k]'(by omega)))[0]?=some (Value.int .i64 at') by rw [OG];rfl)
     clear hC hS hJ hb;have OH:=hw;have hw:=Ext.refl rN;refine Wz ?_;all_goals try omega
     refine CW.iL 14 14 (fun _=>True) mixed (by kernel_rfl) fun w1 ae aJ => ?_
     replace hw:=Ext.trans hw ae;replace ka:=ka.ext ae;replace bA:=bA.ext ae;replace uI:=uI.ext ae;replace D4:=D4.ext ae;clear ae;refine SF.take 0 [] [] aJ rfl (by kernel_rfl) (by kernel_rfl) (by kernel_rfl) ?_;repeat ((show SW _ _ _ _ (⟨_,Op.load _ _,_,_,_,none⟩::_) _ _;refine SW.st (aq rfl (Ew _ bA)) rfl ?_))
     refine SW.ai ?_;refine SF.take 1 [] [] aJ rfl (by kernel_rfl) (by kernel_rfl) (by kernel_rfl) ?_;repeat ((show SW _ _ _ _ (⟨_,Op.nilCheck _,_,_,_,none⟩::_) _ _;refine SW.st (aC rfl) rfl ?_))
     refine SW.ai ?_;refine SF.take 2 [] [] aJ rfl (by kernel_rfl) (by kernel_rfl) (by kernel_rfl) ?_;repeat ((show SW _ _ _ _ (⟨_,Op.fieldAddr _ _ _,_,_,_,none⟩::_) _ _;refine SW.st (aP rfl) rfl ?_))
     refine SW.ai ?_;refine SF.take 3 [] [] aJ rfl (by kernel_rfl) (by kernel_rfl) (by kernel_rfl) ?_;repeat ((show SW _ _ _ _ (⟨_,Op.load _ _,_,_,_,none⟩::_) _ _;refine SW.st (aq rfl (uI.row.sl.fw df (j:=5) (u := .slice cs'[i].ar.A cs'[i].ar.n cs'[i].ar.c) rfl)) rfl ?_))
     refine SW.ai ?_;refine SF.take 4 [] [] aJ rfl (by kernel_rfl) (by kernel_rfl) (by kernel_rfl) ?_;repeat (refine SW.pure rfl rfl ?_)
     refine SW.ai ?_;refine SF.take 5 [] [] aJ rfl (by kernel_rfl) (by kernel_rfl) (by kernel_rfl) ?_;repeat ((show SW _ _ _ _ (⟨_,Op.load _ _,_,_,_,none⟩::_) _ _;refine SW.st (aq rfl (Ew _ bA)) rfl ?_))
     refine SW.ai ?_;refine SF.take 6 [] [] aJ rfl (by kernel_rfl) (by kernel_rfl) (by kernel_rfl) ?_;repeat ((show SW _ _ _ _ (⟨_,Op.nilCheck _,_,_,_,none⟩::_) _ _;refine SW.st (aC rfl) rfl ?_))
     refine SW.ai ?_;refine SF.take 7 [] [] aJ rfl (by kernel_rfl) (by kernel_rfl) (by kernel_rfl) ?_;repeat ((show SW _ _ _ _ (⟨_,Op.fieldAddr _ _ _,_,_,_,none⟩::_) _ _;refine SW.st (aP rfl) rfl ?_))
     refine SW.ai ?_;refine SF.take 8 [] [] aJ rfl (by kernel_rfl) (by kernel_rfl) (by kernel_rfl) ?_;repeat ((show SW _ _ _ _ (⟨_,Op.load _ _,_,_,_,none⟩::_) _ _;refine SW.st (aq rfl (uI.row.sl.fw df (j:=4) (u := .slice cs'[i].ab.A cs'[i].ab.n cs'[i].ab.c) rfl)) rfl ?_))
     refine SW.ai ?_;refine SF.take 9 [] [] aJ rfl (by kernel_rfl) (by kernel_rfl) (by kernel_rfl) ?_;repeat (refine SW.pure rfl rfl ?_)
     refine SW.ai ?_;refine SF.take 10 [] [] aJ rfl (by kernel_rfl) (by kernel_rfl) (by kernel_rfl) ?_;repeat ((show SW _ _ _ _ (⟨_,Op.indexAddr _ _ _,_,_,_,none⟩::_) _ _;refine SW.st (bJ rfl rfl (by assumption) (by omega)) rfl ?_))
     refine SW.ai ?_;refine SF.take 11 [] [] aJ rfl (by kernel_rfl) (by kernel_rfl) (by kernel_rfl) ?_;repeat ((show SW _ _ _ _ (⟨_,Op.fieldAddr _ _ _,_,_,_,none⟩::_) _ _;refine SW.st (aP rfl) rfl ?_))
     refine SW.ai ?_;refine SF.take 12 [] [] aJ rfl (by kernel_rfl) (by kernel_rfl) (by kernel_rfl) ?_;repeat ((show SW _ _ _ _ (⟨_,Op.load _ _,_,_,_,none⟩::_) _ _;refine SW.st (aq rfl (gY _ uI)) rfl ?_))
     refine SW.ai ?_;refine SF.take 13 [] [] aJ rfl (by kernel_rfl) (by kernel_rfl) (by kernel_rfl) ?_;repeat ((show SW _ _ _ _ (⟨_,Op.indexAddr _ _ _,_,_,_,none⟩::_) _ _;refine SW.st (bJ rfl rfl (by assumption) (by omega)) rfl ?_))
     refine SW.ai ?_;refine SF.last rfl (by kernel_rfl) (by kernel_rfl) ?_;have hC:=uI.get rP hi;simp only at hC;refine SW.oB cpu hC.a8 rfl rfl MA fun xA hO hg => ?_
     have hG:=hC.a8.gr hg;have Mx:=uI.act D4 rP hi hO hg;have My:=aO (nN.trans hw) hg (Nat.le_refl _) hC.a8.bc;replace ka:=ka.aw hG rfl;refine Wz ?_;refine ah.cb rfl rfl rfl ⟨_,rfl,_,wy,My,fun j x hj h=>((tN j x hj (h.ext OH)).ext hw).aw hG rfl,fun j x hj h=>((xG j x (h.ext OH)).ext hw).grown hg (D4.ne hj rP),.inr ⟨_,rfl,rfl,X,H,cs',ka,?_⟩⟩
     have HZ:rO c1 cpu k=⟨c1.Names,c1.aE,c1.bG,c1.Order,c1.ab,c1.ar.set cpu at'⟩:=by
      unfold rO;rw [ew Cb,OG]
     simp only;rw [HZ];exact Mx
  ·have QX:k2<cs[i].ab.n:=by omega
   obtain ⟨y2,Oj⟩ : ∃ y2,s.aa[i].ab[k2]=y2:=⟨_,rfl⟩;have Ue : ¬ 0<y2.aj:=fun h=>hA ⟨k2,r8,H4,by rw [Oj];exact h⟩
   have Uf:∀ w',SX w' wb.heap.size r s cs→w'.cell? ((((cs[i].ab.A).getD default).add (k2*3)).add 1)=some (Value.int .i64 y2.aj):=fun w' h=>(h.each.get i kO hi).aH.sl.fw QX (j:=1) (show (aX (s.aa[i].ab[k2]'(by omega)))[1]?=some (Value.int .i64 y2.aj) by rw [Oj];rfl)
   subst H4;repeat' (first|refine Wz ?_|((apply CW.bl mixed;(· kernel_rfl);rotate_left;intro w1 ae;replace hw:=Ext.trans hw ae;replace hb:=hb.ext ae;replace bA:=bA.ext ae;replace hS:=hS.ext ae;replace hJ:=hJ.ext ae;clear ae;rotate_right))|refine SW.st (aq rfl (Ew _ bA)) rfl ?_|refine SW.st (aB rfl rfl ((hS.row.sl.all df))) rfl ?_|refine SW.st (aq rfl (hS.row.sl.fw df (j:=5) (u := .slice cs[i].ar.A cs[i].ar.n cs[i].ar.c) rfl)) rfl ?_|refine SW.st (aq rfl (gA _ hS)) rfl ?_|refine SW.st (aq rfl (hS.row.sl.fw df (j:=4) (u := .slice cs[i].ab.A cs[i].ab.n cs[i].ab.c) rfl)) rfl ?_|refine SW.st (aq rfl (Uf _ hS)) rfl ?_|refine SW.cx rfl rfl (fun w1 ae=>(cF _ (Ext.trans hw ae))) ?_|(refine SW.st (gI (vs:=[.pointer (some ⟨b8,0,none⟩)]) rfl) rfl ?_)|exact SW.dF rfl)
   all_goals try omega
   replace hw:=Ext.trans Gk hw;clear Gk cF hC;have hC:=hS.each.get i kO hi;have H7:=hS.row.sl.fw df (j:=5) (u := .slice cs[i].ar.A cs[i].ar.n cs[i].ar.c) rfl;refine SW.call rfl rfl (gQ _ _ _ s.aa[i].ab _ hC.aH.sl _ [.pointer (some ⟨b8,0,none⟩)] (tL s.aa[i]) (fun x => .agg (aX x).toArray) (fun x=>rfl) (fun x uw w1 jn=>tP x b8 _ cs[i].ar.A cs[i].ar.n cs[i].ar.c s.aa[i].ar w1 (bA.ext jn) (jn.cell H7) (hC.a8.sl.ext jn) (by omega)) (by omega)) fun v w9 ap hv => ?_
   subst hv;(replace hw:=Ext.trans hw ap;replace hb:=hb.ext ap;replace bA:=bA.ext ap;replace hS:=hS.ext ap;replace hJ:=hJ.ext ap);clear hC H7;obtain ⟨z,hz⟩ : ∃ z,idxOf (tL s.aa[i]) s.aa[i].ab=z:=⟨_,rfl⟩;rw [hz]
   have wx:k6 s.aa[i] cpu=z:=by
    unfold k6;rw [ho,if_neg EK,hz]
   by_cases G4 : 0≤z
   ·obtain ⟨k,rfl⟩:=Int.eq_ofNat_of_zero_le G4;obtain ⟨hk,jC⟩:=zL wx;have dY:k<cs[i].ab.n:=by omega
    obtain ⟨y,hy⟩ : ∃ y,s.aa[i].ab[k]=y:=⟨_,rfl⟩;have gY:∀ w',SX w' wb.heap.size r s cs→w'.cell? ((((cs[i].ab.A).getD default).add (k*3)).add 0)=some (Value.int .i64 y.At):=fun w' h=>(h.each.get i kO hi).aH.sl.fw dY (j:=0) (show (aX (s.aa[i].ab[k]'(by omega)))[0]?=some (Value.int .i64 y.At) by rw [hy];rfl)
    refine Wz ?_;all_goals try omega
    refine CW.iL 14 14 (fun _=>True) mixed (by kernel_rfl) fun w1 ae aJ => ?_
    replace hw:=Ext.trans hw ae;replace hb:=hb.ext ae;replace bA:=bA.ext ae;replace hS:=hS.ext ae;replace hJ:=hJ.ext ae;clear ae;refine SF.take 0 [] [] aJ rfl (by kernel_rfl) (by kernel_rfl) (by kernel_rfl) ?_;repeat ((show SW _ _ _ _ (⟨_,Op.load _ _,_,_,_,none⟩::_) _ _;refine SW.st (aq rfl (Ew _ bA)) rfl ?_))
    refine SW.ai ?_;refine SF.take 1 [] [] aJ rfl (by kernel_rfl) (by kernel_rfl) (by kernel_rfl) ?_;repeat ((show SW _ _ _ _ (⟨_,Op.nilCheck _,_,_,_,none⟩::_) _ _;refine SW.st (aC rfl) rfl ?_))
    refine SW.ai ?_;refine SF.take 2 [] [] aJ rfl (by kernel_rfl) (by kernel_rfl) (by kernel_rfl) ?_;repeat ((show SW _ _ _ _ (⟨_,Op.fieldAddr _ _ _,_,_,_,none⟩::_) _ _;refine SW.st (aP rfl) rfl ?_))
    refine SW.ai ?_;refine SF.take 3 [] [] aJ rfl (by kernel_rfl) (by kernel_rfl) (by kernel_rfl) ?_;repeat ((show SW _ _ _ _ (⟨_,Op.load _ _,_,_,_,none⟩::_) _ _;refine SW.st (aq rfl (hS.row.sl.fw df (j:=5) (u := .slice cs[i].ar.A cs[i].ar.n cs[i].ar.c) rfl)) rfl ?_))
    refine SW.ai ?_;refine SF.take 4 [] [] aJ rfl (by kernel_rfl) (by kernel_rfl) (by kernel_rfl) ?_;repeat (refine SW.pure rfl rfl ?_)
    refine SW.ai ?_;refine SF.take 5 [] [] aJ rfl (by kernel_rfl) (by kernel_rfl) (by kernel_rfl) ?_;repeat ((show SW _ _ _ _ (⟨_,Op.load _ _,_,_,_,none⟩::_) _ _;refine SW.st (aq rfl (Ew _ bA)) rfl ?_))
    refine SW.ai ?_;refine SF.take 6 [] [] aJ rfl (by kernel_rfl) (by kernel_rfl) (by kernel_rfl) ?_;repeat ((show SW _ _ _ _ (⟨_,Op.nilCheck _,_,_,_,none⟩::_) _ _;refine SW.st (aC rfl) rfl ?_))
    refine SW.ai ?_;refine SF.take 7 [] [] aJ rfl (by kernel_rfl) (by kernel_rfl) (by kernel_rfl) ?_;repeat ((show SW _ _ _ _ (⟨_,Op.fieldAddr _ _ _,_,_,_,none⟩::_) _ _;refine SW.st (aP rfl) rfl ?_))
    refine SW.ai ?_;refine SF.take 8 [] [] aJ rfl (by kernel_rfl) (by kernel_rfl) (by kernel_rfl) ?_;repeat ((show SW _ _ _ _ (⟨_,Op.load _ _,_,_,_,none⟩::_) _ _;refine SW.st (aq rfl (hS.row.sl.fw df (j:=4) (u := .slice cs[i].ab.A cs[i].ab.n cs[i].ab.c) rfl)) rfl ?_))
    refine SW.ai ?_;refine SF.take 9 [] [] aJ rfl (by kernel_rfl) (by kernel_rfl) (by kernel_rfl) ?_;repeat (refine SW.pure rfl rfl ?_)
    refine SW.ai ?_;refine SF.take 10 [] [] aJ rfl (by kernel_rfl) (by kernel_rfl) (by kernel_rfl) ?_;repeat ((show SW _ _ _ _ (⟨_,Op.indexAddr _ _ _,_,_,_,none⟩::_) _ _;refine SW.st (bJ rfl rfl (by assumption) (by omega)) rfl ?_))
    refine SW.ai ?_;refine SF.take 11 [] [] aJ rfl (by kernel_rfl) (by kernel_rfl) (by kernel_rfl) ?_;repeat ((show SW _ _ _ _ (⟨_,Op.fieldAddr _ _ _,_,_,_,none⟩::_) _ _;refine SW.st (aP rfl) rfl ?_))
    refine SW.ai ?_;refine SF.take 12 [] [] aJ rfl (by kernel_rfl) (by kernel_rfl) (by kernel_rfl) ?_;repeat ((show SW _ _ _ _ (⟨_,Op.load _ _,_,_,_,none⟩::_) _ _;refine SW.st (aq rfl (gY _ hS)) rfl ?_))
    refine SW.ai ?_;refine SF.take 13 [] [] aJ rfl (by kernel_rfl) (by kernel_rfl) (by kernel_rfl) ?_;repeat ((show SW _ _ _ _ (⟨_,Op.indexAddr _ _ _,_,_,_,none⟩::_) _ _;refine SW.st (bJ rfl rfl (by assumption) (by omega)) rfl ?_))
    refine SW.ai ?_;refine SF.last rfl (by kernel_rfl) (by kernel_rfl) ?_;have hC:=hS.each.get i kO hi;refine SW.oB cpu hC.a8 rfl rfl Lz fun rN hO hg => ?_
    have hG:=hC.a8.gr hg;rw [← e0] at hS hJ;have Mx:=hS.act hJ kO hi hO hg;have My:=aO (hx.trans hw) hg (Nat.le_refl _) hC.a8.bc;replace hb:=hb.aw hG rfl;refine Wz ?_;refine ah.cb rfl rfl rfl ⟨_,rfl,_,.uM wx,My,fun j x hj h=>(h.ext hw).aw hG rfl,fun j x hj h=>(h.ext hw).grown hg (hJ.ne hj kO),.inr ⟨_,rfl,rfl,r.Words,r.Heap,cs,hb,?_⟩⟩
    have HZ:rO s.aa[i] cpu k=⟨s.aa[i].Names,s.aa[i].aE,s.aa[i].bG,s.aa[i].Order,s.aa[i].ab,s.aa[i].ar.set cpu y.At⟩:=by
     unfold rO;rw [ew hk,hy]
    simp only;rw [HZ];exact Mx
   ·have Dl:k6 s.aa[i] cpu<0:=by omega
    refine Wz ?_;all_goals try omega
    refine SW.dt rfl rfl (Bw G wb _ b r s cs i cpu hf hi hM (kq.ext hw) (hx.trans hw) hb Af hS (fun g hg=>⟨Nat.lt_of_lt_of_le (Ms g hg) hw.size,fun u hu=>hJ.sep u hu g hg⟩) xS) fun v rN hv => ?_
    obtain ⟨⟨h',at',e⟩,hu,hv⟩:=hv;simp only at hv;rcases hv with ⟨he,rfl,nN⟩|⟨rfl,Mz,rfl,nN⟩|⟨rfl,iS,rfl,nN,tN,Aw,xG,X,H,cs',ka,uI,D4⟩
    ·refine Wz ?_;all_goals try omega
     exact ah.cb rfl rfl rfl ⟨_,rfl,_,.room Dl hu he,(hx.trans hw).trans nN,fun j x hj h=>(h.ext hw).ext nN,fun j x hj h=>(h.ext hw).ext nN,.inl ⟨rfl,he,rfl⟩⟩
    ·refine Wz ?_;all_goals try omega
     exact ah.cb rfl rfl rfl ⟨_,rfl,_,.chain Dl hu rfl Mz,(hx.trans hw).trans nN,fun j x hj h=>(h.ext hw).ext nN,fun j x hj h=>(h.ext hw).ext nN,.inl ⟨rfl,by simp,rfl⟩⟩
    ·replace bA:=Aw _ _ bA;obtain ⟨e3,e4⟩:=uI.rows;have rP:i<cs'.length:=by simp only [kU] at e3;omega
     obtain ⟨k,JQ⟩ : ∃ k,dT s.aa[i] at'=k:=⟨_,rfl⟩
     obtain ⟨c1,xf⟩ : ∃ c1,dz s.aa[i] at'=c1:=⟨_,rfl⟩
     have Cc:=mi s.aa[i] at'
     have zf:c1.ab.length=s.aa[i].ab.length+1:=by
      rw [← xf];exact cf _ Cc _
     have Cb:k<c1.ab.length:=by omega
     have OG:c1.ab[k]=⟨at',s.aa[i].bG,16*at'⟩:=by
      subst xf;subst JQ;exact wk Cc Cb
     have H9:c1.ar=s.aa[i].ar:=by rw [← xf];rfl
     have wy:=qF.new Dl hu rfl iS;rw [xf] at uI D4;rw [JQ];simp only [xf,JQ] at wy;have hC:=uI.get rP hi;simp only at hC;have q5:=hC.aH.len;have q6:=hC.a8.len;have dY:k<cs'[i].ab.n:=by omega
     have MA:cpu<cs'[i].ar.n:=by rw [← q6,H9];exact lT
     have QV:=hC.aH.sl.base;have QW:=hC.a8.sl.base;have gY:∀ w',SX w' wb.heap.size ⟨X,H,r.aa⟩ (bV (kU s (er s.Words (16*at') s.aa[i].aE s.aa[i].bG)) i (h',c1)) cs'→w'.cell? ((((cs'[i].ab.A).getD default).add (k*3)).add 0)=some (Value.int .i64 at'):=fun w' h=>(h.get rP hi).aH.sl.fw dY (j:=0) (show (aX (c1.ab[k]'(by omega)))[0]?=some (Value.int .i64 at') by rw [OG];rfl)
     clear hC hS hJ hb;have OH:=hw;have hw:=Ext.refl rN;refine Wz ?_;all_goals try omega
     refine CW.iL 14 14 (fun _=>True) mixed (by kernel_rfl) fun w1 ae aJ => ?_
     replace hw:=Ext.trans hw ae;replace ka:=ka.ext ae;replace bA:=bA.ext ae;replace uI:=uI.ext ae;replace D4:=D4.ext ae;clear ae;refine SF.take 0 [] [] aJ rfl (by kernel_rfl) (by kernel_rfl) (by kernel_rfl) ?_;repeat ((show SW _ _ _ _ (⟨_,Op.load _ _,_,_,_,none⟩::_) _ _;refine SW.st (aq rfl (Ew _ bA)) rfl ?_))
     refine SW.ai ?_;refine SF.take 1 [] [] aJ rfl (by kernel_rfl) (by kernel_rfl) (by kernel_rfl) ?_;repeat ((show SW _ _ _ _ (⟨_,Op.nilCheck _,_,_,_,none⟩::_) _ _;refine SW.st (aC rfl) rfl ?_))
     refine SW.ai ?_;refine SF.take 2 [] [] aJ rfl (by kernel_rfl) (by kernel_rfl) (by kernel_rfl) ?_;repeat ((show SW _ _ _ _ (⟨_,Op.fieldAddr _ _ _,_,_,_,none⟩::_) _ _;refine SW.st (aP rfl) rfl ?_))
     refine SW.ai ?_;refine SF.take 3 [] [] aJ rfl (by kernel_rfl) (by kernel_rfl) (by kernel_rfl) ?_;repeat ((show SW _ _ _ _ (⟨_,Op.load _ _,_,_,_,none⟩::_) _ _;refine SW.st (aq rfl (uI.row.sl.fw df (j:=5) (u := .slice cs'[i].ar.A cs'[i].ar.n cs'[i].ar.c) rfl)) rfl ?_))
     refine SW.ai ?_;refine SF.take 4 [] [] aJ rfl (by kernel_rfl) (by kernel_rfl) (by kernel_rfl) ?_;repeat (refine SW.pure rfl rfl ?_)
     refine SW.ai ?_;refine SF.take 5 [] [] aJ rfl (by kernel_rfl) (by kernel_rfl) (by kernel_rfl) ?_;repeat ((show SW _ _ _ _ (⟨_,Op.load _ _,_,_,_,none⟩::_) _ _;refine SW.st (aq rfl (Ew _ bA)) rfl ?_))
     refine SW.ai ?_;refine SF.take 6 [] [] aJ rfl (by kernel_rfl) (by kernel_rfl) (by kernel_rfl) ?_;repeat ((show SW _ _ _ _ (⟨_,Op.nilCheck _,_,_,_,none⟩::_) _ _;refine SW.st (aC rfl) rfl ?_))
     refine SW.ai ?_;refine SF.take 7 [] [] aJ rfl (by kernel_rfl) (by kernel_rfl) (by kernel_rfl) ?_;repeat ((show SW _ _ _ _ (⟨_,Op.fieldAddr _ _ _,_,_,_,none⟩::_) _ _;refine SW.st (aP rfl) rfl ?_))
     refine SW.ai ?_;refine SF.take 8 [] [] aJ rfl (by kernel_rfl) (by kernel_rfl) (by kernel_rfl) ?_;repeat ((show SW _ _ _ _ (⟨_,Op.load _ _,_,_,_,none⟩::_) _ _;refine SW.st (aq rfl (uI.row.sl.fw df (j:=4) (u := .slice cs'[i].ab.A cs'[i].ab.n cs'[i].ab.c) rfl)) rfl ?_))
     refine SW.ai ?_;refine SF.take 9 [] [] aJ rfl (by kernel_rfl) (by kernel_rfl) (by kernel_rfl) ?_;repeat (refine SW.pure rfl rfl ?_)
     refine SW.ai ?_;refine SF.take 10 [] [] aJ rfl (by kernel_rfl) (by kernel_rfl) (by kernel_rfl) ?_;repeat ((show SW _ _ _ _ (⟨_,Op.indexAddr _ _ _,_,_,_,none⟩::_) _ _;refine SW.st (bJ rfl rfl (by assumption) (by omega)) rfl ?_))
     refine SW.ai ?_;refine SF.take 11 [] [] aJ rfl (by kernel_rfl) (by kernel_rfl) (by kernel_rfl) ?_;repeat ((show SW _ _ _ _ (⟨_,Op.fieldAddr _ _ _,_,_,_,none⟩::_) _ _;refine SW.st (aP rfl) rfl ?_))
     refine SW.ai ?_;refine SF.take 12 [] [] aJ rfl (by kernel_rfl) (by kernel_rfl) (by kernel_rfl) ?_;repeat ((show SW _ _ _ _ (⟨_,Op.load _ _,_,_,_,none⟩::_) _ _;refine SW.st (aq rfl (gY _ uI)) rfl ?_))
     refine SW.ai ?_;refine SF.take 13 [] [] aJ rfl (by kernel_rfl) (by kernel_rfl) (by kernel_rfl) ?_;repeat ((show SW _ _ _ _ (⟨_,Op.indexAddr _ _ _,_,_,_,none⟩::_) _ _;refine SW.st (bJ rfl rfl (by assumption) (by omega)) rfl ?_))
     refine SW.ai ?_;refine SF.last rfl (by kernel_rfl) (by kernel_rfl) ?_;have hC:=uI.get rP hi;simp only at hC;refine SW.oB cpu hC.a8 rfl rfl MA fun xA hO hg => ?_
     have hG:=hC.a8.gr hg;have Mx:=uI.act D4 rP hi hO hg;have My:=aO (nN.trans hw) hg (Nat.le_refl _) hC.a8.bc;replace ka:=ka.aw hG rfl;refine Wz ?_;refine ah.cb rfl rfl rfl ⟨_,rfl,_,wy,My,fun j x hj h=>((tN j x hj (h.ext OH)).ext hw).aw hG rfl,fun j x hj h=>((xG j x (h.ext OH)).ext hw).grown hg (D4.ne hj rP),.inr ⟨_,rfl,rfl,X,H,cs',ka,?_⟩⟩
     have HZ:rO c1 cpu k=⟨c1.Names,c1.aE,c1.bG,c1.Order,c1.ab,c1.ar.set cpu at'⟩:=by
      unfold rO;rw [ew Cb,OG]
     simp only;rw [HZ];exact Mx
def MB (G:Nat→Prop) (wb w0:World) (b:Nat) (r:eQ) (s:ag) (i:Nat) (c:aF) (cpu:Nat) (v:Value) (w':World) : Prop :=
 ∃ m,qF s c cpu m∧Ext wb w'∧(∀ j x,j≠b→aW w0 j 44 x→aW w' j 44 x)∧(∀ j x,G j→aW w0 j 3 x→aW w' j 3 x) ∧
  ((m.1=none∧m.2≠0∧v = .tuple #[.int .i64 0,.int .i64 m.2]) ∨
   ∃ M,m=(some M,0)∧v = .tuple #[.int .i64 (iV M.c M.k).cr,.int .i64 0] ∧ ∃ X H cs',aW w' b 44 (ba ⟨X,H,r.aa⟩)∧SX w' wb.heap.size ⟨X,H,r.aa⟩ (bV (kU s M.ws) i (M.h,dp M.c cpu M.k (M.ws.getD (iV M.c M.k).cr.toNat 0))) cs'∧SJ G w' wb.heap.size ⟨X,H,r.aa⟩ (bV (kU s M.ws) i (M.h,dp M.c cpu M.k (M.ws.getD (iV M.c M.k).cr.toNat 0))) cs')
theorem pS.JT {w w':World} {lo:Nat} {r:eQ} {s:ag} {cs:List dv} {i:Nat} {p:Heap×aF} {l':List Slab} (h:SX w lo r (bV s i p) cs) (hi:i<cs.length) (r6:i<s.aa.length) (hO:Own w' lo 91 3 aX cs[i].ab.A cs[i].ab.n cs[i].ab.c l') (hg:w.grownBy w' (aM cs[i].ab.A cs[i].ab.c)) :
 SX w' lo r (bV s i (p.1,⟨p.2.Names,p.2.aE,p.2.bG,p.2.Order,l',p.2.ar⟩)) cs:=by
 have:=h.zH hi r6 hO hg
 have e:cs.set i ⟨cs[i].Names,cs[i].aE,cs[i].bG,cs[i].Order,⟨cs[i].ab.A,cs[i].ab.n,cs[i].ab.c⟩,cs[i].ar⟩=cs:=List.set_getElem_self hi
 rwa [e] at this
set_option maxHeartbeats 4000000 in
theorem JU (G:Nat→Prop) (wb w0:World) (b:Nat) (r:eQ) (s:ag) (cs:List dv) (i cpu:Nat) (hf:s.dW) (hi:i<s.aa.length) (hM:wj s s.aa[i]) (kq:nq w0)
 (hx:Ext wb w0) (hb:aW w0 b 44 (ba r)) (Af:wb.heap.size≤b) (hS:SX w0 wb.heap.size r s cs) (hJ:SJ G w0 wb.heap.size r s cs) (Ms:∀ g,G g→g<w0.heap.size) (lT:cpu<s.aa[i].ar.length) (xS:(s.aa[i].ab.length+1)*24≤140737488355328) :
 jw Tryz.prog 151 [.pointer (some ⟨b,0,none⟩),.int .i64 (i:Int),.int .i64 (cpu:Int)] w0 (MB G wb w0 b r s i s.aa[i] cpu):=by
 refine dM Tryz.func151 rfl Tryz.ntmps151 rfl ?_;have hm:=hM.most;have Oy:=hS.row.sl.base;obtain ⟨e1,e2⟩:=hS.len;have df:i<r.aa.n:=by omega
 refine Wz ?_;refine SW.dt rfl rfl (Dk G wb _ b r s cs i cpu hf hi hM kq hx hb Af hS hJ Ms lT xS) fun v w1 hv => ?_
 obtain ⟨m,wy,jn,tN,xG,hv⟩:=hv;rcases hv with ⟨hn,he,rfl⟩|⟨M,rfl,rfl,X,H,cs',aI,MC,Ug⟩
 ·have hw:=Ext.refl w1;refine Wz ?_;all_goals try omega
  exact ah.cb rfl rfl rfl ⟨_,rfl,m,wy,jn,tN,xG,.inl ⟨hn,he,rfl⟩⟩
 ·have jv:=wy.MZ hM M rfl;obtain ⟨e3,e4⟩:=MC.rows;simp only [kU] at e3;have rP:i<cs'.length:=by omega
  obtain ⟨k,hk⟩ : ∃ k,M.k=k:=⟨_,rfl⟩;have fe:=jv.hk;have Sg:=jv.first
  have NP:=jv.free;have NT:=jv.len;obtain ⟨y,hy⟩ : ∃ y,M.c.ab[M.k]=y:=⟨_,rfl⟩;have QY:iV M.c M.k=y:=by rw [ew fe,hy]
  rw [hy] at Sg NP;obtain ⟨an,OI⟩:=Int.eq_ofNat_of_zero_le Sg.1;have hC:=MC.get rP hi;simp only [rO] at hC;have q1:M.c.ab.length=cs'[i].ab.n:=hC.aH.len
  have q2:=MC.words.len;have Si:X.n=M.ws.length:=q2.symm
  have oS:M.k<cs'[i].ab.n:=by omega
  have Nd:=hC.aH.sl.base;have Uh:=MC.words.sl.base;have g2:=hC.aH.sl.fw oS (j:=2) (show (aX (M.c.ab[M.k]'(by omega)))[2]?=some (Value.int .i64 (an:Int)) by rw [hy,← OI];rfl);have QZ:an<M.ws.length:=by omega
  have Q0:an<X.n:=by omega
  have gW:=MC.words.sl.one Q0 (u := .int .i64 M.ws[an]) rfl;have hw:=Ext.refl w1;repeat' (first|refine Wz ?_|refine SW.st (aq rfl (MC.row.sl.fw df (j:=4) (u := .slice cs'[i].ab.A cs'[i].ab.n cs'[i].ab.c) rfl)) rfl ?_|refine SW.st (aq rfl g2) rfl ?_|refine SW.st (aq rfl gW) rfl ?_)
  all_goals try omega
  refine SW.fH M.k 2 ⟨y.At,y.aj,M.ws[an]⟩ hC.aH rfl rfl rfl oS (by decide) rfl (by simp only [hy];rfl) fun w8 Nh Mp => ?_
  have g8:=Nh.sl.fw oS (j:=1) (show (aX ((M.c.ab.set M.k ⟨y.At,y.aj,M.ws[an]⟩)[M.k]'(by rw [List.length_set];exact fe)))[1]?=some (Value.int .i64 y.aj) by rw [List.getElem_set_self];rfl);repeat' (first|refine Wz ?_|refine SW.st (aq rfl g8) rfl ?_)
  refine SW.fH M.k 1 ⟨y.At,y.aj-1,M.ws[an]⟩ Nh rfl rfl rfl oS (by decide) rfl (by simp only [List.getElem_set_self];rfl) fun w9 Ni Pw => ?_
  have xJ:=bH Mp Pw (.inl rfl);rw [List.set_set] at Ni;have KN:=hC.aH.gr xJ;have mS:=MC.JT rP hi Ni xJ;have Ui:=aO jn xJ (Nat.le_refl _) hC.aH.bc;replace aI:=aI.aw KN rfl;refine Wz ?_;refine ah.cb rfl rfl rfl ⟨_,rfl,_,wy,Ui,fun j x hj h=>(tN j x hj h).aw KN rfl,fun j x hj h=>(xG j x hj h).aw KN rfl,.inr ⟨M,rfl,by rw [QY,OI],X,H,cs',aI,?_⟩⟩
  have HZ:dp M.c cpu M.k (M.ws.getD (iV M.c M.k).cr.toNat 0)=⟨M.c.Names,M.c.aE,M.c.bG,M.c.Order,M.c.ab.set M.k ⟨y.At,y.aj-1,M.ws[an]⟩,M.c.ar.set cpu y.At⟩:=by
   unfold dp;rw [QY,OI];simp [QZ]
  rw [HZ];simp only [rO,QY] at mS;exact ⟨mS,(Ug.aw KN rfl).rows rfl fun u hu=>⟨u,hu,rfl⟩⟩
set_option maxHeartbeats 4000000 in
theorem xC (r:eQ) (s:ag) (n:ByteArray) (cpu:Int) (w:World) (hr:Ab w r s) (hf:s.dW) (Ng:n.size≤140737488351232) (kq:nq w) :
 bq Tryz.prog 66 [.agg (ba r).toArray,.string n,.int .i64 cpu] w fun v w' => ∃ u,om s n cpu u ∧ ∃ q,v = .tuple #[.agg (ba q).toArray,.int .i64 u.2.1,.int .i64 u.2.2]∧lR w' w.heap.size q u.1:=by
 refine aG Tryz.func66 rfl Tryz.ntmps66 rfl ?_;refine CW.seq (CW.region (SW.box rfl rfl fun b3 w1 hw bQ ax => ?_));refine SW.alloc rfl fun b6 w3 jA eu aA => ?_
 have dl:w.heap.size≤b6:=Nat.le_trans hw.size eu
 have bW:b6≠b3:=by have:=ax.lt;omega
 have hz:∀ w',lR w' w.heap.size eQ.zero ag.zero:=fun w'=>⟨Own.gz _ _ _ _ _ _,gZ.zero w' _,⟨[],dV.nil _ _⟩⟩
 (replace hw:=Ext.trans hw jA;replace ax:=ax.ext jA);refine Wz ?_;refine SW.call rfl rfl (Ev r s n cpu _ (hr.ext hw) hf Ng) fun v w4 ap hv => ?_
 have qO:=hw.size;(replace hw:=Ext.trans hw ap;replace ax:=ax.ext ap;replace aA:=aA.ext ap);rcases hv with ⟨he,rfl⟩|⟨he,q,cs,rfl,hO,hI⟩
 ·have hP:=om.ask he;obtain ⟨e,hE⟩ : ∃ e,lJ s n cpu=e:=⟨_,rfl⟩;rw [hE] at he hP;rw [hE];refine Wz ?_;refine SW.ak ax rfl rfl rfl rfl (bt .zero) fun w5 cW hg => ?_
  replace aA:=aA.grown hg (by simpa using bW);replace hw:=hw.own bQ hg;refine Wz ?_;all_goals try omega
  refine SW.ak aA rfl rfl rfl rfl (bt .zero) fun w6 bU hg => ?_
  replace hw:=hw.own dl hg;refine Wz ?_;exact ah.gK rfl rfl rfl rfl bU rfl ⟨_,rfl,hw,_,hP,.zero,rfl,hz _⟩
 ·replace hO:=hO.low qO;replace hI:=hI.low qO;obtain ⟨hq,ht,Uj,xf⟩:=rF he;obtain ⟨i,hi,_,_,uF⟩:=nH ht;have hM:=ie.1 hq;have hm:=hM.most;obtain ⟨c,rfl⟩:=Int.eq_ofNat_of_zero_le Uj;have JV:=(hM.each i hi).may.a8;have lT:c<s.aa[i].ar.length:=by omega
  have hB:=wj.of hM hi;have xS:=yn hB;rw [uF];refine Wz ?_;refine SW.ak ax rfl rfl rfl rfl (bt q) fun w5 cW hg => ?_
  have hG:=ax.gr hg;replace aA:=aA.grown hg (by simpa using bW);replace hw:=hw.own bQ hg;(replace hO:=hO.aw hG rfl;replace hI:=hI.aw hG rfl);replace ax:=cW;clear cW hG hg;refine Wz ?_;refine SW.dt rfl rfl (JU (fun _=>False) w _ b3 q s cs i c hf hi hB (kq.ext hw) hw ax bQ hO hI.sj (fun _ h=>h.elim) lT (by omega)) fun v w6 hv => ?_
  obtain ⟨m,wy,Uk,tN,_,hv⟩:=hv;have hP:=om.KI he uF hi (by simpa using wy);replace aA:=tN _ _ bW aA;clear hw;have hw:=Uk;rcases hv with ⟨hn,nZ,rfl⟩|⟨M,rfl,rfl,X,H,cs',hb,hS,_⟩
  ·obtain ⟨m1,e⟩:=m;simp only at hn nZ hP;subst hn;simp only [k7] at hP;refine Wz ?_;all_goals try omega
   refine SW.ak aA rfl rfl rfl rfl (bt .zero) fun w7 bU hg => ?_
   replace hw:=hw.own dl hg;refine Wz ?_;exact ah.gK rfl rfl rfl rfl bU rfl ⟨_,rfl,hw,_,hP,.zero,rfl,hz _⟩
  ·simp only [k7] at hP;refine Wz ?_;refine SW.ak aA rfl rfl rfl rfl (bt ⟨X,H,q.aa⟩) fun w7 bU hg => ?_
   have hG:=aA.gr hg;replace hw:=hw.own dl hg;replace hS:=hS.aw hG rfl;refine Wz ?_;exact ah.gK rfl rfl rfl rfl bU rfl ⟨_,rfl,hw,_,hP,_,rfl,by simpa using hS.Bi⟩
open Go.RowKit
open Go.RowKit
open Go.RowKit
open Go.RowKit
open Go.RowKit
section
variable {wb w w':World} {k:HK} {p:HP} {s:ao×ao} {L:List ay} {t:TypeId} {b:Nat}
end
open Go.RowKit
open Go.RowKit
open Go.RowKit
open Go.RowKit
open Go.RowKit
open Go.RowKit
section
variable {P:Program} {L:Env} {w:World} {d:Option Nat} {T:TypeId} {pos:String} {af:Array Edge} {g:Option (Nat×Bool)}
end
open Go.RowKit
theorem om.small {s:ag} {n:ByteArray} {cpu:Int} {u:ag×Int×Int} (x:om s n cpu u) (hf:s.dW) : u.1.small:=by
 cases x with
 | ask=>exact ag.jk
 | KI h e hi hm =>
   have:=yn (.of (ie.1 (rF h).1) hi)
   exact Br hi hm hf (by omega)
end Go.Proofs.YtbidkghlpijecaaGreatDoor
