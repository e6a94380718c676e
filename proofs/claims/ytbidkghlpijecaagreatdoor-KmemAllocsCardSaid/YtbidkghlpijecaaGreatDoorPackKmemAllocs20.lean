/-
  Texts of the claim KmemAllocs, part 20: what its theorem leans on.
-/
import Derived.Test.YtbidkghlpijecaaGreatDoorPackKmemAllocs15
import Derived.Test.YtbidkghlpijecaaGreatDoorPackKmemAllocs2
import Derived.Test.YtbidkghlpijecaaGreatDoorPackKmemAllocs14
import Derived.Test.YtbidkghlpijecaaGreatDoorPackKmemAllocs16
import Derived.Test.YtbidkghlpijecaaGreatDoorPackKmemAllocs19
set_option linter.unusedVariables false
set_option linter.unusedSimpArgs false
namespace Go.Proofs.YtbidkghlpijecaaGreatDoor
open Go.RowKit
set_option maxHeartbeats 4000000 in
theorem tN (r:dQ) (s:aE) (w:World) (hr:qR w r s) (hs:s.small) :
 bo Tryz.prog 36 [.agg (aR r).toArray] w fun v w' => ∃ q zr,v = .agg (aR q).toArray∧SX w' w.heap.size q s zr∧SI w' w.heap.size q s zr:=by
 refine aI Tryz.func36 rfl Tryz.ntmps36 rfl ?_;refine CW.seq (CW.region (SW.box rfl rfl fun b1 w1 hw gV aB => ?_));refine SW.alloc rfl fun b2 w2 cq g7 aL => ?_
 have pY:w.heap.size≤b2:=Nat.le_trans hw.size g7
 have yP:b2≠b1:=by have:=aB.lt;omega
 (replace hw:=Ext.trans hw cq;replace aB:=aB.ext cq);obtain ⟨cs,hc⟩:=hr.dn;have Ia:=hr.words.len;have s1:=hs.words;have s3:=hs.dn;obtain ⟨c1,c2⟩:=hc.len;refine Wz ?_
 obtain ⟨K,hK⟩ : ∃ K:Env→World→Prop,K=fun L' w' => ∃ X c1 G b3 m1 m2,ez L' [(1,.pointer (some ⟨b1,0,none⟩)),(2,.pointer (some ⟨b2,0,none⟩)),(3,.pointer (some ⟨b3,0,none⟩))]∧Ext w w'∧aJ w' b1 44 (aR r)∧aJ w' b2 44 (aR .zero) ∧
  aJ w' b3 44 (aR ⟨⟨X,r.Words.n,c1⟩,G,.nil⟩)∧Own w' w.heap.size 3 1 bd X r.Words.n c1 s.Words∧fC w' m1 m2 G s.Heap∧(w.heap.size≤m1∧m1≤m2∧m2≤w'.heap.size ∧ ∀ g,aU X c1=some g→g<m1)∧w.heap.size≤b3∧b1≠b3∧b2≠b3:=⟨_,rfl⟩
 refine CW.cut K ?_ ?_
 ·refine CW.any 8 mixed (cj (by kernel_rfl)) rfl fun w1 ab aG => ?_
  replace hw:=Ext.trans hw ab;replace aB:=aB.ext ab;replace aL:=aL.ext ab;clear ab;refine Wa ?_;refine SA.take 4 aG rfl (by kernel_rfl) (by kernel_rfl) rfl ?_;repeat ((show SW _ _ _ _ (⟨_,Op.load _ _,_,_,_,none⟩::_) _ _;refine SW.st (aW rfl rfl ((fY aB))) rfl ?_))
  refine SW.ah ?_;refine SA.two 2 7 rfl rfl (by kernel_rfl) rfl rfl ?_ ?_
  ·refine SW.call rfl rfl (eu _ _ _ _ _ (hr.words.ext hw) (by omega)) fun v w4 aj hv => ?_
   obtain ⟨X,c4,rfl,hX⟩:=hv;replace hX:=hX.low hw.size;replace hw:=Ext.trans hw aj;replace aB:=aB.ext aj;replace aL:=aL.ext aj;try replace aq:=aq.ext aj
   refine SW.nil (ae.sa aj ?_);refine SA.two 5 7 rfl rfl (by kernel_rfl) rfl rfl ?_ ?_
   ·refine SW.call rfl rfl (qo _ _ _ (hr.heap.ext hw) hs.heap) fun v w4 aj hv => ?_
    obtain ⟨G,rfl,hY⟩:=hv;have DV:∃ m1 m2,w.heap.size≤m1∧m1≤m2∧m2≤w4.heap.size∧(∀ g,aU X c4=some g→g<m1)∧fC w4 m1 m2 G s.Heap:=⟨_,_,hw.size,aj.size,Nat.le_refl _,hX.lt_size,hY.mc⟩
    clear hY;obtain ⟨m1,m2,qx,la,qy,zN,hY⟩:=DV;replace hX:=hX.ext aj;replace hw:=Ext.trans hw aj;replace aB:=aB.ext aj;replace aL:=aL.ext aj;try replace aq:=aq.ext aj
    refine SW.nil (ae.sa aj ?_);refine Wa ?_;refine SA.one 7 rfl (by kernel_rfl) rfl ?_;refine SW.alloc rfl fun b3 w4 aj bH aq => ?_
    have cw:w.heap.size≤b3:=Nat.le_trans hw.size bH
    try replace qy:=Nat.le_trans qy aj.size
    have ey:b1≠b3:=by have:=aB.lt;omega
    have er:b2≠b3:=by have:=aL.lt;omega
    replace hw:=Ext.trans hw aj;replace aB:=aB.ext aj;replace aL:=aL.ext aj;try replace hX:=hX.ext aj
    try replace hY:=hY.ext aj
    refine SW.nil (ae.sa aj ?_);refine SA.done (by kernel_rfl) ?_;skip;refine SW.ak aq rfl rfl rfl rfl (cr ⟨⟨X,r.Words.n,c4⟩,G,.nil⟩) fun w5 bF hg => ?_
    have hG:=aq.gr hg;have wz:=Nat.le_trans qy hg.size;replace hw:=hw.own cw hg;(replace hX:=hX.ay hG rfl;replace hY:=hY.ay hG rfl);replace aB:=aB.grown hg (by simpa using ey);replace aL:=aL.grown hg (by simpa using er);refine Wz ?_;exact ae.cut (K:=K) (by rw [hK];exact ⟨X,c4,G,b3,m1,m2,⟨rfl,rfl,rfl,trivial⟩,hw,aB,aL,bF,hX,hY,⟨qx,la,wz,zN⟩,cw,ey,er⟩)
   ·refine SW.alloc rfl fun b3 w4 aj bH aq => ?_
    have cw:w.heap.size≤b3:=Nat.le_trans hw.size bH
    try replace qy:=Nat.le_trans qy aj.size
    have ey:b1≠b3:=by have:=aB.lt;omega
    have er:b2≠b3:=by have:=aL.lt;omega
    replace hw:=Ext.trans hw aj;replace aB:=aB.ext aj;replace aL:=aL.ext aj;try replace hX:=hX.ext aj
    try replace hY:=hY.ext aj
    refine SW.nil (ae.sa aj ?_);refine SA.one 5 rfl (by kernel_rfl) rfl ?_;refine SW.call rfl rfl (qo _ _ _ (hr.heap.ext hw) hs.heap) fun v w4 aj hv => ?_
    obtain ⟨G,rfl,hY⟩:=hv;have DV:∃ m1 m2,w.heap.size≤m1∧m1≤m2∧m2≤w4.heap.size∧(∀ g,aU X c4=some g→g<m1)∧fC w4 m1 m2 G s.Heap:=⟨_,_,hw.size,aj.size,Nat.le_refl _,hX.lt_size,hY.mc⟩
    clear hY;obtain ⟨m1,m2,qx,la,qy,zN,hY⟩:=DV;replace hX:=hX.ext aj;replace hw:=Ext.trans hw aj;replace aB:=aB.ext aj;replace aL:=aL.ext aj;try replace aq:=aq.ext aj
    refine SW.nil (ae.sa aj ?_);refine Wa ?_;refine SA.done (by kernel_rfl) ?_;skip;refine SW.ak aq rfl rfl rfl rfl (cr ⟨⟨X,r.Words.n,c4⟩,G,.nil⟩) fun w5 bF hg => ?_
    have hG:=aq.gr hg;have wz:=Nat.le_trans qy hg.size;replace hw:=hw.own cw hg;(replace hX:=hX.ay hG rfl;replace hY:=hY.ay hG rfl);replace aB:=aB.grown hg (by simpa using ey);replace aL:=aL.grown hg (by simpa using er);refine Wz ?_;exact ae.cut (K:=K) (by rw [hK];exact ⟨X,c4,G,b3,m1,m2,⟨rfl,rfl,rfl,trivial⟩,hw,aB,aL,bF,hX,hY,⟨qx,la,wz,zN⟩,cw,ey,er⟩)
  ·refine SW.alloc rfl fun b3 w4 aj bH aq => ?_
   have cw:w.heap.size≤b3:=Nat.le_trans hw.size bH
   try replace qy:=Nat.le_trans qy aj.size
   have ey:b1≠b3:=by have:=aB.lt;omega
   have er:b2≠b3:=by have:=aL.lt;omega
   replace hw:=Ext.trans hw aj;replace aB:=aB.ext aj;replace aL:=aL.ext aj;try replace hX:=hX.ext aj
   try replace hY:=hY.ext aj
   refine SW.nil (ae.sa aj ?_);refine SA.one 2 rfl (by kernel_rfl) rfl ?_;refine SW.call rfl rfl (eu _ _ _ _ _ (hr.words.ext hw) (by omega)) fun v w4 aj hv => ?_
   obtain ⟨X,c4,rfl,hX⟩:=hv;replace hX:=hX.low hw.size;replace hw:=Ext.trans hw aj;replace aB:=aB.ext aj;replace aL:=aL.ext aj;try replace aq:=aq.ext aj
   refine SW.nil (ae.sa aj ?_);refine SA.one 5 rfl (by kernel_rfl) rfl ?_;refine SW.call rfl rfl (qo _ _ _ (hr.heap.ext hw) hs.heap) fun v w4 aj hv => ?_
   obtain ⟨G,rfl,hY⟩:=hv;have DV:∃ m1 m2,w.heap.size≤m1∧m1≤m2∧m2≤w4.heap.size∧(∀ g,aU X c4=some g→g<m1)∧fC w4 m1 m2 G s.Heap:=⟨_,_,hw.size,aj.size,Nat.le_refl _,hX.lt_size,hY.mc⟩
   clear hY;obtain ⟨m1,m2,qx,la,qy,zN,hY⟩:=DV;replace hX:=hX.ext aj;replace hw:=Ext.trans hw aj;replace aB:=aB.ext aj;replace aL:=aL.ext aj;try replace aq:=aq.ext aj
   refine SW.nil (ae.sa aj ?_);refine Wa ?_;refine SA.done (by kernel_rfl) ?_;skip;refine SW.ak aq rfl rfl rfl rfl (cr ⟨⟨X,r.Words.n,c4⟩,G,.nil⟩) fun w5 bF hg => ?_
   have hG:=aq.gr hg;have wz:=Nat.le_trans qy hg.size;replace hw:=hw.own cw hg;(replace hX:=hX.ay hG rfl;replace hY:=hY.ay hG rfl);replace aB:=aB.grown hg (by simpa using ey);replace aL:=aL.grown hg (by simpa using er);refine Wz ?_;exact ae.cut (K:=K) (by rw [hK];exact ⟨X,c4,G,b3,m1,m2,⟨rfl,rfl,rfl,trivial⟩,hw,aB,aL,bF,hX,hY,⟨qx,la,wz,zN⟩,cw,ey,er⟩)
 ·clear aB aL hw;subst hK;rintro L' w' ⟨X,c4,G,b3,m1,m2,fv,hw,aB,aL,aq,hX,hY,⟨qx,la,wz,zN⟩,cw,ey,er⟩
  refine ae.sub fv ?_;refine Wz ?_
  refine CW.loop (fun s:Nat×Option Addr×Nat×List dr=>[(2,.pointer (some ⟨b2,0,none⟩)),(3,.pointer (some ⟨b3,0,none⟩)),(14,.slice r.aa.A r.aa.n r.aa.c),(15,.int .i64 (r.aa.n:Int)),(16,.int .i64 (s.1:Int))])
   (fun t w'=>t.1≤r.aa.n∧m2≤w'.heap.size∧Ext w w'∧aJ w' b2 44 (aR .zero)∧aJ w' b3 44 (aR ⟨⟨X,r.Words.n,c4⟩,G,⟨t.2.1,t.1,t.2.2.1⟩⟩)∧Own w' w.heap.size 3 1 bd X r.Words.n c4 s.Words∧fC w' m1 m2 G s.Heap ∧
     dX w' m2 ⟨t.2.1,t.1,t.2.2.1⟩ t.2.2.2 (s.aa.take t.1)∧wm ⟨X,r.Words.n,c4⟩ t.2.2.2) (fun t=>r.aa.n-t.1) (0,none,0,[]) ⟨rfl,rfl,rfl,rfl,rfl,trivial⟩ ⟨by omega,wz,hw,aL,aq,hX,hY,dX.nil _ _,wm.nil _⟩ ?_
  clear aB aL aq hX hY hw fv;rintro ⟨k,A,c,zr⟩ w' ⟨hk,wz,hw,aL,aq,hX,hY,hO,xl⟩
  simp only at hk aq hO xl ⊢;have hA:=hc.row.base;by_cases cb:k<r.aa.n
  ·have gn:=hc.each.get k (by omega) (by omega);have q:=hs.each _ (List.getElem_mem (show k<s.aa.length by omega));have q1:=gn.names.len;have q2:=gn.aS.len;have q3:=gn.a8.len;have q4:=q.names;have q5:=q.aS;have q6:=q.a8;have zO:=hO.row.lt_size;repeat' (first|refine Wz ?_|refine SW.st (aH hw rfl rfl ((hc.row.all cb))) rfl ?_)
   refine SW.alloc rfl fun b5 w1 ab il cd => ?_
   skip;refine SW.ak cd rfl rfl rfl rfl (sO _) fun w2 fX hg => ?_
   have aj:=ab.own il hg;have nS:w.heap.size≤b5:=Nat.le_trans hw.size il
   replace hw:=Ext.trans hw aj;replace aL:=aL.ext aj;replace aq:=aq.ext aj;replace hX:=hX.ext aj;replace hY:=hY.ext aj;replace hO:=hO.ext aj;replace cd:=fX;clear fX ab hg aj;have DW:m2≤b5:=Nat.le_trans wz il
   refine Wz ?_;refine CW.any 10 mixed (cj (by kernel_rfl)) rfl fun w1 ab aG => ?_
   replace hw:=Ext.trans hw ab;replace aL:=aL.ext ab;replace aq:=aq.ext ab;replace cd:=cd.ext ab;replace hX:=hX.ext ab;replace hY:=hY.ext ab;replace hO:=hO.ext ab;clear ab;refine Wa ?_;refine SA.one 2 rfl (by kernel_rfl) rfl ?_;refine SW.call rfl rfl (wk _ _ _ _ _ (gn.names.ext hw) (by omega)) fun v w4 aj hv => ?_
   obtain ⟨N,n4,rfl,hN⟩:=hv;have zZ:=hO.MQ (b:=⟨N,cs[k].Names.n,n4⟩) hN.aM;replace hN:=hN.low (Nat.le_trans DW (Nat.le_of_lt cd.lt));(replace hw:=Ext.trans hw aj;replace aL:=aL.ext aj;replace aq:=aq.ext aj;replace cd:=cd.ext aj;replace hX:=hX.ext aj;replace hY:=hY.ext aj;replace hO:=hO.ext aj);refine SW.nil (ae.sa aj ?_);refine Wa ?_;refine SA.one 5 rfl (by kernel_rfl) rfl ?_;refine SW.call rfl rfl (ur _ _ _ _ _ (gn.aS.ext hw) (by omega)) fun v w4 aj hv => ?_
   obtain ⟨M,m4,rfl,hM⟩:=hv;have ub:=hO.MR (b:=⟨M,cs[k].ai.n,m4⟩) hM.aM;replace hM:=hM.low (Nat.le_trans DW (Nat.le_of_lt cd.lt));(replace hw:=Ext.trans hw aj;replace aL:=aL.ext aj;replace aq:=aq.ext aj;replace cd:=cd.ext aj;replace hX:=hX.ext aj;replace hY:=hY.ext aj;replace hO:=hO.ext aj;replace hN:=hN.ext aj);refine SW.nil (ae.sa aj ?_);refine SA.one 8 rfl (by kernel_rfl) rfl ?_;refine SW.call rfl rfl (eu _ _ _ _ _ (gn.a8.ext hw) (by omega)) fun v w4 aj hv => ?_
   obtain ⟨Q,q7,rfl,hQ⟩:=hv;have qY:=hO.MS (b:=⟨Q,cs[k].au.n,q7⟩) hQ.aM;have Ep:=j2 (a:=⟨X,r.Words.n,c4⟩) (b:=⟨Q,cs[k].au.n,q7⟩) hX hQ.aM;replace hQ:=hQ.low (Nat.le_trans DW (Nat.le_of_lt cd.lt));(replace hw:=Ext.trans hw aj;replace aL:=aL.ext aj;replace aq:=aq.ext aj;replace cd:=cd.ext aj;replace hX:=hX.ext aj;replace hY:=hY.ext aj;replace hO:=hO.ext aj;replace hN:=hN.ext aj;replace hM:=hM.ext aj);refine SW.nil (ae.sa aj ?_);refine SA.done (by kernel_rfl) ?_;refine SW.bA (i:=0) cd rfl rfl rfl rfl fun w6 fX hg => ?_
   have hG:=cd.gr hg;replace hw:=hw.own nS hg;replace hO:=hO.c8 cd hg zO il;(replace aL:=aL.ay hG rfl;replace aq:=aq.ay hG rfl;replace hX:=hX.ay hG rfl;replace hY:=hY.ay hG rfl;replace hN:=hN.ay hG rfl;replace hM:=hM.ay hG rfl;replace hQ:=hQ.ay hG rfl);replace cd:=fX;clear fX hg hG;refine Wz ?_;refine SW.bA (i:=4) cd rfl rfl rfl rfl fun w6 fX hg => ?_
   have hG:=cd.gr hg;replace hw:=hw.own nS hg;replace hO:=hO.c8 cd hg zO il;(replace aL:=aL.ay hG rfl;replace aq:=aq.ay hG rfl;replace hX:=hX.ay hG rfl;replace hY:=hY.ay hG rfl;replace hN:=hN.ay hG rfl;replace hM:=hM.ay hG rfl;replace hQ:=hQ.ay hG rfl);replace cd:=fX;clear fX hg hG;refine Wz ?_;refine SW.bA (i:=5) cd rfl rfl rfl rfl fun w6 fX hg => ?_
   have hG:=cd.gr hg;replace hw:=hw.own nS hg;replace hO:=hO.c8 cd hg zO il;(replace aL:=aL.ay hG rfl;replace aq:=aq.ay hG rfl;replace hX:=hX.ay hG rfl;replace hY:=hY.ay hG rfl;replace hN:=hN.ay hG rfl;replace hM:=hM.ay hG rfl;replace hQ:=hQ.ay hG rfl);replace cd:=fX;clear fX hg hG;refine Wz ?_;refine SW.bK rfl rfl rfl rfl rfl fun b w6 aj hb hB => ?_
   (replace hw:=Ext.trans hw aj;replace aL:=aL.ext aj;replace aq:=aq.ext aj;replace hX:=hX.ext aj;replace hY:=hY.ext aj;replace hO:=hO.ext aj;replace hN:=hN.ext aj;replace hM:=hM.ext aj;replace hQ:=hQ.ext aj);refine SW.append hO.row (aJ.mo (enc:=dh) (x:=⟨⟨N,_,n4⟩,cs[k].bg,cs[k].cm,cs[k].Order,⟨M,_,m4⟩,⟨Q,_,q7⟩⟩) hB) (Nat.le_trans DW (Nat.le_trans (Nat.le_of_lt cd.lt) aj.size)) rfl rfl rfl (by simp only;omega) (by simp only;omega) fun A2 c2 w5 fU hg => ?_
   have hG:=hO.row.gr hg;have LQ:=Nat.le_trans (Nat.le_trans DW (Nat.le_trans (Nat.le_of_lt cd.lt) aj.size)) hg.size;replace hw:=aF hw hg (Nat.le_trans qx la) hO.row.aM;(replace aL:=aL.ay hG rfl;replace aq:=aq.ay hG rfl;replace hX:=hX.ay hG rfl;replace hY:=hY.ay hG rfl;replace hN:=hN.ay hG rfl;replace hM:=hM.ay hG rfl;replace hQ:=hQ.ay hG rfl);have hE:=hO.each.mono fun _ _ h=>h.ay hG rfl
   refine Wz ?_;refine SW.bA (i:=6) aq rfl rfl rfl rfl fun w6 cK hg => ?_
   have hG:=aq.gr hg;replace hw:=hw.own cw hg;replace aL:=aL.grown hg (by simpa using er);(replace hX:=hX.ay hG rfl;replace hY:=hY.ay hG rfl;replace hN:=hN.ay hG rfl;replace hM:=hM.ay hG rfl;replace hQ:=hQ.ay hG rfl;replace fU:=fU.ay hG rfl);replace hE:=hE.mono fun _ _ h=>h.ay hG rfl
   refine Wz ?_;refine ae.again (k+1,A2,c2,zr++[⟨⟨N,_,n4⟩,cs[k].bg,cs[k].cm,cs[k].Order,⟨M,_,m4⟩,⟨Q,_,q7⟩⟩]) ⟨rfl,rfl,rfl,rfl,rfl,trivial⟩ (by simp only;omega) ⟨by simp only;omega,Nat.le_trans LQ hg.size,hw,aL,cK,hX,hY,⟨fU,?_⟩,xl.snoc (fun u hu=>⟨zZ u hu,ub u hu,qY u hu⟩) Ep⟩;rw [List.take_succ_eq_append_getElem (by omega)];exact hE.snoc ⟨gn.size,gn.ji,gn.order,hN,hM,hQ⟩
  ·obtain rfl:k=r.aa.n:=by omega
   rw [List.take_of_length_le (by omega)] at hO;refine Wz ?_;refine SW.ak aL rfl rfl rfl rfl (cr _) fun w5 bF hg => ?_
   have hG:=aL.gr hg;replace hw:=hw.own pY hg;(replace hX:=hX.ay hG rfl;replace hY:=hY.ay hG rfl;replace hO:=hO.ay hG rfl);refine Wz ?_;exact ae.mr rfl rfl bF rfl ⟨_,rfl,hw,⟨_,G,_⟩,zr,rfl,⟨hX,hY.own.low qx,hO.row.low (Nat.le_trans qx la),hO.each.mono fun _ _ h=>h.low (Nat.le_trans qx la),xl.pair⟩,⟨m1,m2,qx,la,zN,hY,hO.each⟩⟩
open Go.RowKit
set_option maxHeartbeats 2000000 in
theorem Fw (r:dQ) (s:aE) (n:ByteArray) (cpu:Int) (w:World) (hr:qR w r s) (hf:s.kh) (M2:n.size≤140737488351232) :
 bo Tryz.prog 99 [.agg (aR r).toArray,.string n,.int .i64 cpu] w (Hj w.heap.size s n cpu):=by
 refine aI Tryz.func99 rfl Tryz.ntmps99 rfl ?_;have hs:=hf.small;refine CW.seq (CW.region (SW.box rfl rfl fun b3 w1 hw bH aq => ?_));refine SW.alloc rfl fun b6 w3 jW eg aw => ?_
 have cu:w.heap.size≤b6:=Nat.le_trans hw.size eg
 (replace hw:=Ext.trans hw jW;replace aq:=aq.ext jW);obtain ⟨q,hq⟩ : ∃ q,g9 s=q:=⟨_,rfl⟩
 have c1:∀ w',Ext w w'→bo Tryz.prog 41 [.agg (aR r).toArray] w' fun v _=>v = .int .i64 (if q then 0 else 8):=fun w' hx=>by
  have:=tu r s w' (hr.ext hx) hf
  rwa [hq] at this
 cases q
 ·simp only [Bool.false_eq_true,if_false] at c1;repeat' (first|refine Wz ?_|(refine SW.call rfl rfl (c1 _ hw) ?_;intro v w1 ab hv;subst hv;replace hw:=Ext.trans hw ab;replace aq:=aq.ext ab;replace aw:=aw.ext ab;clear ab))
  refine SW.ak aw rfl rfl rfl rfl (cr .zero) fun w5 bF hg => ?_
  replace hw:=hw.own cu hg;refine Wz ?_;exact ae.cl rfl rfl rfl rfl bF rfl ⟨_,rfl,hw,.inl ⟨by rw [zx hq];decide,by rw [zx hq];rfl⟩⟩
 ·simp only [if_true] at c1;obtain ⟨t,ht⟩ : ∃ t,s.aa.any (ja n)=t:=⟨_,rfl⟩;obtain ⟨ix,rA⟩ : ∃ ix,idxOf (ja n) s.aa=ix:=⟨_,rfl⟩
  have c3:∀ w',Ext w w'→bo Tryz.prog 136 [.agg (aR r).toArray,.string n] w' fun v _=>v = .tuple #[.int .i64 ix,.bool t]:=fun w' hx=>by
   have:=BA r s n w' (hr.ext hx) hs
   rwa [ht,rA] at this
  cases t
  ·repeat' (first|refine Wz ?_|(refine CW.bO rfl ?_)|((first|refine SW.call rfl rfl (c1 _ hw) ?_|refine SW.call rfl rfl (c3 _ hw) ?_);intro v w1 ab hv;subst hv;replace hw:=Ext.trans hw ab;replace aq:=aq.ext ab;replace aw:=aw.ext ab;clear ab))
   refine SW.ak aw rfl rfl rfl rfl (cr .zero) fun w5 bF hg => ?_
   replace hw:=hw.own cu hg;refine Wz ?_;exact ae.cl rfl rfl rfl rfl bF rfl ⟨_,rfl,hw,.inl ⟨by rw [zy hq ht];decide,by rw [zy hq ht];rfl⟩⟩
  ·have CS:=hr.heap.dY;by_cases hc : 0≤cpu∧cpu<s.Heap.bY
   ·repeat' (first|refine Wz ?_|(refine CW.bB rfl ?_)|((first|refine SW.call rfl rfl (c1 _ hw) ?_|refine SW.call rfl rfl (c3 _ hw) ?_);intro v w1 ab hv;subst hv;replace hw:=Ext.trans hw ab;replace aq:=aq.ext ab;replace aw:=aw.ext ab;clear ab))
    all_goals try omega
    refine SW.call rfl rfl (tN r s _ (hr.ext hw) hs) fun v w6 aj hv => ?_
    obtain ⟨q,zr,rfl,hO,hI⟩:=hv;replace hO:=hO.low hw.size;replace hI:=hI.low hw.size;(replace hw:=Ext.trans hw aj;replace aw:=aw.ext aj);refine Wz ?_;refine SW.ak aw rfl rfl rfl rfl (cr q) fun w5 bF hg => ?_
    have hG:=aw.gr hg;replace hw:=hw.own cu hg;(replace hO:=hO.ay hG rfl;replace hI:=hI.ay hG rfl);refine Wz ?_;exact ae.cl rfl rfl rfl rfl bF rfl ⟨_,rfl,hw,.inr ⟨DB hq ht hc,q,zr,by rw [rA];rfl,hO,hI⟩⟩
   ·rcases (show cpu<0∨(0≤cpu∧s.Heap.bY≤cpu) by omega) with g|g
    all_goals
     repeat' (first|refine Wz ?_|(refine CW.bB rfl ?_)|((first|refine SW.call rfl rfl (c1 _ hw) ?_|refine SW.call rfl rfl (c3 _ hw) ?_);intro v w1 ab hv;subst hv;replace hw:=Ext.trans hw ab;replace aq:=aq.ext ab;replace aw:=aw.ext ab;clear ab))
     all_goals try omega
     refine SW.ak aw rfl rfl rfl rfl (cr .zero) fun w5 bF hg => ?_
     replace hw:=hw.own cu hg;refine Wz ?_;exact ae.cl rfl rfl rfl rfl bF rfl ⟨_,rfl,hw,.inl ⟨by rw [zz hq ht hc];decide,by rw [zz hq ht hc];rfl⟩⟩
set_option maxHeartbeats 1000000 in
theorem wA (r:dQ) (s:aE) (n:ByteArray) (cpu:Int) (w:World) (hr:qR w r s) (hf:s.kh) :
 bo Tryz.prog 119 [.agg (aR r).toArray,.string n,.int .i64 cpu] w fun v _=>v = .int .i64 (me s n cpu):=by
 refine aI Tryz.func119 rfl Tryz.ntmps119 rfl ?_;have hs:=hf.small;refine CW.seq (CW.region (SW.box rfl rfl fun b3 w1 hw bH aq => ?_));obtain ⟨q,hq⟩ : ∃ q,g9 s=q:=⟨_,rfl⟩
 have c1:∀ w',Ext w w'→bo Tryz.prog 47 [.agg (aR r).toArray] w' fun v _=>v = .bool q:=fun w' hx=>by
  have:=xM r s w' (hr.ext hx) hf
  rwa [hq] at this
 cases q
 ·repeat' (first|refine Wz ?_|(refine CW.bO rfl ?_)|(refine SW.call rfl rfl (c1 _ hw) ?_;intro v w1 ab hv;subst hv;replace hw:=Ext.trans hw ab;replace aq:=aq.ext ab;clear ab))
  exact ae.aO rfl rfl ⟨_,rfl,hw,by rw [zx hq]⟩
 ·have hM:=(lD.1 hq).heap.dY;obtain ⟨ix,rA⟩ : ∃ ix,idxOf (ja n) s.aa=ix:=⟨_,rfl⟩;have ym:=iC (ja n) s.aa;rw [rA] at ym
  have c3:∀ w',Ext w w'→bo Tryz.prog 118 [.agg (aR r).toArray,.string n] w' fun v _=>v = .int .i64 ix:=fun w' hx=>by
   have:=kO r s n w' (hr.ext hx) hs
   rwa [rA] at this
  have eC:=hr.heap.dY;by_cases JC : 0≤ix
  ·have ht:s.aa.any (ja n)=true:=by rw [← ym];exact decide_eq_true JC
   by_cases hc : 0≤cpu∧cpu<s.Heap.bY
   ·repeat' (first|refine Wz ?_|(refine CW.bB rfl ?_)|((first|refine SW.call rfl rfl (c1 _ hw) ?_|refine SW.call rfl rfl (c3 _ hw) ?_|refine SW.call rfl rfl (bP _ _ _ _) ?_);intro v w1 ab hv;subst hv;replace hw:=Ext.trans hw ab;replace aq:=aq.ext ab;clear ab))
    all_goals try omega
    exact ae.aO rfl rfl ⟨_,rfl,hw,by rw [DB hq ht hc]⟩
   ·repeat' (first|refine Wz ?_|(refine CW.bB rfl ?_)|((first|refine SW.call rfl rfl (c1 _ hw) ?_|refine SW.call rfl rfl (c3 _ hw) ?_|refine SW.call rfl rfl (bP _ _ _ _) ?_);intro v w1 ab hv;subst hv;replace hw:=Ext.trans hw ab;replace aq:=aq.ext ab;clear ab))
    all_goals try omega
    exact ae.aO rfl rfl ⟨_,rfl,hw,by rw [zz hq ht hc]⟩
  ·have ht:s.aa.any (ja n)=false:=by rw [← ym];exact decide_eq_false JC
   repeat' (first|refine Wz ?_|(refine CW.bB rfl ?_)|((first|refine SW.call rfl rfl (c1 _ hw) ?_|refine SW.call rfl rfl (c3 _ hw) ?_);intro v w1 ab hv;subst hv;replace hw:=Ext.trans hw ab;replace aq:=aq.ext ab;clear ab))
   all_goals try omega
   exact ae.aO rfl rfl ⟨_,rfl,hw,by rw [zy hq ht]⟩
open Go.RowKit
theorem rh (x:Slab) (b8:Nat) (ad:Addr) (A:Option Addr) (n c:Nat) (l:List Int) (w:World) (h8:aJ w b8 156 [.pointer (some ad)]) (hp:w.cell? (ad.add 5)=some (.slice A n c)) (hl:Sl w 1 bd A n l) (hn:n≤9223372036854775807) :
 bo Tryz.prog 242 ([.agg (aY x).toArray]++[.pointer (some ⟨b8,0,none⟩)]) w fun v _=>v = .bool (decide (0<x.ag) && !decide (x.At∈l)):=by
 refine aI Tryz.func242 rfl Tryz.ntmps242 rfl ?_;refine CW.seq (CW.region (SW.box rfl rfl fun b2 w1 hw g7 aL => ?_));have AD:=h8.cell (i:=0) (v := .pointer (some ad)) rfl;rw [add_zero] at AD;obtain ⟨q,hq⟩ : ∃ q,decide (x.At∈l)=q:=⟨_,rfl⟩
 have cC:∀ w',Ext w w'→bo Tryz.prog 95 [.slice A n c,.int .i64 x.At] w' fun v _=>v = .bool q:=fun w' hx=>by
  have:=gK _ _ c _ x.At _ (hl.ext hx) hn
  rwa [hq] at this
 by_cases hf : 0<x.ag
 ·repeat' (first|refine Wz ?_|((apply CW.aP mixed;(· kernel_rfl);rotate_left;intro w1 ab;replace hw:=Ext.trans hw ab;replace aL:=aL.ext ab;clear ab;rotate_right))|refine SW.st (ap hw rfl AD) rfl ?_|refine SW.st (ap hw rfl hp) rfl ?_|refine SW.br rfl rfl (fun w1 ab=>(cC _ (Ext.trans hw ab))) ?_|exact SW.bx rfl)
  all_goals try omega
  exact ae.aO rfl rfl ⟨_,rfl,hw,by rw [hq,decide_eq_true hf];simp⟩
 ·repeat' (first|refine Wz ?_|((apply CW.aP mixed;(· kernel_rfl);rotate_left;intro w1 ab;replace hw:=Ext.trans hw ab;replace aL:=aL.ext ab;clear ab;rotate_right))|exact SW.bx rfl)
  all_goals try omega
  exact ae.aO rfl rfl ⟨_,rfl,hw,by rw [decide_eq_false hf];simp⟩
def pL (c:bf) (cpu k:Nat) : bf:=⟨c.Names,c.bg,c.cm,c.Order,c.ai,c.au.set cpu (fj c k).At⟩
def JD (G:Nat→Prop) (wb w0:World) (b:Nat) (r:dQ) (s:aE) (i:Nat) (c:bf) (cpu:Nat) (v:Value) (w':World) : Prop :=
 ∃ m,kz s c cpu m∧Ext wb w'∧(∀ j x,j≠b→aJ w0 j 44 x→aJ w' j 44 x)∧(∀ j x,G j→aJ w0 j 3 x→aJ w' j 3 x) ∧
  ((m.1=none∧m.2≠0∧v = .tuple #[.int .i64 0,.int .i64 m.2]) ∨
   ∃ M,m=(some M,0)∧v = .tuple #[.int .i64 (M.k:Int),.int .i64 0] ∧ ∃ X H cs',aJ w' b 44 (aR ⟨X,H,r.aa⟩)∧SX w' wb.heap.size ⟨X,H,r.aa⟩ (ct (iI s M.ws) i (M.h,pL M.c cpu M.k)) cs'∧SJ G w' wb.heap.size ⟨X,H,r.aa⟩ (ct (iI s M.ws) i (M.h,pL M.c cpu M.k)) cs')
set_option maxHeartbeats 8000000 in
theorem zP (G:Nat→Prop) (wb w0:World) (b:Nat) (r:dQ) (s:aE) (cs:List dr) (i cpu:Nat) (hf:s.kh) (hi:i<s.aa.length) (hM:nX s s.aa[i]) (pK:nR w0)
 (hx:Ext wb w0) (hb:aJ w0 b 44 (aR r)) (Fs:wb.heap.size≤b) (hS:SX w0 wb.heap.size r s cs) (hJ:SJ G w0 wb.heap.size r s cs) (Ft:∀ g,G g→g<w0.heap.size) (nY:cpu<s.aa[i].au.length) (El:(s.aa[i].ai.length+1)*24≤140737488355328) :
 gX Tryz.prog 212 [.pointer (some ⟨b,0,none⟩),.int .i64 (i:Int),.int .i64 (cpu:Int)] w0 (JD G wb w0 b r s i s.aa[i] cpu):=by
 refine dB Tryz.func212 rfl Tryz.ntmps212 rfl ?_;have hm:=hM.most;have e0:=oK hi;have h2:=hf.Lx hi;have q4:=h2.small.a8;have fy:=hx.size;obtain ⟨e1,e2⟩:=hS.len;have jE:i<cs.length:=by omega
 have cf:i<r.aa.n:=by omega
 have LP:=hS.row.sl.base;have hC:=hS.each.get i jE hi;have q1:=hC.aS.len;have q3:=hC.a8.len;have FJ:cpu<cs[i].au.n:=by omega
 have Kq:=hC.aS.sl.base;have ON:=hC.a8.sl.base;have yf:=vl hM nY;have gT:(s.aa[i].au.getD cpu 0)=s.aa[i].au[cpu]:=by simp [nY]
 clear hC;have hw:=Ext.refl w0;refine Wz ?_;refine SW.alloc rfl fun b8 w1 ab kY bw => ?_
 have jr:w0.heap.size≤b8:=Nat.le_trans hw.size kY
 (replace hw:=Ext.trans hw ab;replace hb:=hb.ext ab;replace hS:=hS.ext ab;replace hJ:=hJ.ext ab);refine SW.bA (i:=0) bw rfl rfl rfl rfl fun w2 iU hg => ?_
 have hG:=bw.gr hg;replace hw:=hw.own jr hg;(replace hb:=hb.ay hG rfl;replace hS:=hS.ay hG rfl;replace hJ:=hJ.ay hG rfl);replace bw:aJ w2 b8 156 [.pointer (some ((r.aa.A.getD default).add (i*6)))]:=iU;clear iU hG hg
 have AD:∀ w',aJ w' b8 156 [.pointer (some ((r.aa.A.getD default).add (i*6)))]→w'.cell? ⟨b8,0,none⟩=some (.pointer (some ((r.aa.A.getD default).add (i*6)))):=fun w' h=>by
  have:=h.cell (i:=0) (v := .pointer (some ((r.aa.A.getD default).add (i*6)))) rfl
  rwa [add_zero] at this
 obtain ⟨o,ho⟩ : ∃ o,uD s.aa[i] cpu=o:=⟨_,rfl⟩;obtain ⟨t,ht⟩ : ∃ t,s.aa[i].au[cpu]=t:=⟨_,rfl⟩;rw [ho,ht] at yf;have gA:∀ w',SX w' wb.heap.size r s cs→w'.cell? ((((cs[i].au.A).getD default).add (cpu*1)))=some (Value.int .i64 t):=fun w' h=>(h.each.get i jE hi).a8.sl.one FJ (by rw [show s.aa[i].au[cpu]=t from ht];rfl)
 have hC:=hS.each.get i jE hi
 have cF:∀ w',Ext w2 w'→bo Tryz.prog 181 [.agg (dh cs[i]).toArray,.int .i64 t] w' fun v _=>v = .int .i64 o:=fun w' h=>by
  have:=xA cs[i] s.aa[i].ai t w' (hC.aS.sl.ext h) (by omega)
  unfold uD at ho;rw [gT,ht] at ho;rwa [ho] at this
 have Cl:=hw;replace hw:=Ext.refl w2;by_cases hA:∃ (k:Nat) (hk:k<s.aa[i].ai.length),o=k∧0<s.aa[i].ai[k].ag
 ·obtain ⟨k,hk,rfl,fH⟩:=hA;have cb:k<cs[i].ai.n:=by omega
  obtain ⟨y,hy⟩ : ∃ y,s.aa[i].ai[k]=y:=⟨_,rfl⟩;rw [hy] at fH;have gF:∀ w',SX w' wb.heap.size r s cs→w'.cell? ((((cs[i].ai.A).getD default).add (k*3)).add 1)=some (Value.int .i64 y.ag):=fun w' h=>(h.each.get i jE hi).aS.sl.dA cb (j:=1) (show (aY (s.aa[i].ai[k]'(by omega)))[1]?=some (Value.int .i64 y.ag) by rw [hy];rfl)
  have lK:fM s.aa[i] cpu=k:=by
   unfold fM;rw [ho,if_pos ⟨by omega,by rw [show ((k:Int)).toNat=k by omega,gb hk,hy];exact fH⟩]
  repeat' (first|refine Wz ?_|((apply CW.aP mixed;(· kernel_rfl);rotate_left;intro w1 ab;replace hw:=Ext.trans hw ab;replace hb:=hb.ext ab;replace bw:=bw.ext ab;replace hS:=hS.ext ab;replace hJ:=hJ.ext ab;clear ab;rotate_right))|refine SW.st (ao rfl (AD _ bw)) rfl ?_|refine SW.st (aW rfl rfl ((hS.row.sl.all cf))) rfl ?_|refine SW.st (ao rfl (hS.row.sl.dA cf (j:=5) (u := .slice cs[i].au.A cs[i].au.n cs[i].au.c) rfl)) rfl ?_|refine SW.st (ao rfl (gA _ hS)) rfl ?_|refine SW.st (ao rfl (hS.row.sl.dA cf (j:=4) (u := .slice cs[i].ai.A cs[i].ai.n cs[i].ai.c) rfl)) rfl ?_|refine SW.st (ao rfl (gF _ hS)) rfl ?_|refine SW.br rfl rfl (fun w1 ab=>(cF _ (Ext.trans hw ab))) ?_|exact SW.bx rfl)
  all_goals try omega
  replace hw:=Ext.trans Cl hw;rcases yf with ⟨_,h⟩|⟨_,k2,Da,h,LR⟩
  ·omega
  ·obtain rfl:k=k2:=by omega
   rw [hy] at LR
   have xN:pL s.aa[i] cpu k=s.aa[i]:=by
    unfold pL;rw [gb hk,hy,LR,← ht,List.set_getElem_self]
   refine ae.cx rfl rfl rfl ⟨_,rfl,_,.DE lK,hx.trans hw,fun j x hj h=>h.ext hw,fun j x hj h=>h.ext hw,.inr ⟨_,rfl,rfl,r.Words,r.Heap,cs,hb,?_⟩⟩;simp only;rw [xN];rw [← e0] at hS hJ;exact ⟨hS,hJ⟩
 ·have ug : ¬ (0≤o∧0<(fj s.aa[i] o.toNat).ag):=fun h=>by
   rcases yf with ⟨_,h1⟩|⟨_,k2,Da,h1,_⟩
   ·omega
   ·refine hA ⟨k2,Da,h1,?_⟩;have:=h.2
    rwa [show o.toNat=k2 by omega,gb Da] at this
  rcases yf with ⟨_,Io⟩|⟨_,k2,Da,Io,OO⟩
  ·repeat' (first|refine Wz ?_|((apply CW.aP mixed;(· kernel_rfl);rotate_left;intro w1 ab;replace hw:=Ext.trans hw ab;replace hb:=hb.ext ab;replace bw:=bw.ext ab;replace hS:=hS.ext ab;replace hJ:=hJ.ext ab;clear ab;rotate_right))|refine SW.st (ao rfl (AD _ bw)) rfl ?_|refine SW.st (aW rfl rfl ((hS.row.sl.all cf))) rfl ?_|refine SW.st (ao rfl (hS.row.sl.dA cf (j:=5) (u := .slice cs[i].au.A cs[i].au.n cs[i].au.c) rfl)) rfl ?_|refine SW.st (ao rfl (gA _ hS)) rfl ?_|refine SW.st (ao rfl (hS.row.sl.dA cf (j:=4) (u := .slice cs[i].ai.A cs[i].ai.n cs[i].ai.c) rfl)) rfl ?_|refine SW.br rfl rfl (fun w1 ab=>(cF _ (Ext.trans hw ab))) ?_|(refine SW.st (iz (vs:=[.pointer (some ⟨b8,0,none⟩)]) rfl) rfl ?_)|exact SW.bx rfl)
   all_goals try omega
   replace hw:=Ext.trans Cl hw;clear Cl cF hC;have hC:=hS.each.get i jE hi;have DX:=hS.row.sl.dA cf (j:=5) (u := .slice cs[i].au.A cs[i].au.n cs[i].au.c) rfl;refine SW.call rfl rfl (iF _ _ _ s.aa[i].ai _ hC.aS.sl _ [.pointer (some ⟨b8,0,none⟩)] (jN s.aa[i]) (fun x => .agg (aY x).toArray) (fun x=>rfl) (fun x AG w1 jx=>rh x b8 _ cs[i].au.A cs[i].au.n cs[i].au.c s.aa[i].au w1 (bw.ext jx) (jx.cell DX) (hC.a8.sl.ext jx) (by omega)) (by omega)) fun v w9 aj hv => ?_
   subst hv;(replace hw:=Ext.trans hw aj;replace hb:=hb.ext aj;replace bw:=bw.ext aj;replace hS:=hS.ext aj;replace hJ:=hJ.ext aj);clear hC DX;obtain ⟨z,hz⟩ : ∃ z,idxOf (jN s.aa[i]) s.aa[i].ai=z:=⟨_,rfl⟩;rw [hz]
   have lK:fM s.aa[i] cpu=z:=by
    unfold fM;rw [ho,if_neg ug,hz]
   by_cases sZ : 0≤z
   ·obtain ⟨k,rfl⟩:=Int.eq_ofNat_of_zero_le sZ;obtain ⟨hk,fH⟩:=wv lK;have cb:k<cs[i].ai.n:=by omega
    obtain ⟨y,hy⟩ : ∃ y,s.aa[i].ai[k]=y:=⟨_,rfl⟩;have gY:∀ w',SX w' wb.heap.size r s cs→w'.cell? ((((cs[i].ai.A).getD default).add (k*3)).add 0)=some (Value.int .i64 y.At):=fun w' h=>(h.each.get i jE hi).aS.sl.dA cb (j:=0) (show (aY (s.aa[i].ai[k]'(by omega)))[0]?=some (Value.int .i64 y.At) by rw [hy];rfl)
    refine Wz ?_;all_goals try omega
    refine CW.iS 14 14 (fun _=>True) mixed (by kernel_rfl) fun w1 ab aG => ?_
    replace hw:=Ext.trans hw ab;replace hb:=hb.ext ab;replace bw:=bw.ext ab;replace hS:=hS.ext ab;replace hJ:=hJ.ext ab;clear ab;refine SF.take 0 [] [] aG rfl (by kernel_rfl) (by kernel_rfl) (by kernel_rfl) ?_;repeat ((show SW _ _ _ _ (⟨_,Op.load _ _,_,_,_,none⟩::_) _ _;refine SW.st (ao rfl (AD _ bw)) rfl ?_))
    refine SW.ah ?_;refine SF.take 1 [] [] aG rfl (by kernel_rfl) (by kernel_rfl) (by kernel_rfl) ?_;repeat ((show SW _ _ _ _ (⟨_,Op.nilCheck _,_,_,_,none⟩::_) _ _;refine SW.st (aK rfl) rfl ?_))
    refine SW.ah ?_;refine SF.take 2 [] [] aG rfl (by kernel_rfl) (by kernel_rfl) (by kernel_rfl) ?_;repeat ((show SW _ _ _ _ (⟨_,Op.fieldAddr _ _ _,_,_,_,none⟩::_) _ _;refine SW.st (aD rfl) rfl ?_))
    refine SW.ah ?_;refine SF.take 3 [] [] aG rfl (by kernel_rfl) (by kernel_rfl) (by kernel_rfl) ?_;repeat ((show SW _ _ _ _ (⟨_,Op.load _ _,_,_,_,none⟩::_) _ _;refine SW.st (ao rfl (hS.row.sl.dA cf (j:=5) (u := .slice cs[i].au.A cs[i].au.n cs[i].au.c) rfl)) rfl ?_))
    refine SW.ah ?_;refine SF.take 4 [] [] aG rfl (by kernel_rfl) (by kernel_rfl) (by kernel_rfl) ?_;repeat (refine SW.pure rfl rfl ?_)
    refine SW.ah ?_;refine SF.take 5 [] [] aG rfl (by kernel_rfl) (by kernel_rfl) (by kernel_rfl) ?_;repeat ((show SW _ _ _ _ (⟨_,Op.load _ _,_,_,_,none⟩::_) _ _;refine SW.st (ao rfl (AD _ bw)) rfl ?_))
    refine SW.ah ?_;refine SF.take 6 [] [] aG rfl (by kernel_rfl) (by kernel_rfl) (by kernel_rfl) ?_;repeat ((show SW _ _ _ _ (⟨_,Op.nilCheck _,_,_,_,none⟩::_) _ _;refine SW.st (aK rfl) rfl ?_))
    refine SW.ah ?_;refine SF.take 7 [] [] aG rfl (by kernel_rfl) (by kernel_rfl) (by kernel_rfl) ?_;repeat ((show SW _ _ _ _ (⟨_,Op.fieldAddr _ _ _,_,_,_,none⟩::_) _ _;refine SW.st (aD rfl) rfl ?_))
    refine SW.ah ?_;refine SF.take 8 [] [] aG rfl (by kernel_rfl) (by kernel_rfl) (by kernel_rfl) ?_;repeat ((show SW _ _ _ _ (⟨_,Op.load _ _,_,_,_,none⟩::_) _ _;refine SW.st (ao rfl (hS.row.sl.dA cf (j:=4) (u := .slice cs[i].ai.A cs[i].ai.n cs[i].ai.c) rfl)) rfl ?_))
    refine SW.ah ?_;refine SF.take 9 [] [] aG rfl (by kernel_rfl) (by kernel_rfl) (by kernel_rfl) ?_;repeat (refine SW.pure rfl rfl ?_)
    refine SW.ah ?_;refine SF.take 10 [] [] aG rfl (by kernel_rfl) (by kernel_rfl) (by kernel_rfl) ?_;repeat ((show SW _ _ _ _ (⟨_,Op.indexAddr _ _ _,_,_,_,none⟩::_) _ _;refine SW.st (bj rfl rfl (by assumption) (by omega)) rfl ?_))
    refine SW.ah ?_;refine SF.take 11 [] [] aG rfl (by kernel_rfl) (by kernel_rfl) (by kernel_rfl) ?_;repeat ((show SW _ _ _ _ (⟨_,Op.fieldAddr _ _ _,_,_,_,none⟩::_) _ _;refine SW.st (aD rfl) rfl ?_))
    refine SW.ah ?_;refine SF.take 12 [] [] aG rfl (by kernel_rfl) (by kernel_rfl) (by kernel_rfl) ?_;repeat ((show SW _ _ _ _ (⟨_,Op.load _ _,_,_,_,none⟩::_) _ _;refine SW.st (ao rfl (gY _ hS)) rfl ?_))
    refine SW.ah ?_;refine SF.take 13 [] [] aG rfl (by kernel_rfl) (by kernel_rfl) (by kernel_rfl) ?_;repeat ((show SW _ _ _ _ (⟨_,Op.indexAddr _ _ _,_,_,_,none⟩::_) _ _;refine SW.st (bj rfl rfl (by assumption) (by omega)) rfl ?_))
    refine SW.ah ?_;refine SF.last rfl (by kernel_rfl) (by kernel_rfl) ?_;have hC:=hS.each.get i jE hi;refine SW.j4 cpu hC.a8 rfl rfl FJ fun mw hO hg => ?_
    have hG:=hC.a8.gr hg;rw [← e0] at hS hJ;have DY:=hS.act hJ jE hi hO hg;have Hw:=aF (hx.trans hw) hg (Nat.le_refl _) hC.a8.aM;replace hb:=hb.ay hG rfl;refine Wz ?_;refine ae.cx rfl rfl rfl ⟨_,rfl,_,.DE lK,Hw,fun j x hj h=>(h.ext hw).ay hG rfl,fun j x hj h=>(h.ext hw).grown hg (hJ.ne hj jE),.inr ⟨_,rfl,rfl,r.Words,r.Heap,cs,hb,?_⟩⟩
    have xN:pL s.aa[i] cpu k=⟨s.aa[i].Names,s.aa[i].bg,s.aa[i].cm,s.aa[i].Order,s.aa[i].ai,s.aa[i].au.set cpu y.At⟩:=by
     unfold pL;rw [gb hk,hy]
    simp only;rw [xN];exact DY
   ·have rK:fM s.aa[i] cpu<0:=by omega
    refine Wz ?_;all_goals try omega
    refine SW.da rfl rfl (ye G wb _ b r s cs i cpu hf hi hM (pK.ext hw) (hx.trans hw) hb Fs hS (fun g hg=>⟨Nat.lt_of_lt_of_le (Ft g hg) hw.size,fun u hu=>hJ.sep u hu g hg⟩) El) fun v mw hv => ?_
    obtain ⟨⟨h',at',e⟩,hu,hv⟩:=hv;simp only at hv;rcases hv with ⟨he,rfl,kw⟩|⟨rfl,Hx,rfl,kw⟩|⟨rfl,gn,rfl,kw,re,ul,rm,X,H,cs',jJ,mJ,tZ⟩
    ·refine Wz ?_;all_goals try omega
     exact ae.cx rfl rfl rfl ⟨_,rfl,_,.room rK hu he,(hx.trans hw).trans kw,fun j x hj h=>(h.ext hw).ext kw,fun j x hj h=>(h.ext hw).ext kw,.inl ⟨rfl,he,rfl⟩⟩
    ·refine Wz ?_;all_goals try omega
     exact ae.cx rfl rfl rfl ⟨_,rfl,_,.chain rK hu rfl Hx,(hx.trans hw).trans kw,fun j x hj h=>(h.ext hw).ext kw,fun j x hj h=>(h.ext hw).ext kw,.inl ⟨rfl,by simp,rfl⟩⟩
    ·replace bw:=ul _ _ bw;obtain ⟨e3,e4⟩:=mJ.rows;have lc:i<cs'.length:=by simp only [iI] at e3;omega
     obtain ⟨k,wy⟩ : ∃ k,lI s.aa[i] at'=k:=⟨_,rfl⟩
     obtain ⟨c1,sK⟩ : ∃ c1,eI s.aa[i] at'=c1:=⟨_,rfl⟩
     have tg:=mh s.aa[i] at'
     have AN:c1.ai.length=s.aa[i].ai.length+1:=by
      rw [← sK];exact du _ tg _
     have EX:k<c1.ai.length:=by omega
     have JE:c1.ai[k]=⟨at',s.aa[i].cm,16*at'⟩:=by
      subst sK;subst wy;exact tI tg EX
     have DZ:c1.au=s.aa[i].au:=by rw [← sK];rfl
     have gw:=kz.new rK hu rfl gn;rw [sK] at mJ tZ;rw [wy];simp only [sK,wy] at gw;have hC:=mJ.get lc hi;simp only at hC;have q5:=hC.aS.len;have q6:=hC.a8.len;have cb:k<cs'[i].ai.n:=by omega
     have D0:cpu<cs'[i].au.n:=by rw [← q6,DZ];exact nY
     have JF:=hC.aS.sl.base;have JG:=hC.a8.sl.base;have gY:∀ w',SX w' wb.heap.size ⟨X,H,r.aa⟩ (ct (iI s (jc s.Words (16*at') s.aa[i].bg s.aa[i].cm)) i (h',c1)) cs'→w'.cell? ((((cs'[i].ai.A).getD default).add (k*3)).add 0)=some (Value.int .i64 at'):=fun w' h=>(h.get lc hi).aS.sl.dA cb (j:=0) (show (aY (c1.ai[k]'(by omega)))[0]?=some (Value.int .i64 at') by rw [JE];rfl)
     clear hC hS hJ hb;have JH:=hw;have hw:=Ext.refl mw;refine Wz ?_;all_goals try omega
     refine CW.iS 14 14 (fun _=>True) mixed (by kernel_rfl) fun w1 ab aG => ?_
     replace hw:=Ext.trans hw ab;replace jJ:=jJ.ext ab;replace bw:=bw.ext ab;replace mJ:=mJ.ext ab;replace tZ:=tZ.ext ab;clear ab;refine SF.take 0 [] [] aG rfl (by kernel_rfl) (by kernel_rfl) (by kernel_rfl) ?_;repeat ((show SW _ _ _ _ (⟨_,Op.load _ _,_,_,_,none⟩::_) _ _;refine SW.st (ao rfl (AD _ bw)) rfl ?_))
     refine SW.ah ?_;refine SF.take 1 [] [] aG rfl (by kernel_rfl) (by kernel_rfl) (by kernel_rfl) ?_;repeat ((show SW _ _ _ _ (⟨_,Op.nilCheck _,_,_,_,none⟩::_) _ _;refine SW.st (aK rfl) rfl ?_))
     refine SW.ah ?_;refine SF.take 2 [] [] aG rfl (by kernel_rfl) (by kernel_rfl) (by kernel_rfl) ?_;repeat ((show SW _ _ _ _ (⟨_,Op.fieldAddr _ _ _,_,_,_,none⟩::_) _ _;refine SW.st (aD rfl) rfl ?_))
     refine SW.ah ?_;refine SF.take 3 [] [] aG rfl (by kernel_rfl) (by kernel_rfl) (by kernel_rfl) ?_;repeat ((show SW _ _ _ _ (⟨_,Op.load _ _,_,_,_,none⟩::_) _ _;refine SW.st (ao rfl (mJ.row.sl.dA cf (j:=5) (u := .slice cs'[i].au.A cs'[i].au.n cs'[i].au.c) rfl)) rfl ?_))
     refine SW.ah ?_;refine SF.take 4 [] [] aG rfl (by kernel_rfl) (by kernel_rfl) (by kernel_rfl) ?_;repeat (refine SW.pure rfl rfl ?_)
     refine SW.ah ?_;refine SF.take 5 [] [] aG rfl (by kernel_rfl) (by kernel_rfl) (by kernel_rfl) ?_;repeat ((show SW _ _ _ _ (⟨_,Op.load _ _,_,_,_,none⟩::_) _ _;refine SW.st (ao rfl (AD _ bw)) rfl ?_))
     refine SW.ah ?_;refine SF.take 6 [] [] aG rfl (by kernel_rfl) (by kernel_rfl) (by kernel_rfl) ?_;repeat ((show SW _ _ _ _ (⟨_,Op.nilCheck _,_,_,_,none⟩::_) _ _;refine SW.st (aK rfl) rfl ?_))
     refine SW.ah ?_;refine SF.take 7 [] [] aG rfl (by kernel_rfl) (by kernel_rfl) (by kernel_rfl) ?_;repeat ((show SW _ _ _ _ (⟨_,Op.fieldAddr _ _ _,_,_,_,none⟩::_) _ _;refine SW.st (aD rfl) rfl ?_))
     refine SW.ah ?_;refine SF.take 8 [] [] aG rfl (by kernel_rfl) (by kernel_rfl) (by kernel_rfl) ?_;repeat ((show SW _ _ _ _ (⟨_,Op.load _ _,_,_,_,none⟩::_) _ _;refine SW.st (ao rfl (mJ.row.sl.dA cf (j:=4) (u := .slice cs'[i].ai.A cs'[i].ai.n cs'[i].ai.c) rfl)) rfl ?_))
     refine SW.ah ?_;refine SF.take 9 [] [] aG rfl (by kernel_rfl) (by kernel_rfl) (by kernel_rfl) ?_;repeat (refine SW.pure rfl rfl ?_)
     refine SW.ah ?_;refine SF.take 10 [] [] aG rfl (by kernel_rfl) (by kernel_rfl) (by kernel_rfl) ?_;repeat ((show SW _ _ _ _ (⟨_,Op.indexAddr _ _ _,_,_,_,none⟩::_) _ _;refine SW.st (bj rfl rfl (by assumption) (by omega)) rfl ?_))
     refine SW.ah ?_;refine SF.take 11 [] [] aG rfl (by kernel_rfl) (by kernel_rfl) (by kernel_rfl) ?_;repeat ((show SW _ _ _ _ (⟨_,Op.fieldAddr _ _ _,_,_,_,none⟩::_) _ _;refine SW.st (aD rfl) rfl ?_))
     refine SW.ah ?_;refine SF.take 12 [] [] aG rfl (by kernel_rfl) (by kernel_rfl) (by kernel_rfl) ?_;repeat ((show SW _ _ _ _ (⟨_,Op.load _ _,_,_,_,none⟩::_) _ _;refine SW.st (ao rfl (gY _ mJ)) rfl ?_))
     refine SW.ah ?_;refine SF.take 13 [] [] aG rfl (by kernel_rfl) (by kernel_rfl) (by kernel_rfl) ?_;repeat ((show SW _ _ _ _ (⟨_,Op.indexAddr _ _ _,_,_,_,none⟩::_) _ _;refine SW.st (bj rfl rfl (by assumption) (by omega)) rfl ?_))
     refine SW.ah ?_;refine SF.last rfl (by kernel_rfl) (by kernel_rfl) ?_;have hC:=mJ.get lc hi;simp only at hC;refine SW.j4 cpu hC.a8 rfl rfl D0 fun qG hO hg => ?_
     have hG:=hC.a8.gr hg;have DY:=mJ.act tZ lc hi hO hg;have Hw:=aF (kw.trans hw) hg (Nat.le_refl _) hC.a8.aM;replace jJ:=jJ.ay hG rfl;refine Wz ?_;refine ae.cx rfl rfl rfl ⟨_,rfl,_,gw,Hw,fun j x hj h=>((re j x hj (h.ext JH)).ext hw).ay hG rfl,fun j x hj h=>((rm j x (h.ext JH)).ext hw).grown hg (tZ.ne hj lc),.inr ⟨_,rfl,rfl,X,H,cs',jJ,?_⟩⟩
     have xN:pL c1 cpu k=⟨c1.Names,c1.bg,c1.cm,c1.Order,c1.ai,c1.au.set cpu at'⟩:=by
      unfold pL;rw [gb EX,JE]
     simp only;rw [xN];exact DY
  ·have LS:k2<cs[i].ai.n:=by omega
   obtain ⟨y2,Jq⟩ : ∃ y2,s.aa[i].ai[k2]=y2:=⟨_,rfl⟩;have OP : ¬ 0<y2.ag:=fun h=>hA ⟨k2,Da,Io,by rw [Jq];exact h⟩
   have OQ:∀ w',SX w' wb.heap.size r s cs→w'.cell? ((((cs[i].ai.A).getD default).add (k2*3)).add 1)=some (Value.int .i64 y2.ag):=fun w' h=>(h.each.get i jE hi).aS.sl.dA LS (j:=1) (show (aY (s.aa[i].ai[k2]'(by omega)))[1]?=some (Value.int .i64 y2.ag) by rw [Jq];rfl)
   subst Io;repeat' (first|refine Wz ?_|((apply CW.aP mixed;(· kernel_rfl);rotate_left;intro w1 ab;replace hw:=Ext.trans hw ab;replace hb:=hb.ext ab;replace bw:=bw.ext ab;replace hS:=hS.ext ab;replace hJ:=hJ.ext ab;clear ab;rotate_right))|refine SW.st (ao rfl (AD _ bw)) rfl ?_|refine SW.st (aW rfl rfl ((hS.row.sl.all cf))) rfl ?_|refine SW.st (ao rfl (hS.row.sl.dA cf (j:=5) (u := .slice cs[i].au.A cs[i].au.n cs[i].au.c) rfl)) rfl ?_|refine SW.st (ao rfl (gA _ hS)) rfl ?_|refine SW.st (ao rfl (hS.row.sl.dA cf (j:=4) (u := .slice cs[i].ai.A cs[i].ai.n cs[i].ai.c) rfl)) rfl ?_|refine SW.st (ao rfl (OQ _ hS)) rfl ?_|refine SW.br rfl rfl (fun w1 ab=>(cF _ (Ext.trans hw ab))) ?_|(refine SW.st (iz (vs:=[.pointer (some ⟨b8,0,none⟩)]) rfl) rfl ?_)|exact SW.bx rfl)
   all_goals try omega
   replace hw:=Ext.trans Cl hw;clear Cl cF hC;have hC:=hS.each.get i jE hi;have DX:=hS.row.sl.dA cf (j:=5) (u := .slice cs[i].au.A cs[i].au.n cs[i].au.c) rfl;refine SW.call rfl rfl (iF _ _ _ s.aa[i].ai _ hC.aS.sl _ [.pointer (some ⟨b8,0,none⟩)] (jN s.aa[i]) (fun x => .agg (aY x).toArray) (fun x=>rfl) (fun x AG w1 jx=>rh x b8 _ cs[i].au.A cs[i].au.n cs[i].au.c s.aa[i].au w1 (bw.ext jx) (jx.cell DX) (hC.a8.sl.ext jx) (by omega)) (by omega)) fun v w9 aj hv => ?_
   subst hv;(replace hw:=Ext.trans hw aj;replace hb:=hb.ext aj;replace bw:=bw.ext aj;replace hS:=hS.ext aj;replace hJ:=hJ.ext aj);clear hC DX;obtain ⟨z,hz⟩ : ∃ z,idxOf (jN s.aa[i]) s.aa[i].ai=z:=⟨_,rfl⟩;rw [hz]
   have lK:fM s.aa[i] cpu=z:=by
    unfold fM;rw [ho,if_neg ug,hz]
   by_cases sZ : 0≤z
   ·obtain ⟨k,rfl⟩:=Int.eq_ofNat_of_zero_le sZ;obtain ⟨hk,fH⟩:=wv lK;have cb:k<cs[i].ai.n:=by omega
    obtain ⟨y,hy⟩ : ∃ y,s.aa[i].ai[k]=y:=⟨_,rfl⟩;have gY:∀ w',SX w' wb.heap.size r s cs→w'.cell? ((((cs[i].ai.A).getD default).add (k*3)).add 0)=some (Value.int .i64 y.At):=fun w' h=>(h.each.get i jE hi).aS.sl.dA cb (j:=0) (show (aY (s.aa[i].ai[k]'(by omega)))[0]?=some (Value.int .i64 y.At) by rw [hy];rfl)
    refine Wz ?_;all_goals try omega
    refine CW.iS 14 14 (fun _=>True) mixed (by kernel_rfl) fun w1 ab aG => ?_
    replace hw:=Ext.trans hw ab;replace hb:=hb.ext ab;replace bw:=bw.ext ab;replace hS:=hS.ext ab;replace hJ:=hJ.ext ab;clear ab;refine SF.take 0 [] [] aG rfl (by kernel_rfl) (by kernel_rfl) (by kernel_rfl) ?_;repeat ((show SW _ _ _ _ (⟨_,Op.load _ _,_,_,_,none⟩::_) _ _;refine SW.st (ao rfl (AD _ bw)) rfl ?_))
    refine SW.ah ?_;refine SF.take 1 [] [] aG rfl (by kernel_rfl) (by kernel_rfl) (by kernel_rfl) ?_;repeat ((show SW _ _ _ _ (⟨_,Op.nilCheck _,_,_,_,none⟩::_) _ _;refine SW.st (aK rfl) rfl ?_))
    refine SW.ah ?_;refine SF.take 2 [] [] aG rfl (by kernel_rfl) (by kernel_rfl) (by kernel_rfl) ?_;repeat ((show SW _ _ _ _ (⟨_,Op.fieldAddr _ _ _,_,_,_,none⟩::_) _ _;refine SW.st (aD rfl) rfl ?_))
    refine SW.ah ?_;refine SF.take 3 [] [] aG rfl (by kernel_rfl) (by kernel_rfl) (by kernel_rfl) ?_;repeat ((show SW _ _ _ _ (⟨_,Op.load _ _,_,_,_,none⟩::_) _ _;refine SW.st (ao rfl (hS.row.sl.dA cf (j:=5) (u := .slice cs[i].au.A cs[i].au.n cs[i].au.c) rfl)) rfl ?_))
    refine SW.ah ?_;refine SF.take 4 [] [] aG rfl (by kernel_rfl) (by kernel_rfl) (by kernel_rfl) ?_;repeat (refine SW.pure rfl rfl ?_)
    refine SW.ah ?_;refine SF.take 5 [] [] aG rfl (by kernel_rfl) (by kernel_rfl) (by kernel_rfl) ?_;repeat ((show SW _ _ _ _ (⟨_,Op.load _ _,_,_,_,none⟩::_) _ _;refine SW.st (ao rfl (AD _ bw)) rfl ?_))
    refine SW.ah ?_;refine SF.take 6 [] [] aG rfl (by kernel_rfl) (by kernel_rfl) (by kernel_rfl) ?_;repeat ((show SW _ _ _ _ (⟨_,Op.nilCheck _,_,_,_,none⟩::_) _ _;refine SW.st (aK rfl) rfl ?_))
    refine SW.ah ?_;refine SF.take 7 [] [] aG rfl (by kernel_rfl) (by kernel_rfl) (by kernel_rfl) ?_;repeat ((show SW _ _ _ _ (⟨_,Op.fieldAddr _ _ _,_,_,_,none⟩::_) _ _;refine SW.st (aD rfl) rfl ?_))
    refine SW.ah ?_;refine SF.take 8 [] [] aG rfl (by kernel_rfl) (by kernel_rfl) (by kernel_rfl) ?_;repeat ((show SW _ _ _ _ (⟨_,Op.load _ _,_,_,_,none⟩::_) _ _;refine SW.st (ao rfl (hS.row.sl.dA cf (j:=4) (u := .slice cs[i].ai.A cs[i].ai.n cs[i].ai.c) rfl)) rfl ?_))
    refine SW.ah ?_;refine SF.take 9 [] [] aG rfl (by kernel_rfl) (by kernel_rfl) (by kernel_rfl) ?_;repeat (refine SW.pure rfl rfl ?_)
    refine SW.ah ?_;refine SF.take 10 [] [] aG rfl (by kernel_rfl) (by kernel_rfl) (by kernel_rfl) ?_;repeat ((show SW _ _ _ _ (⟨_,Op.indexAddr _ _ _,_,_,_,none⟩::_) _ _;refine SW.st (bj rfl rfl (by assumption) (by omega)) rfl ?_))
    refine SW.ah ?_;refine SF.take 11 [] [] aG rfl (by kernel_rfl) (by kernel_rfl) (by kernel_rfl) ?_;repeat ((show SW _ _ _ _ (⟨_,Op.fieldAddr _ _ _,_,_,_,none⟩::_) _ _;refine SW.st (aD rfl) rfl ?_))
    refine SW.ah ?_;refine SF.take 12 [] [] aG rfl (by kernel_rfl) (by kernel_rfl) (by kernel_rfl) ?_;repeat ((show SW _ _ _ _ (⟨_,Op.load _ _,_,_,_,none⟩::_) _ _;refine SW.st (ao rfl (gY _ hS)) rfl ?_))
    refine SW.ah ?_;refine SF.take 13 [] [] aG rfl (by kernel_rfl) (by kernel_rfl) (by kernel_rfl) ?_;repeat ((show SW _ _ _ _ (⟨_,Op.indexAddr _ _ _,_,_,_,none⟩::_) _ _;refine SW.st (bj rfl rfl (by assumption) (by omega)) rfl ?_))
    refine SW.ah ?_;refine SF.last rfl (by kernel_rfl) (by kernel_rfl) ?_;have hC:=hS.each.get i jE hi;refine SW.j4 cpu hC.a8 rfl rfl FJ fun mw hO hg => ?_
    have hG:=hC.a8.gr hg;rw [← e0] at hS hJ;have DY:=hS.act hJ jE hi hO hg;have Hw:=aF (hx.trans hw) hg (Nat.le_refl _) hC.a8.aM;replace hb:=hb.ay hG rfl;refine Wz ?_;refine ae.cx rfl rfl rfl ⟨_,rfl,_,.DE lK,Hw,fun j x hj h=>(h.ext hw).ay hG rfl,fun j x hj h=>(h.ext hw).grown hg (hJ.ne hj jE),.inr ⟨_,rfl,rfl,r.Words,r.Heap,cs,hb,?_⟩⟩
    have xN:pL s.aa[i] cpu k=⟨s.aa[i].Names,s.aa[i].bg,s.aa[i].cm,s.aa[i].Order,s.aa[i].ai,s.aa[i].au.set cpu y.At⟩:=by
     unfold pL;rw [gb hk,hy]
    simp only;rw [xN];exact DY
   ·have rK:fM s.aa[i] cpu<0:=by omega
    refine Wz ?_;all_goals try omega
    refine SW.da rfl rfl (ye G wb _ b r s cs i cpu hf hi hM (pK.ext hw) (hx.trans hw) hb Fs hS (fun g hg=>⟨Nat.lt_of_lt_of_le (Ft g hg) hw.size,fun u hu=>hJ.sep u hu g hg⟩) El) fun v mw hv => ?_
    obtain ⟨⟨h',at',e⟩,hu,hv⟩:=hv;simp only at hv;rcases hv with ⟨he,rfl,kw⟩|⟨rfl,Hx,rfl,kw⟩|⟨rfl,gn,rfl,kw,re,ul,rm,X,H,cs',jJ,mJ,tZ⟩
    ·refine Wz ?_;all_goals try omega
     exact ae.cx rfl rfl rfl ⟨_,rfl,_,.room rK hu he,(hx.trans hw).trans kw,fun j x hj h=>(h.ext hw).ext kw,fun j x hj h=>(h.ext hw).ext kw,.inl ⟨rfl,he,rfl⟩⟩
    ·refine Wz ?_;all_goals try omega
     exact ae.cx rfl rfl rfl ⟨_,rfl,_,.chain rK hu rfl Hx,(hx.trans hw).trans kw,fun j x hj h=>(h.ext hw).ext kw,fun j x hj h=>(h.ext hw).ext kw,.inl ⟨rfl,by simp,rfl⟩⟩
    ·replace bw:=ul _ _ bw;obtain ⟨e3,e4⟩:=mJ.rows;have lc:i<cs'.length:=by simp only [iI] at e3;omega
     obtain ⟨k,wy⟩ : ∃ k,lI s.aa[i] at'=k:=⟨_,rfl⟩
     obtain ⟨c1,sK⟩ : ∃ c1,eI s.aa[i] at'=c1:=⟨_,rfl⟩
     have tg:=mh s.aa[i] at'
     have AN:c1.ai.length=s.aa[i].ai.length+1:=by
      rw [← sK];exact du _ tg _
     have EX:k<c1.ai.length:=by omega
     have JE:c1.ai[k]=⟨at',s.aa[i].cm,16*at'⟩:=by
      subst sK;subst wy;exact tI tg EX
     have DZ:c1.au=s.aa[i].au:=by rw [← sK];rfl
     have gw:=kz.new rK hu rfl gn;rw [sK] at mJ tZ;rw [wy];simp only [sK,wy] at gw;have hC:=mJ.get lc hi;simp only at hC;have q5:=hC.aS.len;have q6:=hC.a8.len;have cb:k<cs'[i].ai.n:=by omega
     have D0:cpu<cs'[i].au.n:=by rw [← q6,DZ];exact nY
     have JF:=hC.aS.sl.base;have JG:=hC.a8.sl.base;have gY:∀ w',SX w' wb.heap.size ⟨X,H,r.aa⟩ (ct (iI s (jc s.Words (16*at') s.aa[i].bg s.aa[i].cm)) i (h',c1)) cs'→w'.cell? ((((cs'[i].ai.A).getD default).add (k*3)).add 0)=some (Value.int .i64 at'):=fun w' h=>(h.get lc hi).aS.sl.dA cb (j:=0) (show (aY (c1.ai[k]'(by omega)))[0]?=some (Value.int .i64 at') by rw [JE];rfl)
     clear hC hS hJ hb;have JH:=hw;have hw:=Ext.refl mw;refine Wz ?_;all_goals try omega
     refine CW.iS 14 14 (fun _=>True) mixed (by kernel_rfl) fun w1 ab aG => ?_
     replace hw:=Ext.trans hw ab;replace jJ:=jJ.ext ab;replace bw:=bw.ext ab;replace mJ:=mJ.ext ab;replace tZ:=tZ.ext ab;clear ab;refine SF.take 0 [] [] aG rfl (by kernel_rfl) (by kernel_rfl) (by kernel_rfl) ?_;repeat ((show SW _ _ _ _ (⟨_,Op.load _ _,_,_,_,none⟩::_) _ _;refine SW.st (ao rfl (AD _ bw)) rfl ?_))
     refine SW.ah ?_;refine SF.take 1 [] [] aG rfl (by kernel_rfl) (by kernel_rfl) (by kernel_rfl) ?_;repeat ((show SW _ _ _ _ (⟨_,Op.nilCheck _,_,_,_,none⟩::_) _ _;refine SW.st (aK rfl) rfl ?_))
     refine SW.ah ?_;refine SF.take 2 [] [] aG rfl (by kernel_rfl) (by kernel_rfl) (by kernel_rfl) ?_;repeat ((show SW _ _ _ _ (⟨_,Op.fieldAddr _ _ _,_,_,_,none⟩::_) _ _;refine SW.st (aD rfl) rfl ?_))
     refine SW.ah ?_;refine SF.take 3 [] [] aG rfl (by kernel_rfl) (by kernel_rfl) (by kernel_rfl) ?_;repeat ((show SW _ _ _ _ (⟨_,Op.load _ _,_,_,_,none⟩::_) _ _;refine SW.st (ao rfl (mJ.row.sl.dA cf (j:=5) (u := .slice cs'[i].au.A cs'[i].au.n cs'[i].au.c) rfl)) rfl ?_))
     refine SW.ah ?_;refine SF.take 4 [] [] aG rfl (by kernel_rfl) (by kernel_rfl) (by kernel_rfl) ?_;repeat (refine SW.pure rfl rfl ?_)
     refine SW.ah ?_;refine SF.take 5 [] [] aG rfl (by kernel_rfl) (by kernel_rfl) (by kernel_rfl) ?_;repeat ((show SW _ _ _ _ (⟨_,Op.load _ _,_,_,_,none⟩::_) _ _;refine SW.st (ao rfl (AD _ bw)) rfl ?_))
     refine SW.ah ?_;refine SF.take 6 [] [] aG rfl (by kernel_rfl) (by kernel_rfl) (by kernel_rfl) ?_;repeat ((show SW _ _ _ _ (⟨_,Op.nilCheck _,_,_,_,none⟩::_) _ _;refine SW.st (aK rfl) rfl ?_))
     refine SW.ah ?_;refine SF.take 7 [] [] aG rfl (by kernel_rfl) (by kernel_rfl) (by kernel_rfl) ?_;repeat ((show SW _ _ _ _ (⟨_,Op.fieldAddr _ _ _,_,_,_,none⟩::_) _ _;refine SW.st (aD rfl) rfl ?_))
     refine SW.ah ?_;refine SF.take 8 [] [] aG rfl (by kernel_rfl) (by kernel_rfl) (by kernel_rfl) ?_;repeat ((show SW _ _ _ _ (⟨_,Op.load _ _,_,_,_,none⟩::_) _ _;refine SW.st (ao rfl (mJ.row.sl.dA cf (j:=4) (u := .slice cs'[i].ai.A cs'[i].ai.n cs'[i].ai.c) rfl)) rfl ?_))
     refine SW.ah ?_;refine SF.take 9 [] [] aG rfl (by kernel_rfl) (by kernel_rfl) (by kernel_rfl) ?_;repeat (refine SW.pure rfl rfl ?_)
     refine SW.ah ?_;refine SF.take 10 [] [] aG rfl (by kernel_rfl) (by kernel_rfl) (by kernel_rfl) ?_;repeat ((show SW _ _ _ _ (⟨_,Op.indexAddr _ _ _,_,_,_,none⟩::_) _ _;refine SW.st (bj rfl rfl (by assumption) (by omega)) rfl ?_))
     refine SW.ah ?_;refine SF.take 11 [] [] aG rfl (by kernel_rfl) (by kernel_rfl) (by kernel_rfl) ?_;repeat ((show SW _ _ _ _ (⟨_,Op.fieldAddr _ _ _,_,_,_,none⟩::_) _ _;refine SW.st (aD rfl) rfl ?_))
     refine SW.ah ?_;refine SF.take 12 [] [] aG rfl (by kernel_rfl) (by kernel_rfl) (by kernel_rfl) ?_;repeat ((show SW _ _ _ _ (⟨_,Op.load _ _,_,_,_,none⟩::_) _ _;refine SW.st (ao rfl (gY _ mJ)) rfl ?_))
     refine SW.ah ?_;refine SF.take 13 [] [] aG rfl (by kernel_rfl) (by kernel_rfl) (by kernel_rfl) ?_;repeat ((show SW _ _ _ _ (⟨_,Op.indexAddr _ _ _,_,_,_,none⟩::_) _ _;refine SW.st (bj rfl rfl (by assumption) (by omega)) rfl ?_))
     refine SW.ah ?_;refine SF.last rfl (by kernel_rfl) (by kernel_rfl) ?_;have hC:=mJ.get lc hi;simp only at hC;refine SW.j4 cpu hC.a8 rfl rfl D0 fun qG hO hg => ?_
     have hG:=hC.a8.gr hg;have DY:=mJ.act tZ lc hi hO hg;have Hw:=aF (kw.trans hw) hg (Nat.le_refl _) hC.a8.aM;replace jJ:=jJ.ay hG rfl;refine Wz ?_;refine ae.cx rfl rfl rfl ⟨_,rfl,_,gw,Hw,fun j x hj h=>((re j x hj (h.ext JH)).ext hw).ay hG rfl,fun j x hj h=>((rm j x (h.ext JH)).ext hw).grown hg (tZ.ne hj lc),.inr ⟨_,rfl,rfl,X,H,cs',jJ,?_⟩⟩
     have xN:pL c1 cpu k=⟨c1.Names,c1.bg,c1.cm,c1.Order,c1.ai,c1.au.set cpu at'⟩:=by
      unfold pL;rw [gb EX,JE]
     simp only;rw [xN];exact DY
def Hy (G:Nat→Prop) (wb w0:World) (b:Nat) (r:dQ) (s:aE) (i:Nat) (c:bf) (cpu:Nat) (v:Value) (w':World) : Prop :=
 ∃ m,kz s c cpu m∧Ext wb w'∧(∀ j x,j≠b→aJ w0 j 44 x→aJ w' j 44 x)∧(∀ j x,G j→aJ w0 j 3 x→aJ w' j 3 x) ∧
  ((m.1=none∧m.2≠0∧v = .tuple #[.int .i64 0,.int .i64 m.2]) ∨
   ∃ M,m=(some M,0)∧v = .tuple #[.int .i64 (fj M.c M.k).fT,.int .i64 0] ∧ ∃ X H cs',aJ w' b 44 (aR ⟨X,H,r.aa⟩)∧SX w' wb.heap.size ⟨X,H,r.aa⟩ (ct (iI s M.ws) i (M.h,kr M.c cpu M.k (M.ws.getD (fj M.c M.k).fT.toNat 0))) cs'∧SJ G w' wb.heap.size ⟨X,H,r.aa⟩ (ct (iI s M.ws) i (M.h,kr M.c cpu M.k (M.ws.getD (fj M.c M.k).fT.toNat 0))) cs')
theorem nW.AE {w w':World} {lo:Nat} {r:dQ} {s:aE} {cs:List dr} {i:Nat} {p:Heap×bf} {l':List Slab} (h:SX w lo r (ct s i p) cs) (hi:i<cs.length) (qa:i<s.aa.length) (hO:Own w' lo 91 3 aY cs[i].ai.A cs[i].ai.n cs[i].ai.c l') (hg:w.grownBy w' (aU cs[i].ai.A cs[i].ai.c)) :
 SX w' lo r (ct s i (p.1,⟨p.2.Names,p.2.bg,p.2.cm,p.2.Order,l',p.2.au⟩)) cs:=by
 have:=h.Fc hi qa hO hg
 have e:cs.set i ⟨cs[i].Names,cs[i].bg,cs[i].cm,cs[i].Order,⟨cs[i].ai.A,cs[i].ai.n,cs[i].ai.c⟩,cs[i].au⟩=cs:=List.set_getElem_self hi
 rwa [e] at this
set_option maxHeartbeats 4000000 in
theorem Fx (G:Nat→Prop) (wb w0:World) (b:Nat) (r:dQ) (s:aE) (cs:List dr) (i cpu:Nat) (hf:s.kh) (hi:i<s.aa.length) (hM:nX s s.aa[i]) (pK:nR w0)
 (hx:Ext wb w0) (hb:aJ w0 b 44 (aR r)) (Fs:wb.heap.size≤b) (hS:SX w0 wb.heap.size r s cs) (hJ:SJ G w0 wb.heap.size r s cs) (Ft:∀ g,G g→g<w0.heap.size) (nY:cpu<s.aa[i].au.length) (El:(s.aa[i].ai.length+1)*24≤140737488355328) :
 gX Tryz.prog 151 [.pointer (some ⟨b,0,none⟩),.int .i64 (i:Int),.int .i64 (cpu:Int)] w0 (Hy G wb w0 b r s i s.aa[i] cpu):=by
 refine dB Tryz.func151 rfl Tryz.ntmps151 rfl ?_;have hm:=hM.most;have LP:=hS.row.sl.base;obtain ⟨e1,e2⟩:=hS.len;have cf:i<r.aa.n:=by omega
 refine Wz ?_;refine SW.da rfl rfl (zP G wb _ b r s cs i cpu hf hi hM pK hx hb Fs hS hJ Ft nY El) fun v w1 hv => ?_
 obtain ⟨m,gw,jx,re,rm,hv⟩:=hv;rcases hv with ⟨hn,he,rfl⟩|⟨M,rfl,rfl,X,H,cs',aB,Fa,OR⟩
 ·have hw:=Ext.refl w1;refine Wz ?_;all_goals try omega
  exact ae.cx rfl rfl rfl ⟨_,rfl,m,gw,jx,re,rm,.inl ⟨hn,he,rfl⟩⟩
 ·have jh:=gw.GH hM M rfl;obtain ⟨e3,e4⟩:=Fa.rows;simp only [iI] at e3;have lc:i<cs'.length:=by omega
  obtain ⟨k,hk⟩ : ∃ k,M.k=k:=⟨_,rfl⟩;have dk:=jh.hk;have JI:=jh.first
  have C9:=jh.free;have Ia:=jh.len;obtain ⟨y,hy⟩ : ∃ y,M.c.ai[M.k]=y:=⟨_,rfl⟩;have Ip:fj M.c M.k=y:=by rw [gb dk,hy]
  rw [hy] at JI C9;obtain ⟨an,Hz⟩:=Int.eq_ofNat_of_zero_le JI.1;have hC:=Fa.get lc hi;simp only [pL] at hC;have q1:M.c.ai.length=cs'[i].ai.n:=hC.aS.len
  have q2:=Fa.words.len;have PC:X.n=M.ws.length:=q2.symm
  have nF:M.k<cs'[i].ai.n:=by omega
  have Kq:=hC.aS.sl.base;have PD:=Fa.words.sl.base;have g2:=hC.aS.sl.dA nF (j:=2) (show (aY (M.c.ai[M.k]'(by omega)))[2]?=some (Value.int .i64 (an:Int)) by rw [hy,← Hz];rfl);have HA:an<M.ws.length:=by omega
  have HB:an<X.n:=by omega
  have gW:=Fa.words.sl.one HB (u := .int .i64 M.ws[an]) rfl;have hw:=Ext.refl w1;repeat' (first|refine Wz ?_|refine SW.st (ao rfl (Fa.row.sl.dA cf (j:=4) (u := .slice cs'[i].ai.A cs'[i].ai.n cs'[i].ai.c) rfl)) rfl ?_|refine SW.st (ao rfl g2) rfl ?_|refine SW.st (ao rfl gW) rfl ?_)
  all_goals try omega
  refine SW.gR M.k 2 ⟨y.At,y.ag,M.ws[an]⟩ hC.aS rfl rfl rfl nF (by decide) rfl (by simp only [hy];rfl) fun w8 M3 AA => ?_
  have g8:=M3.sl.dA nF (j:=1) (show (aY ((M.c.ai.set M.k ⟨y.At,y.ag,M.ws[an]⟩)[M.k]'(by rw [List.length_set];exact dk)))[1]?=some (Value.int .i64 y.ag) by rw [List.getElem_set_self];rfl);repeat' (first|refine Wz ?_|refine SW.st (ao rfl g8) rfl ?_)
  refine SW.gR M.k 1 ⟨y.At,y.ag-1,M.ws[an]⟩ M3 rfl rfl rfl nF (by decide) rfl (by simp only [List.getElem_set_self];rfl) fun w9 M4 OS => ?_
  have wT:=bQ AA OS (.inl rfl);rw [List.set_set] at M4;have Kr:=hC.aS.gr wT;have M5:=Fa.AE lc hi M4 wT;have OT:=aF jx wT (Nat.le_refl _) hC.aS.aM;replace aB:=aB.ay Kr rfl;refine Wz ?_;refine ae.cx rfl rfl rfl ⟨_,rfl,_,gw,OT,fun j x hj h=>(re j x hj h).ay Kr rfl,fun j x hj h=>(rm j x hj h).ay Kr rfl,.inr ⟨M,rfl,by rw [Ip,Hz],X,H,cs',aB,?_⟩⟩
  have xN:kr M.c cpu M.k (M.ws.getD (fj M.c M.k).fT.toNat 0)=⟨M.c.Names,M.c.bg,M.c.cm,M.c.Order,M.c.ai.set M.k ⟨y.At,y.ag-1,M.ws[an]⟩,M.c.au.set cpu y.At⟩:=by
   unfold kr;rw [Ip,Hz];simp [HA]
  rw [xN];simp only [pL,Ip] at M5;exact ⟨M5,(OR.ay Kr rfl).rows rfl fun u hu=>⟨u,hu,rfl⟩⟩
set_option maxHeartbeats 4000000 in
theorem uH (r:dQ) (s:aE) (n:ByteArray) (cpu:Int) (w:World) (hr:qR w r s) (hf:s.kh) (M2:n.size≤140737488351232) (pK:nR w) :
 bo Tryz.prog 66 [.agg (aR r).toArray,.string n,.int .i64 cpu] w fun v w' => ∃ u,mi s n cpu u ∧ ∃ q,v = .tuple #[.agg (aR q).toArray,.int .i64 u.2.1,.int .i64 u.2.2]∧na w' w.heap.size q u.1:=by
 refine aI Tryz.func66 rfl Tryz.ntmps66 rfl ?_;refine CW.seq (CW.region (SW.box rfl rfl fun b3 w1 hw bH aq => ?_));refine SW.alloc rfl fun b6 w3 jW eg aw => ?_
 have cu:w.heap.size≤b6:=Nat.le_trans hw.size eg
 have cG:b6≠b3:=by have:=aq.lt;omega
 have hz:∀ w',na w' w.heap.size dQ.zero aE.zero:=fun w'=>⟨Own.eJ _ _ _ _ _ _,iD.zero w' _,⟨[],dX.nil _ _⟩⟩
 (replace hw:=Ext.trans hw jW;replace aq:=aq.ext jW);refine Wz ?_;refine SW.call rfl rfl (Fw r s n cpu _ (hr.ext hw) hf M2) fun v w4 aj hv => ?_
 have vt:=hw.size;(replace hw:=Ext.trans hw aj;replace aq:=aq.ext aj;replace aw:=aw.ext aj);rcases hv with ⟨he,rfl⟩|⟨he,q,cs,rfl,hO,hI⟩
 ·have hP:=mi.ask he;obtain ⟨e,hE⟩ : ∃ e,me s n cpu=e:=⟨_,rfl⟩;rw [hE] at he hP;rw [hE];refine Wz ?_;refine SW.ak aq rfl rfl rfl rfl (cr .zero) fun w5 cK hg => ?_
  replace aw:=aw.grown hg (by simpa using cG);replace hw:=hw.own bH hg;refine Wz ?_;all_goals try omega
  refine SW.ak aw rfl rfl rfl rfl (cr .zero) fun w6 bF hg => ?_
  replace hw:=hw.own cu hg;refine Wz ?_;exact ae.cl rfl rfl rfl rfl bF rfl ⟨_,rfl,hw,_,hP,.zero,rfl,hz _⟩
 ·replace hO:=hO.low vt;replace hI:=hI.low vt;obtain ⟨hq,ht,LU,sK⟩:=wq he;obtain ⟨i,hi,_,_,rA⟩:=jT ht;have hM:=lD.1 hq;have hm:=hM.most;obtain ⟨c,rfl⟩:=Int.eq_ofNat_of_zero_le LU;have OU:=(hM.each i hi).may.a8;have nY:c<s.aa[i].au.length:=by omega
  have hB:=nX.of hM hi;have El:=qD hB;rw [rA];refine Wz ?_;refine SW.ak aq rfl rfl rfl rfl (cr q) fun w5 cK hg => ?_
  have hG:=aq.gr hg;replace aw:=aw.grown hg (by simpa using cG);replace hw:=hw.own bH hg;(replace hO:=hO.ay hG rfl;replace hI:=hI.ay hG rfl);replace aq:=cK;clear cK hG hg;refine Wz ?_;refine SW.da rfl rfl (Fx (fun _=>False) w _ b3 q s cs i c hf hi hB (pK.ext hw) hw aq bH hO hI.sj (fun _ h=>h.elim) nY (by omega)) fun v w6 hv => ?_
  obtain ⟨m,gw,LV,re,_,hv⟩:=hv;have hP:=mi.Fg he rA hi (by simpa using gw);replace aw:=re _ _ cG aw;clear hw;have hw:=LV;rcases hv with ⟨hn,lM,rfl⟩|⟨M,rfl,rfl,X,H,cs',hb,hS,_⟩
  ·obtain ⟨m1,e⟩:=m;simp only at hn lM hP;subst hn;simp only [ks] at hP;refine Wz ?_;all_goals try omega
   refine SW.ak aw rfl rfl rfl rfl (cr .zero) fun w7 bF hg => ?_
   replace hw:=hw.own cu hg;refine Wz ?_;exact ae.cl rfl rfl rfl rfl bF rfl ⟨_,rfl,hw,_,hP,.zero,rfl,hz _⟩
  ·simp only [ks] at hP;refine Wz ?_;refine SW.ak aw rfl rfl rfl rfl (cr ⟨X,H,q.aa⟩) fun w7 bF hg => ?_
   have hG:=aw.gr hg;replace hw:=hw.own cu hg;replace hS:=hS.ay hG rfl;refine Wz ?_;exact ae.cl rfl rfl rfl rfl bF rfl ⟨_,rfl,hw,_,hP,_,rfl,by simpa using hS.xT⟩
end Go.Proofs.YtbidkghlpijecaaGreatDoor
