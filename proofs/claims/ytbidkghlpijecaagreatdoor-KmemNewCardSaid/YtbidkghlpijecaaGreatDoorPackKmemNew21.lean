/-
  Texts of the claim KmemNew, part 21: what its theorem leans on.
-/
import Derived.Test.YtbidkghlpijecaaGreatDoorPackKmemNew13
import Derived.Test.YtbidkghlpijecaaGreatDoorPackKmemNew4
import Derived.Test.YtbidkghlpijecaaGreatDoorPackKmemNew14
import Derived.Test.YtbidkghlpijecaaGreatDoorPackKmemNew9
import Derived.Test.YtbidkghlpijecaaGreatDoorPackKmemNew7
import Derived.Test.YtbidkghlpijecaaGreatDoorPackKmemNew10
import Derived.Test.YtbidkghlpijecaaGreatDoorPackKmemNew19
import Derived.Test.YtbidkghlpijecaaGreatDoorPackKmemNew11
import Derived.Test.YtbidkghlpijecaaGreatDoorPackKmemNew16
import Derived.Test.YtbidkghlpijecaaGreatDoorPackKmemNew12
import Derived.Test.YtbidkghlpijecaaGreatDoorPackKmemNew15
import Derived.Test.YtbidkghlpijecaaGreatDoorPackKmemNew18
import Derived.Test.YtbidkghlpijecaaGreatDoorPackKmemNew20
import Derived.Test.YtbidkghlpijecaaGreatDoorPackKmemNew8
set_option linter.unusedVariables false
set_option linter.unusedSimpArgs false
namespace Go.Proofs.YtbidkghlpijecaaGreatDoor
open Go.RowKit
set_option maxHeartbeats 4000000 in
theorem HeapCopy_ans (r:HRow) (h:Heap) (w:World) (hr:RdH w r h) (hs:h.small) :
 Ans Tryz.prog 40 [.agg (encH r).toArray] w fun v w' => ∃ s,v = .agg (encH s).toArray∧OwnH w' w.heap.size s h:=by
 refine ans_of Tryz.func40 rfl Tryz.ntmps40 rfl ?_
 refine CW.seq (CW.region (SW.box rfl rfl fun b1 w1 hw hb1b hb1 => ?_))
 refine SW.alloc rfl fun b2 w2 hw2 hb2b hb2 => ?_
 have hb2w:w.heap.size≤b2:=Nat.le_trans hw.size hb2b
 have hne2:b2≠b1:=by have:=hb1.lt;omega
 (replace hw:=Ext.trans hw hw2;replace hb1:=hb1.ext hw2)
 obtain ⟨zs,hz⟩:=hr.zones
 obtain ⟨ls,hl⟩:=hr.lists
 have hml:=hr.mins.len
 have hvl:=hr.live.len
 have s1:=hs.mins
 have s2:=hs.live
 have s3:=hs.zones
 have s4:=hs.lists
 obtain ⟨z1,z2⟩:=hz.len
 obtain ⟨l1,l2⟩:=hl.len
 repeat' (first|(refine CW.seq ?_)|(refine Post.seq ?_)|refine SW.nil ?_)
 obtain ⟨K,hK⟩ : ∃ K:Env→World→Prop,K=fun L' w' => ∃ X c1 Y d1 b3,subEnv L' [(1,.pointer (some ⟨b1,0,none⟩)),(2,.pointer (some ⟨b2,0,none⟩)),(3,.pointer (some ⟨b3,0,none⟩))]∧Ext w w'∧Blk w' b1 41 (encH r)∧Blk w' b2 41 (encH .zero) ∧
  Blk w' b3 41 (encH ⟨.nil,⟨X,r.Mins.n,c1⟩,r.Cpus,.nil,⟨Y,r.Live.n,d1⟩⟩)∧Own w' w.heap.size 3 1 encI X r.Mins.n c1 h.Mins∧Own w' w.heap.size 165 3 encBk Y r.Live.n d1 h.Live∧w.heap.size≤b3∧b1≠b3∧b2≠b3:=⟨_,rfl⟩
 refine CW.cut K ?_ ?_
 ·refine CW.any 10 mixed (rb_tail (by kernel_rfl)) rfl fun w1 hw1 hRB => ?_
  replace hw:=Ext.trans hw hw1;replace hb1:=hb1.ext hw1;replace hb2:=hb2.ext hw1;clear hw1
  refine SA.take 0 hRB rfl (by kernel_rfl) (by kernel_rfl) rfl ?_
  repeat ((show SW _ _ _ _ (⟨_,Op.fieldAddr _ _ _,_,_,_,none⟩::_) _ _;refine SW.st (st_field rfl) rfl ?_))
  refine SW.tknil ?_
  refine SA.take 1 hRB rfl (by kernel_rfl) (by kernel_rfl) rfl ?_
  repeat ((show SW _ _ _ _ (⟨_,Op.load _ _,_,_,_,none⟩::_) _ _;refine SW.st (st_load rfl (hb1.cell rfl)) rfl ?_))
  refine SW.tknil ?_
  refine SA.take 3 hRB rfl (by kernel_rfl) (by kernel_rfl) rfl ?_
  repeat ((show SW _ _ _ _ (⟨_,Op.fieldAddr _ _ _,_,_,_,none⟩::_) _ _;refine SW.st (st_field rfl) rfl ?_))
  refine SW.tknil ?_
  refine SA.take 4 hRB rfl (by kernel_rfl) (by kernel_rfl) rfl ?_
  repeat ((show SW _ _ _ _ (⟨_,Op.load _ _,_,_,_,none⟩::_) _ _;refine SW.st (st_load rfl (hb1.cell rfl)) rfl ?_))
  refine SW.tknil ?_
  refine SA.take 5 hRB rfl (by kernel_rfl) (by kernel_rfl) rfl ?_
  repeat ((show SW _ _ _ _ (⟨_,Op.fieldAddr _ _ _,_,_,_,none⟩::_) _ _;refine SW.st (st_field rfl) rfl ?_))
  refine SW.tknil ?_
  refine SA.take 6 hRB rfl (by kernel_rfl) (by kernel_rfl) rfl ?_
  repeat ((show SW _ _ _ _ (⟨_,Op.load _ _,_,_,_,none⟩::_) _ _;refine SW.st (st_load rfl (hb1.cell rfl)) rfl ?_))
  refine SW.tknil ?_
  refine SA.two 2 9 rfl rfl (by kernel_rfl) rfl rfl ?_ ?_
  ·refine SW.call rfl rfl (words_ans _ _ _ _ _ (hr.mins.ext hw) (by omega)) fun v w4 hXX hv => ?_
   obtain ⟨X,c4,rfl,hX⟩:=hv
   replace hX:=hX.low hw.size
   replace hw:=Ext.trans hw hXX
   replace hb1:=hb1.ext hXX
   replace hb2:=hb2.ext hXX
   try replace hb3:=hb3.ext hXX
   refine SW.nil (Post.sa hXX ?_)
   refine SA.two 7 9 rfl rfl (by kernel_rfl) rfl rfl ?_ ?_
   ·refine SW.call rfl rfl (blocks_ans _ _ _ _ _ (hr.live.ext hw) (by omega)) fun v w4 hXX hv => ?_
    obtain ⟨Y,d4,rfl,hY⟩:=hv
    replace hY:=hY.low hw.size
    replace hX:=hX.ext hXX
    replace hw:=Ext.trans hw hXX
    replace hb1:=hb1.ext hXX
    replace hb2:=hb2.ext hXX
    try replace hb3:=hb3.ext hXX
    refine SW.nil (Post.sa hXX ?_)
    refine SA.take 8 hRB rfl (by kernel_rfl) (by kernel_rfl) rfl ?_
    repeat ((show SW _ _ _ _ (⟨_,Op.build _ _,_,_,_,none⟩::_) _ _;refine SW.st (st_build rfl rfl) rfl ?_))
    refine SW.tknil ?_
    refine SA.one 9 rfl (by kernel_rfl) rfl ?_
    refine SW.alloc rfl fun b3 w4 hXX hb3b hb3 => ?_
    have hb3w:w.heap.size≤b3:=Nat.le_trans hw.size hb3b
    have hne3:b1≠b3:=by have:=hb1.lt;omega
    have hne4:b2≠b3:=by have:=hb2.lt;omega
    replace hw:=Ext.trans hw hXX
    replace hb1:=hb1.ext hXX
    replace hb2:=hb2.ext hXX
    try replace hX:=hX.ext hXX
    try replace hY:=hY.ext hXX
    refine SW.nil (Post.sa hXX ?_)
    refine SA.done (by kernel_rfl) ?_
    skip
    refine SW.storeAgg hb3 rfl rfl rfl rfl (one_h ⟨.nil,⟨X,r.Mins.n,c4⟩,r.Cpus,.nil,⟨Y,r.Live.n,d4⟩⟩) fun w5 hR2 hg => ?_
    have hG:=hb3.gr hg
    replace hw:=hw.own hb3w hg
    (replace hX:=hX.grT hG rfl;replace hY:=hY.grT hG rfl)
    replace hb1:=hb1.grown hg (by simpa using hne3)
    replace hb2:=hb2.grown hg (by simpa using hne4)
    repeat' (first|(refine Post.np ?_)|refine SW.nil ?_)
    exact Post.cut (K:=K) (by rw [hK];exact ⟨X,c4,Y,d4,b3,⟨rfl,rfl,rfl,trivial⟩,hw,hb1,hb2,hR2,hX,hY,hb3w,hne3,hne4⟩)
   ·refine SW.alloc rfl fun b3 w4 hXX hb3b hb3 => ?_
    have hb3w:w.heap.size≤b3:=Nat.le_trans hw.size hb3b
    have hne3:b1≠b3:=by have:=hb1.lt;omega
    have hne4:b2≠b3:=by have:=hb2.lt;omega
    replace hw:=Ext.trans hw hXX
    replace hb1:=hb1.ext hXX
    replace hb2:=hb2.ext hXX
    try replace hX:=hX.ext hXX
    try replace hY:=hY.ext hXX
    refine SW.nil (Post.sa hXX ?_)
    refine SA.one 7 rfl (by kernel_rfl) rfl ?_
    refine SW.call rfl rfl (blocks_ans _ _ _ _ _ (hr.live.ext hw) (by omega)) fun v w4 hXX hv => ?_
    obtain ⟨Y,d4,rfl,hY⟩:=hv
    replace hY:=hY.low hw.size
    replace hX:=hX.ext hXX
    replace hw:=Ext.trans hw hXX
    replace hb1:=hb1.ext hXX
    replace hb2:=hb2.ext hXX
    try replace hb3:=hb3.ext hXX
    refine SW.nil (Post.sa hXX ?_)
    refine SA.take 8 hRB rfl (by kernel_rfl) (by kernel_rfl) rfl ?_
    repeat ((show SW _ _ _ _ (⟨_,Op.build _ _,_,_,_,none⟩::_) _ _;refine SW.st (st_build rfl rfl) rfl ?_))
    refine SW.tknil ?_
    refine SA.done (by kernel_rfl) ?_
    skip
    refine SW.storeAgg hb3 rfl rfl rfl rfl (one_h ⟨.nil,⟨X,r.Mins.n,c4⟩,r.Cpus,.nil,⟨Y,r.Live.n,d4⟩⟩) fun w5 hR2 hg => ?_
    have hG:=hb3.gr hg
    replace hw:=hw.own hb3w hg
    (replace hX:=hX.grT hG rfl;replace hY:=hY.grT hG rfl)
    replace hb1:=hb1.grown hg (by simpa using hne3)
    replace hb2:=hb2.grown hg (by simpa using hne4)
    repeat' (first|(refine Post.np ?_)|refine SW.nil ?_)
    exact Post.cut (K:=K) (by rw [hK];exact ⟨X,c4,Y,d4,b3,⟨rfl,rfl,rfl,trivial⟩,hw,hb1,hb2,hR2,hX,hY,hb3w,hne3,hne4⟩)
  ·refine SW.alloc rfl fun b3 w4 hXX hb3b hb3 => ?_
   have hb3w:w.heap.size≤b3:=Nat.le_trans hw.size hb3b
   have hne3:b1≠b3:=by have:=hb1.lt;omega
   have hne4:b2≠b3:=by have:=hb2.lt;omega
   replace hw:=Ext.trans hw hXX
   replace hb1:=hb1.ext hXX
   replace hb2:=hb2.ext hXX
   try replace hX:=hX.ext hXX
   try replace hY:=hY.ext hXX
   refine SW.nil (Post.sa hXX ?_)
   refine SA.one 2 rfl (by kernel_rfl) rfl ?_
   refine SW.call rfl rfl (words_ans _ _ _ _ _ (hr.mins.ext hw) (by omega)) fun v w4 hXX hv => ?_
   obtain ⟨X,c4,rfl,hX⟩:=hv
   replace hX:=hX.low hw.size
   replace hw:=Ext.trans hw hXX
   replace hb1:=hb1.ext hXX
   replace hb2:=hb2.ext hXX
   try replace hb3:=hb3.ext hXX
   refine SW.nil (Post.sa hXX ?_)
   refine SA.one 7 rfl (by kernel_rfl) rfl ?_
   refine SW.call rfl rfl (blocks_ans _ _ _ _ _ (hr.live.ext hw) (by omega)) fun v w4 hXX hv => ?_
   obtain ⟨Y,d4,rfl,hY⟩:=hv
   replace hY:=hY.low hw.size
   replace hX:=hX.ext hXX
   replace hw:=Ext.trans hw hXX
   replace hb1:=hb1.ext hXX
   replace hb2:=hb2.ext hXX
   try replace hb3:=hb3.ext hXX
   refine SW.nil (Post.sa hXX ?_)
   refine SA.take 8 hRB rfl (by kernel_rfl) (by kernel_rfl) rfl ?_
   repeat ((show SW _ _ _ _ (⟨_,Op.build _ _,_,_,_,none⟩::_) _ _;refine SW.st (st_build rfl rfl) rfl ?_))
   refine SW.tknil ?_
   refine SA.done (by kernel_rfl) ?_
   skip
   refine SW.storeAgg hb3 rfl rfl rfl rfl (one_h ⟨.nil,⟨X,r.Mins.n,c4⟩,r.Cpus,.nil,⟨Y,r.Live.n,d4⟩⟩) fun w5 hR2 hg => ?_
   have hG:=hb3.gr hg
   replace hw:=hw.own hb3w hg
   (replace hX:=hX.grT hG rfl;replace hY:=hY.grT hG rfl)
   replace hb1:=hb1.grown hg (by simpa using hne3)
   replace hb2:=hb2.grown hg (by simpa using hne4)
   repeat' (first|(refine Post.np ?_)|refine SW.nil ?_)
   exact Post.cut (K:=K) (by rw [hK];exact ⟨X,c4,Y,d4,b3,⟨rfl,rfl,rfl,trivial⟩,hw,hb1,hb2,hR2,hX,hY,hb3w,hne3,hne4⟩)
 ·clear hb1 hb2 hw
  subst hK
  rintro L' w' ⟨X,c4,Y,d4,b3,hsub,hw,hb1,hb2,hb3,hX,hY,hb3w,hne3,hne4⟩
  refine Post.sub hsub ?_
  repeat' (first|(first|refine CW.seq ?_|refine CW.region ?_|refine CW.block ?_)|(refine Post.seq ?_)|refine SW.nil ?_|refine SW.pure rfl rfl ?_)
  refine CW.loop (fun s:Nat×Option Addr×Nat×List ZRow=>[(1,.pointer (some ⟨b1,0,none⟩)),(2,.pointer (some ⟨b2,0,none⟩)),(3,.pointer (some ⟨b3,0,none⟩)),(4,.int .i64 (s.1:Int))])
   (fun s w'=>s.1≤r.Zones.n∧Ext w w'∧Blk w' b1 41 (encH r)∧Blk w' b2 41 (encH .zero)∧Blk w' b3 41 (encH ⟨⟨s.2.1,s.1,s.2.2.1⟩,⟨X,r.Mins.n,c4⟩,r.Cpus,.nil,⟨Y,r.Live.n,d4⟩⟩)∧Own w' w.heap.size 3 1 encI X r.Mins.n c4 h.Mins∧Own w' w.heap.size 165 3 encBk Y r.Live.n d4 h.Live ∧
     OwnZs w' w.heap.size ⟨s.2.1,s.1,s.2.2.1⟩ s.2.2.2 (h.Zones.take s.1)) (fun s=>r.Zones.n-s.1) (0,none,0,[]) ⟨rfl,rfl,rfl,rfl,trivial⟩ ⟨by omega,hw,hb1,hb2,hb3,hX,hY,OwnZs.nil _ _⟩ ?_
  clear hb1 hb2 hb3 hX hY hw hsub
  rintro ⟨k,A,c,zr⟩ w' ⟨hk,hw,hb1,hb2,hb3,hX,hY,hO⟩
  simp only at hk hb3 hO ⊢
  have hA:=hz.row.base
  by_cases hkn:k<r.Zones.n
  ·have hzk:=hz.each.get k (by omega) (by omega)
   have hin:h.Zones[k]'(by omega)∈h.Zones:=List.getElem_mem _
   have q:=hs.free _ hin
   have q1:=hzk.free.len
   have q2:=hzk.types.len
   repeat' (first|(first|refine CW.seq ?_|refine CW.region ?_|refine CW.block ?_|refine CW.condd_t rfl (by omega) ?_|refine CW.skip ?_)|(refine Post.seq ?_)|refine SW.nil ?_|refine SW.pure rfl rfl ?_|(show SW _ _ _ _ (⟨_,Op.fieldAddr _ _ _,_,_,_,none⟩::_) _ _;refine SW.st (st_field rfl) rfl ?_)|(show SW _ _ _ _ (⟨_,Op.indexAddr _ _ _,_,_,_,none⟩::_) _ _;refine SW.st (st_indexN rfl rfl (by assumption) (by omega)) rfl ?_)|(show SW _ _ _ _ (⟨_,Op.call ⟨.builtin .len,_,_⟩,_,_,_,none⟩::_) _ _;refine SW.st (st_len rfl) rfl ?_)|(show SW _ _ _ _ (⟨_,Op.load _ _,_,_,_,none⟩::_) _ _;first|refine SW.st (st_load rfl (hb1.cell rfl)) rfl ?_|refine SW.st (st_loadsx hw rfl rfl ((hz.row.all hkn))) rfl ?_))
   refine SW.call rfl rfl (ZoneCopy_ans _ _ _ (hzk.ext hw) (by omega) (by omega)) fun v w4 hXX hv => ?_
   obtain ⟨s,rfl,hs'⟩:=hv
   replace hs':=hs'.low hw.size
   (replace hw:=Ext.trans hw hXX;replace hb1:=hb1.ext hXX;replace hb2:=hb2.ext hXX;replace hb3:=hb3.ext hXX;replace hX:=hX.ext hXX;replace hY:=hY.ext hXX;replace hO:=hO.ext hXX)
   refine SW.alloc rfl fun b5 w1 hw1 hb5b hb5 => ?_
   skip
   refine SW.storeAgg hb5 rfl rfl rfl rfl (one_z s) fun w2 hb5' hg => ?_
   have hXX:=hw1.own hb5b hg
   have hb5w:w.heap.size≤b5:=Nat.le_trans hw.size hb5b
   replace hw:=Ext.trans hw hXX
   replace hb1:=hb1.ext hXX
   replace hb2:=hb2.ext hXX
   replace hb3:=hb3.ext hXX
   replace hX:=hX.ext hXX
   replace hY:=hY.ext hXX
   replace hO:=hO.ext hXX
   replace hs':=hs'.ext hXX
   replace hb5:=hb5'
   clear hb5' hw1 hg hXX
   repeat' (first|(refine CW.region ?_)|(refine Post.seq ?_)|refine SW.nil ?_|(show SW _ _ _ _ (⟨_,Op.fieldAddr _ _ _,_,_,_,none⟩::_) _ _;refine SW.st (st_field rfl) rfl ?_)|(show SW _ _ _ _ (⟨_,Op.load _ _,_,_,_,none⟩::_) _ _;first|refine SW.st (st_load rfl (hb3.cell rfl)) rfl ?_|refine SW.st (st_loads rfl rfl ((fun _ _=>hb5.cell))) rfl ?_))
   refine SW.build1 rfl rfl rfl rfl rfl fun b w4 hXX hb hB => ?_
   (replace hw:=Ext.trans hw hXX;replace hb1:=hb1.ext hXX;replace hb2:=hb2.ext hXX;replace hb3:=hb3.ext hXX;replace hb5:=hb5.ext hXX;replace hX:=hX.ext hXX;replace hY:=hY.ext hXX;replace hO:=hO.ext hXX;replace hs':=hs'.ext hXX)
   refine SW.append hO.row (Blk.sl1 (enc:=encZ) hB) hw.size rfl rfl rfl (by simp only;omega) (by simp only;omega) fun A2 c2 w5 hO1 hg => ?_
   have hG:=hO.row.gr hg
   replace hw:=ext_grown hw hg (Nat.le_refl _) hO.row.row_ge
   (replace hb1:=hb1.grT hG rfl;replace hb2:=hb2.grT hG rfl;replace hb3:=hb3.grT hG rfl;replace hX:=hX.grT hG rfl;replace hY:=hY.grT hG rfl;replace hs':=hs'.grT hG rfl)
   have hE:=hO.each.mono fun _ _ h=>h.grT hG rfl
   repeat' ((show SW _ _ _ _ (⟨_,Op.fieldAddr _ _ _,_,_,_,none⟩::_) _ _;refine SW.st (st_field rfl) rfl ?_))
   refine SW.storeB (i:=0) hb3 rfl rfl rfl rfl fun w6 hb3' hg => ?_
   have hG:=hb3.gr hg
   replace hw:=hw.own hb3w hg
   replace hb1:=hb1.grown hg (by simpa using hne3)
   replace hb2:=hb2.grown hg (by simpa using hne4)
   (replace hX:=hX.grT hG rfl;replace hY:=hY.grT hG rfl;replace hs':=hs'.grT hG rfl;replace hO1:=hO1.grT hG rfl)
   replace hE:=hE.mono fun _ _ h=>h.grT hG rfl
   repeat' (first|(refine CW.region ?_)|(first|refine Post.seq ?_|refine Post.blk ?_)|refine SW.nil ?_|refine SW.pure rfl rfl ?_|(show SW _ _ _ _ (⟨_,Op.binOp _ _ _ _ _,_,_,_,none⟩::_) _ _;refine SW.st (st_add rfl rfl (by omega) (by omega)) rfl ?_))
   refine Post.again (k+1,A2,c2,zr++[s]) ⟨rfl,rfl,rfl,rfl,trivial⟩ (by simp only;omega) ⟨by simp only;omega,hw,hb1,hb2,hb3',hX,hY,hO1,?_⟩
   rw [List.take_succ_eq_append_getElem (by omega)]
   exact hE.snoc hs'
  ·obtain rfl:k=r.Zones.n:=by omega
   rw [List.take_of_length_le (by omega)] at hO
   repeat' (first|(first|refine CW.seq ?_|refine CW.region ?_|refine CW.block ?_|refine CW.condd_f rfl (by omega) ?_|refine CW.exit ?_)|(first|refine Post.seq ?_|refine Post.seq_exit ?_|refine Post.hit ?_|refine Post.again_exit ?_)|refine SW.nil ?_|refine SW.pure rfl rfl ?_|(show SW _ _ _ _ (⟨_,Op.fieldAddr _ _ _,_,_,_,none⟩::_) _ _;refine SW.st (st_field rfl) rfl ?_)|(show SW _ _ _ _ (⟨_,Op.call ⟨.builtin .len,_,_⟩,_,_,_,none⟩::_) _ _;refine SW.st (st_len rfl) rfl ?_)|(show SW _ _ _ _ (⟨_,Op.load _ _,_,_,_,none⟩::_) _ _;refine SW.st (st_load rfl (hb1.cell rfl)) rfl ?_))
   refine CW.loop (fun s:Nat×Option Addr×Nat×List LRow=>[(1,.pointer (some ⟨b1,0,none⟩)),(2,.pointer (some ⟨b2,0,none⟩)),(3,.pointer (some ⟨b3,0,none⟩)),(6,.int .i64 (s.1:Int))])
    (fun s w'=>s.1≤r.Lists.n∧Ext w w'∧Blk w' b1 41 (encH r)∧Blk w' b2 41 (encH .zero)∧Blk w' b3 41 (encH ⟨⟨A,r.Zones.n,c⟩,⟨X,r.Mins.n,c4⟩,r.Cpus,⟨s.2.1,s.1,s.2.2.1⟩,⟨Y,r.Live.n,d4⟩⟩)∧Own w' w.heap.size 3 1 encI X r.Mins.n c4 h.Mins∧Own w' w.heap.size 165 3 encBk Y r.Live.n d4 h.Live ∧
      OwnZs w' w.heap.size ⟨A,r.Zones.n,c⟩ zr h.Zones∧OwnLs w' w.heap.size ⟨s.2.1,s.1,s.2.2.1⟩ s.2.2.2 (h.Lists.take s.1)) (fun s=>r.Lists.n-s.1) (0,none,0,[]) ⟨rfl,rfl,rfl,rfl,trivial⟩ ⟨by omega,hw,hb1,hb2,hb3,hX,hY,hO,OwnLs.nil _ _⟩ ?_
   clear hb1 hb2 hb3 hX hY hw hO
   rintro ⟨k,B,d,lr⟩ w' ⟨hk,hw,hb1,hb2,hb3,hX,hY,hO,hP⟩
   simp only at hk hb3 hP ⊢
   have hA:=hl.row.base
   by_cases hkn:k<r.Lists.n
   ·have hlk:=hl.each.get k (by omega) (by omega)
    have hin:h.Lists[k]'(by omega)∈h.Lists:=List.getElem_mem _
    have q:=hs.pages _ hin
    have q1:=hlk.pages.len
    repeat' (first|(first|refine CW.seq ?_|refine CW.region ?_|refine CW.block ?_|refine CW.condd_t rfl (by omega) ?_|refine CW.skip ?_)|(refine Post.seq ?_)|refine SW.nil ?_|refine SW.pure rfl rfl ?_|(show SW _ _ _ _ (⟨_,Op.fieldAddr _ _ _,_,_,_,none⟩::_) _ _;refine SW.st (st_field rfl) rfl ?_)|(show SW _ _ _ _ (⟨_,Op.indexAddr _ _ _,_,_,_,none⟩::_) _ _;refine SW.st (st_indexN rfl rfl (by assumption) (by omega)) rfl ?_)|(show SW _ _ _ _ (⟨_,Op.call ⟨.builtin .len,_,_⟩,_,_,_,none⟩::_) _ _;refine SW.st (st_len rfl) rfl ?_)|(show SW _ _ _ _ (⟨_,Op.load _ _,_,_,_,none⟩::_) _ _;first|refine SW.st (st_load rfl (hb1.cell rfl)) rfl ?_|refine SW.st (st_loadsx hw rfl rfl ((hl.row.all hkn))) rfl ?_))
    have hlt7:=hP.row.lt_size
    refine SW.alloc rfl fun b7 w1 hw1 hb7b hb7 => ?_
    skip
    refine SW.storeAgg hb7 rfl rfl rfl rfl (one_l _) fun w2 hb7' hg => ?_
    have hXX:=hw1.own hb7b hg
    have hb7w:w.heap.size≤b7:=Nat.le_trans hw.size hb7b
    replace hw:=Ext.trans hw hXX
    replace hb1:=hb1.ext hXX
    replace hb2:=hb2.ext hXX
    replace hb3:=hb3.ext hXX
    replace hX:=hX.ext hXX
    replace hY:=hY.ext hXX
    replace hO:=hO.ext hXX
    replace hP:=hP.ext hXX
    replace hb7:=hb7'
    clear hb7' hw1 hg hXX
    repeat' (first|(first|refine CW.seq ?_|refine CW.region ?_)|(refine Post.seq ?_)|refine SW.nil ?_|(show SW _ _ _ _ (⟨_,Op.fieldAddr _ _ _,_,_,_,none⟩::_) _ _;refine SW.st (st_field rfl) rfl ?_)|(show SW _ _ _ _ (⟨_,Op.load _ _,_,_,_,none⟩::_) _ _;refine SW.st (st_load rfl (hb7.cell rfl)) rfl ?_))
    refine SW.call rfl rfl (words_ans _ _ _ _ _ (hlk.pages.ext hw) (by omega)) fun v w4 hXX hv => ?_
    obtain ⟨W,e4,rfl,hW⟩:=hv
    replace hW:=hW.low hw.size
    (replace hw:=Ext.trans hw hXX;replace hb1:=hb1.ext hXX;replace hb2:=hb2.ext hXX;replace hb3:=hb3.ext hXX;replace hb7:=hb7.ext hXX;replace hX:=hX.ext hXX;replace hY:=hY.ext hXX;replace hO:=hO.ext hXX;replace hP:=hP.ext hXX)
    repeat' ((show SW _ _ _ _ (⟨_,Op.fieldAddr _ _ _,_,_,_,none⟩::_) _ _;refine SW.st (st_field rfl) rfl ?_))
    refine SW.storeB (i:=3) hb7 rfl rfl rfl rfl fun w5 hb7' hg => ?_
    have hG:=hb7.gr hg
    replace hw:=hw.own hb7w hg
    (replace hb1:=hb1.grT hG rfl;replace hb2:=hb2.grT hG rfl;replace hb3:=hb3.grT hG rfl;replace hX:=hX.grT hG rfl;replace hY:=hY.grT hG rfl;replace hO:=hO.grT hG rfl;replace hW:=hW.grT hG rfl)
    replace hP:OwnLs w5 w.heap.size ⟨B,k,d⟩ lr (h.Lists.take k):=⟨hP.row.grown hg (.inr (fun e=>by have:=hlt7 _ e;omega)),hP.each.mono fun _ _ h=>h.grT hG rfl⟩
    repeat' (first|(refine CW.region ?_)|(refine Post.seq ?_)|refine SW.nil ?_|(show SW _ _ _ _ (⟨_,Op.fieldAddr _ _ _,_,_,_,none⟩::_) _ _;refine SW.st (st_field rfl) rfl ?_)|(show SW _ _ _ _ (⟨_,Op.load _ _,_,_,_,none⟩::_) _ _;first|refine SW.st (st_load rfl (hb3.cell rfl)) rfl ?_|refine SW.st (st_loads rfl rfl ((fun _ _=>hb7'.cell))) rfl ?_))
    refine SW.build1 rfl rfl rfl rfl rfl fun b w6 hXX hb hB => ?_
    (replace hw:=Ext.trans hw hXX;replace hb1:=hb1.ext hXX;replace hb2:=hb2.ext hXX;replace hb3:=hb3.ext hXX;replace hX:=hX.ext hXX;replace hY:=hY.ext hXX;replace hO:=hO.ext hXX;replace hP:=hP.ext hXX;replace hW:=hW.ext hXX)
    refine SW.append hP.row (Blk.sl1 (enc:=encL) (x:=⟨ls[k].Cpu,ls[k].Zone,ls[k].Ty,⟨W,_,e4⟩⟩) hB) hw.size rfl rfl rfl (by simp only;omega) (by simp only;omega) fun A2 c2 w7 hP1 hg => ?_
    have hG:=hP.row.gr hg
    replace hw:=ext_grown hw hg (Nat.le_refl _) hP.row.row_ge
    (replace hb1:=hb1.grT hG rfl;replace hb2:=hb2.grT hG rfl;replace hb3:=hb3.grT hG rfl;replace hX:=hX.grT hG rfl;replace hY:=hY.grT hG rfl;replace hO:=hO.grT hG rfl;replace hW:=hW.grT hG rfl)
    have hE:=hP.each.mono fun _ _ h=>h.grT hG rfl
    repeat' ((show SW _ _ _ _ (⟨_,Op.fieldAddr _ _ _,_,_,_,none⟩::_) _ _;refine SW.st (st_field rfl) rfl ?_))
    refine SW.storeB (i:=3) hb3 rfl rfl rfl rfl fun w8 hb3' hg => ?_
    have hG:=hb3.gr hg
    replace hw:=hw.own hb3w hg
    replace hb1:=hb1.grown hg (by simpa using hne3)
    replace hb2:=hb2.grown hg (by simpa using hne4)
    (replace hX:=hX.grT hG rfl;replace hY:=hY.grT hG rfl;replace hO:=hO.grT hG rfl;replace hP1:=hP1.grT hG rfl;replace hW:=hW.grT hG rfl)
    replace hE:=hE.mono fun _ _ h=>h.grT hG rfl
    repeat' (first|(refine CW.region ?_)|(first|refine Post.seq ?_|refine Post.blk ?_)|refine SW.nil ?_|refine SW.pure rfl rfl ?_|(show SW _ _ _ _ (⟨_,Op.binOp _ _ _ _ _,_,_,_,none⟩::_) _ _;refine SW.st (st_add rfl rfl (by omega) (by omega)) rfl ?_))
    refine Post.again (k+1,A2,c2,lr++[⟨ls[k].Cpu,ls[k].Zone,ls[k].Ty,⟨W,_,e4⟩⟩]) ⟨rfl,rfl,rfl,rfl,trivial⟩ (by simp only;omega) ⟨by simp only;omega,hw,hb1,hb2,hb3',hX,hY,hO,hP1,?_⟩
    rw [List.take_succ_eq_append_getElem (by omega)]
    exact hE.snoc ⟨hlk.cpu,hlk.zone,hlk.ty,hW⟩
   ·obtain rfl:k=r.Lists.n:=by omega
    rw [List.take_of_length_le (by omega)] at hP
    repeat' (first|(first|refine CW.seq ?_|refine CW.region ?_|refine CW.condd_f rfl (by omega) ?_|refine CW.exit ?_)|(first|refine Post.seq ?_|refine Post.seq_exit ?_|refine Post.hit ?_|refine Post.again_exit ?_)|refine SW.nil ?_|refine SW.pure rfl rfl ?_|(show SW _ _ _ _ (⟨_,Op.fieldAddr _ _ _,_,_,_,none⟩::_) _ _;refine SW.st (st_field rfl) rfl ?_)|(show SW _ _ _ _ (⟨_,Op.call ⟨.builtin .len,_,_⟩,_,_,_,none⟩::_) _ _;refine SW.st (st_len rfl) rfl ?_)|(show SW _ _ _ _ (⟨_,Op.load _ _,_,_,_,none⟩::_) _ _;first|refine SW.st (st_load rfl (hb1.cell rfl)) rfl ?_|refine SW.st (st_loads rfl rfl ((fun _ _=>hb3.cell))) rfl ?_))
    refine SW.storeAgg hb2 rfl rfl rfl rfl (one_h _) fun w5 hR2 hg => ?_
    have hG:=hb2.gr hg
    replace hw:=hw.own hb2w hg
    (replace hX:=hX.grT hG rfl;replace hY:=hY.grT hG rfl;replace hO:=hO.grT hG rfl;replace hP:=hP.grT hG rfl)
    repeat' (first|(refine CW.ret ?_)|(refine Post.seq ?_)|refine SW.nil ?_)
    exact Post.ret1c rfl rfl hR2 rfl ⟨_,rfl,hw,⟨_,_,r.Cpus,_,_⟩,rfl,hr.cpus,hX,hY,⟨zr,hO⟩,⟨lr,hP⟩⟩
open Go.RowKit
section
variable {w w':World} {lo t:Nat} {m li lv:Sli} {ls:List LRow} {h:Heap}
end
section
variable {w0 w w':World} {g b k t:Nat} {cs:List Value}
end
open Go.RowKit
open Go.RowKit
open Go.RowKit
open Go.RowKit
section
variable {w w':World} {lo t:Nat} {R:List LRow} {L:List PList} {y:LRow} {x:PList}
end
open Go.RowKit
open Go.RowKit
open Go.RowKit
theorem big_two {a b:Zone} (h:big64 a∧big64 b) : ∀ z∈[a,b],big64 z:=fun z hz=>by
 simp only [List.mem_cons,List.not_mem_nil,or_false] at hz
 rcases hz with rfl|rfl
 ·exact h.1
 ·exact h.2
open Go.RowKit
def kP (j:Nat) : Int:=(2:Int) ^ j
inductive MakeR (s0:KSystem) : Nat→KSystem→Prop where
 | zero:MakeR s0 0 s0
 | succ {j:Nat} {s:KSystem} {u:KSystem×Int} (m:MakeR s0 j s) (h:CreR s (kstr (kP j)) (kP j) 1 u) : MakeR s0 (j+1) u.1
theorem MakeR.det {s0:KSystem} {j:Nat} {s t:KSystem} (x:MakeR s0 j s) : MakeR s0 j t→s=t:=by
 induction x generalizing t with
 | zero=>intro y;cases y;rfl
 | succ m h ih =>
   intro y
   cases y with
   | succ m' h' =>
     obtain rfl:=ih m'
     rw [h.det h']
theorem kP_ok {j:Nat} (h:j<6) : kP j∈kL∧kL[j]?=some (kP j)∧1≤kP j∧kP j≤32:=by
 unfold kP
 rcases (show j=0∨j=1∨j=2∨j=3∨j=4∨j=5 by omega) with rfl|rfl|rfl|rfl|rfl|rfl<;>decide
theorem kP_succ (j:Nat) : kP (j+1)=2*kP j:=by unfold kP;rw [Int.pow_succ,Int.mul_comm]
theorem kstr_size {j:Nat} (h:j<6) : (kstr (kP j)).size≤140737488351232:=by
 unfold kP
 rcases (show j=0∨j=1∨j=2∨j=3∨j=4∨j=5 by omega) with rfl|rfl|rfl|rfl|rfl|rfl<;>decide
theorem KSystem.zero_fine:KSystem.zero.fine:=⟨KSystem.zero_small,by simp [KSystem.zero,Heap.zero],by simp [KSystem.zero],by simp [KSystem.zero]⟩
theorem CreR.fine {s:KSystem} {n:ByteArray} {size align:Int} {u:KSystem×Int} (a:CreR s n size align u) (hf:s.fine) (hn:n.size≤140737488351232) : u.1.fine:=by
 have hsm:=a.small hf.small
 cases a with
 | bad|form|range|twice|full=>exact KSystem.zero_fine
 | @old i h hn' hs' ht hi hz ha =>
   refine ⟨hsm,hf.zones,fun c hm => ?_,fun c hm => ?_⟩
   ·rcases List.mem_or_eq_of_mem_set hm with hm|rfl
    ·exact hf.slabs c hm
    ·exact hf.slabs s.Caches[i] (List.getElem_mem hi)
   ·rcases List.mem_or_eq_of_mem_set hm with hm|rfl
    ·exact hf.names c hm
    ·intro m hm2
     simp only [withName] at hm2
     unfold insAt at hm2
     simp only [List.mem_append,List.mem_singleton] at hm2
     rcases hm2 with (hm2|rfl)|hm2
     ·exact hf.names _ (List.getElem_mem hi) _ (List.mem_of_mem_take hm2)
     ·exact hn
     ·exact hf.names _ (List.getElem_mem hi) _ (List.mem_of_mem_drop hm2)
 | new h hn' hs' ht hz hc =>
   refine ⟨hsm,hf.zones,fun c hm => ?_,fun c hm => ?_⟩
   ·rcases List.mem_append.1 hm with hm|hm
    ·exact hf.slabs c hm
    ·simp only [List.mem_singleton] at hm
     subst hm
     simp [newCache]
   ·rcases List.mem_append.1 hm with hm|hm
    ·exact hf.names c hm
    ·simp only [List.mem_singleton] at hm
     subst hm
     simpa [newCache] using hn
theorem MakeR.fine {s0:KSystem} {j:Nat} {s:KSystem} (x:MakeR s0 j s) : s0.fine→j≤6→s.fine:=by
 induction x with
 | zero=>exact fun h _=>h
 | succ m h ih=>exact fun hf hj=>h.fine (ih hf (by omega)) (kstr_size (by omega))
def sys0 (h:Heap) : KSystem:=⟨List.replicate 4096 0,h,[]⟩
theorem big_newZ {l:List Region} {split:Int} (h:zoneOk 0 split) : ∀ z∈[(newZ l split 256).1,(newZ l split 256).2],big64 z:=by
 obtain ⟨h1,h2⟩:=small_newZ (l:=l) h 256
 have a1:=h1.from_;have a2:=h1.to_;have a3:=h2.from_;have a4:=h2.to_
 refine big_two ⟨?_,?_⟩<;>(unfold big64;omega)
inductive SysNewR (o:Int×List Region) (split least cpus:Int) : KSystem×Int→Prop where
 | boot (h:o.1≠0) : SysNewR o split least cpus (.zero,o.1)
 | heap (h:o.1=0) (h2:(heapNewV o.2 split least cpus).1≠0) : SysNewR o split least cpus (.zero,(heapNewV o.2 split least cpus).1)
 | made {t:KSystem} (h:o.1=0) (h2:(heapNewV o.2 split least cpus).1=0) (m:MakeR (sys0 (heapNewV o.2 split least cpus).2) 6 t) : SysNewR o split least cpus (t,0)
theorem SysNewR.det {o:Int×List Region} {split least cpus:Int} {u v:KSystem×Int} (a:SysNewR o split least cpus u) (b:SysNewR o split least cpus v) : u=v:=by
 cases a with
 | boot h=>cases b with
   | boot=>rfl
   | heap h'|made h'=>exact absurd h' h
 | heap h h2=>cases b with
   | boot h'=>exact absurd h h'
   | heap=>rfl
   | made _ h2'=>exact absurd h2' h2
 | made h h2 m=>cases b with
   | boot h'=>exact absurd h h'
   | heap _ h2'=>exact absurd h2 h2'
   | made _ _ m'=>rw [m.det m']
theorem sys0_fine {l:List Region} {split least cpus:Int} (h:(heapNewV l split least cpus).1=0) : (sys0 (heapNewV l split least cpus).2).fine:=by
 have hsm:=small_heapNewV l split least cpus
 refine ⟨⟨by unfold sys0;rw [List.length_replicate];omega,hsm,Nat.zero_le _,fun c h=>absurd h List.not_mem_nil⟩,?_,fun c h=>absurd h List.not_mem_nil,fun c h=>absurd h List.not_mem_nil⟩
 cases hq:regionsB l
 ·rw [heapNewV_8 hq] at h;simp at h
 ·by_cases ha:newArgs split least cpus
  ·rw [heapNewV_0 hq ha]
   exact big_newZ ha.1
  ·rw [heapNewV_1 hq ha] at h;simp at h
theorem SysNewR.fine {o:Int×List Region} {split least cpus:Int} {u:KSystem×Int} (a:SysNewR o split least cpus u) : u.1.fine:=by
 cases a with
 | boot|heap=>exact KSystem.zero_fine
 | made h h2 m=>exact m.fine (sys0_fine h2) (by omega)
theorem rangesV_len (N:Nat) (x y:List Region) : (rangesV N x y).2.length≤N:=by
 cases h:bootB x y
 ·rw [rangesV_f h];exact Nat.zero_le _
 ·rw [rangesV_t h];exact (runs_ok _ _).len
open Go.RowKit
set_option maxHeartbeats 4000000 in
theorem InsertByteArray_ans (A:Option Addr) (n c lo:Nat) (l:List ByteArray) (w:World) (hO:Own w lo 9 1 encStr A n c l) (i:Nat) (hi:i≤n) (x:ByteArray) (b:Nat) (hB:Blk w b 9 (encStr x)) (hne:ownB A c≠some b) (hn:(n+1)*16≤140737488355328) (hlo:lo≤w.heap.size) :
 AnsX Tryz.prog 140 [.slice A n c,.int .i64 (i:Int),.slice (some ⟨b,0,none⟩) 1 1] w fun v w' => ∃ A' c',v = .slice A' (n+1) c'∧Own w' lo 9 1 encStr A' (n+1) c' (insAt l i x)∧w.grownBy w' (ownB A c) ∧ ∀ k,ownB A' c'=some k→ownB A c=some k∨w.heap.size≤k:=by
 refine ansx_of Tryz.func140 rfl Tryz.ntmps140 rfl ?_
 have hle:=hO.le
 have hll:=hO.len
 have hA:=hO.sl.base
 have hw:=Ext.refl w
 have hx1:Sl w 1 encStr (some ⟨b,0,none⟩) 1 [x]:=Blk.sl1 hB
 have hxl:(encStr x).length=1:=rfl
 have hfl:∀ q:List ByteArray,(q.flatMap encStr).length=q.length*1:=fun q=>length_flatMap_enc q
 have hone:∀ (q:List ByteArray) (v:Value),v∈q.flatMap encStr→v.oneCell'=true:=fun q v hv=>by
  obtain ⟨u,_,hu⟩:=List.mem_flatMap.1 hv
  exact Enc.one (enc:=encStr) u v hu
 by_cases hin:i=n
 ·subst hin
  repeat' (first|(first|refine CW.seq ?_|refine CW.region ?_|refine CW.condd_t rfl (by omega) ?_|refine CW.condd_f rfl (by omega) ?_|refine CW.skip ?_)|(refine Post.seq ?_)|refine SW.nil ?_|refine SW.pure rfl rfl ?_|(show SW _ _ _ _ (⟨_,Op.call ⟨.builtin .len,_,_⟩,_,_,_,none⟩::_) _ _;refine SW.st (st_len rfl) rfl ?_)|(refine SW.st (st_sliceLo (k:=i) rfl rfl (by omega) (by omega)) rfl ?_))
  all_goals first|(exfalso;omega)|skip
  refine SW.append2 hO hx1 hlo (by omega) rfl rfl rfl (by omega) (by omega) fun A2 c2 w2 hcase => ?_
  have hres:Own w2 lo 9 1 encStr A2 (i+1) c2 (l++[x])∧w.grownBy w2 (ownB A c) ∧ ∀ k,ownB A2 c2=some k→ownB A c=some k∨w.heap.size≤k:=by
   rcases hcase with ⟨rfl,rfl,h1,h2⟩|⟨h1,h2⟩
   ·exact ⟨h1,h2,fun k e => .inl e⟩
   ·exact ⟨h1.low hlo,(ext_grown (Ext.refl w) h2 (Nat.le_refl _) (fun k e=>by cases e)).gr _,fun k e => .inr (h1.row_ge k e)⟩
  obtain ⟨hO2,hg,hpos⟩:=hres
  repeat' (first|(refine CW.ret ?_)|(first|refine Post.seq ?_|refine Post.seq_ret ?_)|refine SW.nil ?_|refine SW.pure rfl rfl ?_)
  refine Post.ret1 rfl rfl ⟨_,rfl,A2,c2,rfl,?_,hg,hpos⟩
  have e:insAt l i x=l++[x]:=by unfold insAt;rw [List.take_of_length_le (by omega),List.drop_eq_nil_of_le (by omega)];simp
  rw [e];exact hO2
 ·by_cases hroom:n+1≤c
  ·obtain ⟨g,rest,rfl,h1,h2,h3,h4,h5,h6⟩:=hO.opened (by omega)
   have hgb:g≠b:=fun e=>hne (by rw [h6,e])
   have es:l.flatMap encStr++rest=(l.take i).flatMap encStr++((l.drop i).flatMap encStr++rest):=by rw [← List.append_assoc,← List.flatMap_append,List.take_append_drop]
   have e1:((l.take i).flatMap encStr).length=i*1:=by rw [hfl];simp;omega
   have e2:((l.drop i).flatMap encStr).length=(n-i)*1:=by rw [hfl];simp [hll]
   have hsrc:=hO.sl.drop i c (by omega) (by omega)
   rw [if_neg (by omega)] at hsrc
   rw [es] at h2
   have hov:∀ w',Ext w w'→(Extern.SlicesOverlaps.overlaps #[61,61] #[4] #[.slice (some ⟨b,0,none⟩) 1 1,.slice (if c=i+1 then (some ⟨g,0,none⟩) else (some (⟨g,0,none⟩ : Addr)).map (·.add ((i+1)*1))) (n+1-(i+1)) (c-(i+1))]).run Tryz.prog w' = .ok (.bool false) w':=fun w' hx=>by
    rw [if_neg (by omega),Option.map_some,addr_of]
    have b1:=hB.ext hx
    have b2:=h2.ext hx
    unfold Blk at b1 b2
    exact Lib.run_overlaps_apart w' 61 4 9 (SliceTy.und (t:=61)) 1 (fun w0=>run_sizeOf (SliceTy.size (t:=61)) w0) ⟨b,0,none⟩ ⟨g,(i+1)*1,none⟩ 1 1 _ _ (fun e=>hgb e.symm) 9 9 (encStr x).toArray.size ((l.take i).flatMap encStr++((l.drop i).flatMap encStr++rest)).toArray.size
     (by simp only [World.shape?,b1]) (by simp only [World.shape?,b2]) (by simp [e1,e2];omega) (by simp [World.frozen?,b1]) (by simp [World.frozen?,b1])
   repeat' (first|(first|refine CW.seq ?_|refine CW.region ?_|refine CW.condd_f rfl (by omega) ?_|refine CW.condt rfl ?_|refine CW.skip ?_)|(refine Post.seq ?_)|refine SW.nil ?_|refine SW.pure rfl rfl ?_|(show SW _ _ _ _ (⟨_,Op.binOp _ _ _ _ _,_,_,_,none⟩::_) _ _;refine SW.st (st_add rfl rfl (by omega) (by omega)) rfl ?_)|(show SW _ _ _ _ (⟨_,Op.call ⟨.builtin .len,_,_⟩,_,_,_,none⟩::_) _ _;refine SW.st (st_len rfl) rfl ?_)|(show SW _ _ _ _ (⟨_,Op.call ⟨.builtin .cap,_,_⟩,_,_,_,none⟩::_) _ _;refine SW.st (st_cap rfl) rfl ?_)|(refine SW.st (st_sliceLo (k:=i) rfl rfl (by omega) (by omega)) rfl ?_)|(refine SW.st (st_sliceHi (k:=n+1) rfl rfl (by omega)) rfl ?_)|(refine SW.st (st_sliceLo (k:=i+1) rfl rfl (by omega) (by omega)) rfl ?_)|(refine SW.entry Tryz.func207 (by kernel_rfl) (by kernel_rfl) (by kernel_rfl) (e:=Extern.SlicesOverlaps.overlaps #[61,61] #[4]) (by kernel_rfl) rfl rfl (hov _ hw) ?_))
   all_goals first|(exfalso;omega)|skip
   have hsz:((n-i)+1)*1≤((l.drop i).flatMap encStr++rest).length:=by rw [List.length_append,e2];omega
   have e4:(l.drop i).flatMap encStr++rest=((l.drop i).flatMap encStr++rest).take 1++(((l.drop i).flatMap encStr++rest).drop 1).take ((n-i)*1)++((l.drop i).flatMap encStr++rest).drop (1+(n-i)*1):=by
    rw [List.append_assoc,← List.drop_drop,List.take_append_drop,List.take_append_drop]
   generalize hDD:((l.drop i).flatMap encStr++rest).take 1=D1 at e4
   generalize hDE:(((l.drop i).flatMap encStr++rest).drop 1).take ((n-i)*1)=D2 at e4
   generalize hDF:((l.drop i).flatMap encStr++rest).drop (1+(n-i)*1)=D3 at e4
   have f1:D1.length=1:=by rw [← hDD];simp only [List.length_take];omega
   have f2:D2.length=(n-i)*1:=by rw [← hDE];simp only [List.length_take,List.length_drop];omega
   have f3:D3.length+1=rest.length:=by rw [← hDF];simp only [List.length_drop,List.length_append,e2];omega
   rw [e4] at h2
   refine CW.any 8 mixed (rb_tail (by kernel_rfl)) rfl fun w1 hw1 hRB => ?_
   replace hw:=Ext.trans hw hw1;replace hO:=hO.ext hw1;replace hB:=hB.ext hw1;replace h2:=h2.ext hw1;clear hw1
   refine SA.take 0 hRB rfl (by kernel_rfl) (by kernel_rfl) rfl ?_
   repeat (refine SW.pure rfl rfl ?_)
   refine SW.tknil ?_
   refine SA.take 1 hRB rfl (by kernel_rfl) (by kernel_rfl) rfl ?_
   repeat (refine SW.pure rfl rfl ?_)
   refine SW.tknil ?_
   refine SA.take 2 hRB rfl (by kernel_rfl) (by kernel_rfl) rfl ?_
   repeat (refine SW.pure rfl rfl ?_)
   refine SW.tknil ?_
   refine SA.take 3 hRB rfl (by kernel_rfl) (by kernel_rfl) rfl ?_
   repeat ((show SW _ _ _ _ (⟨_,Op.binOp _ _ _ _ _,_,_,_,none⟩::_) _ _;refine SW.st (st_add rfl rfl (by omega) (by omega)) rfl ?_))
   refine SW.tknil ?_
   refine SA.take 4 hRB rfl (by kernel_rfl) (by kernel_rfl) rfl ?_
   repeat ((refine SW.st (st_sliceLo (k:=i+1) rfl rfl (by omega) (by omega)) rfl ?_))
   refine SW.tknil ?_
   refine SA.take 5 hRB rfl (by kernel_rfl) (by kernel_rfl) rfl ?_
   repeat (refine SW.pure rfl rfl ?_)
   refine SW.tknil ?_
   refine SA.take 6 hRB rfl (by kernel_rfl) (by kernel_rfl) rfl ?_
   repeat (refine SW.pure rfl rfl ?_)
   refine SW.tknil ?_
   refine SA.take 7 hRB rfl (by kernel_rfl) (by kernel_rfl) rfl ?_
   repeat ((refine SW.st (st_sliceLo (k:=i) rfl rfl (by omega) (by omega)) rfl ?_))
   refine SW.tknil ?_
   refine SA.done (by kernel_rfl) ?_
   refine SW.copy (k:=n-i) ((i+1)*1) ((l.drop i).flatMap encStr) h2 rfl rfl rfl (by omega) e2 (by simp only [List.length_append,e1,e2,f1,f2];omega) (fun h0=>⟨by rw [if_neg (by omega)];simp [addr_of],(⟨g,0,none⟩ : Addr).add (i*1),by rw [if_neg (by omega)];rfl,fun j v hv=>cells_flatMap (by omega) (hsrc.ext hw) j v hv⟩) (hone _) fun w3 h2' hg3 => ?_
   have g1:=lay_mid ((l.take i).flatMap encStr++D1) D2 D3 ((l.drop i).flatMap encStr) (by rw [e2,f2]) (o:=(i+1)*1) (by rw [List.length_append,e1,f1];omega)
   have g0:(l.take i).flatMap encStr++(D1++D2++D3)=(l.take i).flatMap encStr++D1++D2++D3:=by simp only [List.append_assoc]
   rw [g0,g1] at h2'
   have hG1:=grown_trans (hw.gr (ownB (some ⟨g,0,none⟩) c)) hg3 (.inl h6.symm)
   have hB3:=hB.grown hg3 (by simpa using fun e=>hgb e.symm)
   repeat' (first|(first|refine CW.seq ?_|refine CW.region ?_)|(first|refine Post.seq ?_|refine Post.np ?_)|refine SW.nil ?_|refine SW.pure rfl rfl ?_|(refine SW.st (st_sliceLo (k:=i) rfl rfl (by omega) (by omega)) rfl ?_))
   refine SW.copy (k:=1) (i*1) (encStr x) h2' rfl rfl rfl (by omega) hxl (by simp only [List.length_append,e1,e2,f1,hxl];omega) (fun h0=>⟨by rw [if_neg (by omega)];simp [addr_of],⟨b,0,none⟩,rfl,fun j v hv=>hB3.cell hv⟩) (Enc.one (enc:=encStr) x) fun w4 h2'' hg4 => ?_
   have g2:=lay_mid ((l.take i).flatMap encStr) D1 ((l.drop i).flatMap encStr++D3) (encStr x) (by rw [hxl,f1]) (o:=i*1) e1.symm
   have g3:(l.take i).flatMap encStr++D1++(l.drop i).flatMap encStr++D3=(l.take i).flatMap encStr++D1++((l.drop i).flatMap encStr++D3):=by simp only [List.append_assoc]
   have g4:(l.take i).flatMap encStr++encStr x++((l.drop i).flatMap encStr++D3)=(insAt l i x).flatMap encStr++D3:=by unfold insAt;simp only [List.flatMap_append,List.flatMap_cons,List.flatMap_nil,List.append_nil,List.append_assoc]
   rw [g3,g2,g4] at h2''
   have hO':=Own.closed (n:=n+1) (c:=c) (l:=insAt l i x) (by unfold insAt;simp;omega) h2'' (by omega) hroom (by omega) h5 h1
   have hG2:=grown_trans hG1 hg4 (.inl h6.symm)
   repeat' (first|(first|refine CW.seq ?_|refine CW.region ?_|refine CW.ret ?_)|(first|refine Post.seq ?_|refine Post.seq_ret ?_)|refine SW.nil ?_|refine SW.pure rfl rfl ?_)
   exact Post.ret1 rfl rfl ⟨_,rfl,_,_,rfl,hO',hG2,fun k e => .inl e⟩
  ·have hcn:c=n:=by omega
   have hsrc:=hO.sl.drop i c (by omega) (by omega)
   have hpre:=hO.sl.pre (i:=i) (by omega)
   repeat' (first|(first|refine CW.seq ?_|refine CW.region ?_|refine CW.condd_t rfl (by omega) ?_|refine CW.condd_f rfl (by omega) ?_|refine CW.skip ?_)|(refine Post.seq ?_)|refine SW.nil ?_|refine SW.pure rfl rfl ?_|(show SW _ _ _ _ (⟨_,Op.binOp _ _ _ _ _,_,_,_,none⟩::_) _ _;first|refine SW.st (st_add rfl rfl (by omega) (by omega)) rfl ?_|refine SW.st (st_sub rfl rfl (by omega) (by omega)) rfl ?_)|(show SW _ _ _ _ (⟨_,Op.call ⟨.builtin .len,_,_⟩,_,_,_,none⟩::_) _ _;refine SW.st (st_len rfl) rfl ?_)|(show SW _ _ _ _ (⟨_,Op.call ⟨.builtin .cap,_,_⟩,_,_,_,none⟩::_) _ _;refine SW.st (st_cap rfl) rfl ?_)|(refine SW.st (st_sliceLo (k:=i) rfl rfl (by omega) (by omega)) rfl ?_)|(refine SW.st (st_sliceHi (k:=i) rfl rfl (by omega)) rfl ?_))
   all_goals first|(exfalso;omega)|skip
   refine SW.appendZ (k:=n+1-i) hpre Tryz.underlying3 rfl rfl (by omega) rfl (by omega) (by omega) (by omega) (by omega) fun g rest c2 w2 hw2 hg2 h2 h3 h4 h5 => ?_
   have e1:((l.take i).flatMap encStr).length=i*1:=by rw [hfl];simp;omega
   have e2:((l.drop i).flatMap encStr).length=(n-i)*1:=by rw [hfl];simp [hll]
   have hsz:((n-i)+1)*1≤rest.length:=by omega
   have e4:rest=rest.take 1++(rest.drop 1).take ((n-i)*1)++rest.drop (1+(n-i)*1):=by
    rw [List.append_assoc,← List.drop_drop,List.take_append_drop,List.take_append_drop]
   generalize hDD:rest.take 1=D1 at e4
   generalize hDE:(rest.drop 1).take ((n-i)*1)=D2 at e4
   generalize hDF:rest.drop (1+(n-i)*1)=D3 at e4
   have f1:D1.length=1:=by rw [← hDD];simp only [List.length_take];omega
   have f2:D2.length=(n-i)*1:=by rw [← hDE];simp only [List.length_take,List.length_drop];omega
   have f3:D3.length+((n-i)+1)*1=rest.length:=by rw [← hDF];simp only [List.length_drop];omega
   rw [e4] at h2
   have hrow:ownB A c≠some g:=fun e=>by have:=hO.lt_size _ e;omega
   have hgb:b≠g:=by have:=hB.lt;omega
   replace hsrc:=hsrc.ext hw2
   replace hB:=hB.ext hw2
   replace hw:=Ext.trans hw hw2
   repeat' (first|(first|refine CW.seq ?_|refine CW.region ?_)|(refine Post.seq ?_)|refine SW.nil ?_|refine SW.pure rfl rfl ?_|(refine SW.st (st_sliceLo (k:=i) rfl rfl (by omega) (by omega)) rfl ?_))
   refine SW.copy (k:=1) (i*1) (encStr x) h2 rfl rfl rfl (by omega) hxl (by simp only [List.length_append,e1,f1,f2,hxl];omega) (fun h0=>⟨by rw [if_neg (by omega)];simp [addr_of],⟨b,0,none⟩,rfl,fun j v hv=>hB.cell hv⟩) (Enc.one (enc:=encStr) x) fun w3 h2' hg3 => ?_
   have g2:=lay_mid ((l.take i).flatMap encStr) D1 (D2++D3) (encStr x) (by rw [hxl,f1]) (o:=i*1) e1.symm
   have g3:(l.take i).flatMap encStr++(D1++D2++D3)=(l.take i).flatMap encStr++D1++(D2++D3):=by simp only [List.append_assoc]
   rw [g3,g2] at h2'
   have hX3:Ext w w3:=hw.own hg2 hg3
   have hsrc3:Sl w3 1 encStr (if c=i then A else A.map (·.add (i*1))) (n-i) (l.drop i):=(hO.sl.drop i c (by omega) (by omega)).ext hX3
   replace hw:=hX3
   repeat' (first|(refine CW.seq ?_)|(refine Post.seq ?_)|refine SW.nil ?_)
   refine CW.any 8 mixed (rb_tail (by kernel_rfl)) rfl fun w1 hw1 hRB => ?_
   replace hw:=Ext.trans hw hw1;replace h2':=h2'.ext hw1;replace hsrc3:=hsrc3.ext hw1;clear hw1
   refine SA.take 0 hRB rfl (by kernel_rfl) (by kernel_rfl) rfl ?_
   repeat (refine SW.pure rfl rfl ?_)
   refine SW.tknil ?_
   refine SA.take 1 hRB rfl (by kernel_rfl) (by kernel_rfl) rfl ?_
   repeat (refine SW.pure rfl rfl ?_)
   refine SW.tknil ?_
   refine SA.take 2 hRB rfl (by kernel_rfl) (by kernel_rfl) rfl ?_
   repeat (refine SW.pure rfl rfl ?_)
   refine SW.tknil ?_
   refine SA.take 3 hRB rfl (by kernel_rfl) (by kernel_rfl) rfl ?_
   repeat ((show SW _ _ _ _ (⟨_,Op.binOp _ _ _ _ _,_,_,_,none⟩::_) _ _;refine SW.st (st_add rfl rfl (by omega) (by omega)) rfl ?_))
   refine SW.tknil ?_
   refine SA.take 4 hRB rfl (by kernel_rfl) (by kernel_rfl) rfl ?_
   repeat ((refine SW.st (st_sliceLo (k:=i+1) rfl rfl (by omega) (by omega)) rfl ?_))
   refine SW.tknil ?_
   refine SA.take 5 hRB rfl (by kernel_rfl) (by kernel_rfl) rfl ?_
   repeat (refine SW.pure rfl rfl ?_)
   refine SW.tknil ?_
   refine SA.take 6 hRB rfl (by kernel_rfl) (by kernel_rfl) rfl ?_
   repeat (refine SW.pure rfl rfl ?_)
   refine SW.tknil ?_
   refine SA.take 7 hRB rfl (by kernel_rfl) (by kernel_rfl) rfl ?_
   repeat ((refine SW.st (st_sliceLo (k:=i) rfl rfl (by omega) (by omega)) rfl ?_))
   refine SW.tknil ?_
   refine SA.done (by kernel_rfl) ?_
   refine SW.copy (k:=n-i) ((i+1)*1) ((l.drop i).flatMap encStr) h2' rfl rfl rfl (by omega) e2 (by simp only [List.length_append,e1,e2,f2,hxl];omega) (fun h0=>⟨by rw [if_neg (by omega)];simp [addr_of],(if c=i then A else A.map (·.add (i*1))).getD default,?_,fun j v hv=>cells_flatMap (by omega) hsrc3 j v hv⟩) (hone _) fun w4 h2'' hg4 => ?_
   ·obtain ⟨a,ha⟩:=Option.isSome_iff_exists.1 (hsrc3.base h0)
    rw [ha];rfl
   ·have g4:=lay_mid ((l.take i).flatMap encStr++encStr x) D2 D3 ((l.drop i).flatMap encStr) (by rw [e2,f2]) (o:=(i+1)*1) (by rw [List.length_append,e1,hxl];omega)
    have g5:(l.take i).flatMap encStr++encStr x++(D2++D3)=(l.take i).flatMap encStr++encStr x++D2++D3:=by simp only [List.append_assoc]
    have g6:(l.take i).flatMap encStr++encStr x++(l.drop i).flatMap encStr++D3=(insAt l i x).flatMap encStr++D3:=by unfold insAt;simp only [List.flatMap_append,List.flatMap_cons,List.flatMap_nil,List.append_nil,List.append_assoc]
    rw [g5,g4,g6] at h2''
    have hO':=Own.closed (n:=n+1) (c:=c2) (lo:=lo) (l:=insAt l i x) (by unfold insAt;simp;omega) h2'' (by omega) (by omega) (by omega) h5 (by omega)
    have hw4:Ext w w4:=hw.own hg2 hg4
    have e9:i+(n+1-i)=n+1:=by omega
    repeat' (first|(first|refine CW.seq ?_|refine CW.region ?_|refine CW.ret ?_)|(first|refine Post.seq ?_|refine Post.seq_ret ?_|refine Post.np ?_)|refine SW.nil ?_|refine SW.pure rfl rfl ?_)
    rw [e9]
    exact Post.ret1 rfl rfl ⟨_,rfl,_,_,rfl,hO',hw4.gr _,fun k e => .inr (by
     have:k=g:=by
      unfold ownB at e
      split at e
      ·cases e
      ·simpa using e.symm
     omega)⟩
open Go.RowKit
theorem CloneStr_ans (A:Option Addr) (n c:Nat) (l:List ByteArray) (w:World) (hl:Sl w 1 encStr A n l) (hn:n*16≤140737488355328) : Ans Tryz.prog 84 [.slice A n c] w (Copied w 9 1 encStr n l):=by
 refine ans_of Tryz.func84 rfl Tryz.ntmps84 rfl ?_
 have hw:=Ext.refl w
 repeat' (first|(first|refine CW.seq ?_|refine CW.region ?_)|(refine Post.seq ?_)|refine SW.nil ?_|refine SW.pure rfl rfl ?_)
 refine SW.st (st_eqnil rfl rfl) rfl ?_
 repeat' (first|(first|refine CW.seq ?_|refine CW.region ?_|refine CW.cond rfl (fun h => ?_) (fun h => ?_)|refine CW.skip ?_|refine CW.ret ?_)|(first|refine Post.seq ?_|refine Post.seq_ret ?_)|refine SW.nil ?_|refine SW.pure rfl rfl ?_)
 ·have hn0:n=0:=by
   rcases Nat.eq_zero_or_pos n with h0|h0
   ·exact h0
   ·have:=hl.base h0;simp_all
  subst hn0
  have:l=[]:=List.eq_nil_of_length_eq_zero hl.len
  subst this
  exact Post.ret1 rfl rfl ⟨_,rfl,hw,none,0,rfl,Own.nil_ _ _ _ _ _ _⟩
 ·refine SW.build0 rfl fun b w1 hw1 hb => ?_
  replace hw:=Ext.trans hw hw1
  repeat' (refine SW.pure rfl rfl ?_)
  refine SW.appendR (Nat.zero_add n) (List.nil_append l) (Own.nil_ w1 w.heap.size _ _ encStr (some ⟨b,0,none⟩)) (hl.ext hw) hw.size rfl rfl rfl (by omega) (by omega) fun A2 c2 w2 hO hg => ?_
  replace hw:=ext_grown hw hg (Nat.le_refl _) (by simp [ownB])
  repeat' (first|(refine CW.ret ?_)|(refine Post.seq ?_)|refine SW.nil ?_|refine SW.pure rfl rfl ?_)
  exact Post.ret1 rfl rfl ⟨_,rfl,hw,A2,c2,rfl,hO⟩
end Go.Proofs.YtbidkghlpijecaaGreatDoor
