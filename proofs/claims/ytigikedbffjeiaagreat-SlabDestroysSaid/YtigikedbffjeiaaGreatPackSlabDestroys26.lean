/-
  Texts of the claim SlabDestroys, part 26: what its theorem leans on.
-/
import Derived.Test.YtigikedbffjeiaaGreatPackSlabDestroys13
import Derived.Test.YtigikedbffjeiaaGreatPackSlabDestroys22
import Derived.Test.YtigikedbffjeiaaGreatPackSlabDestroys10
set_option linter.unusedVariables false
set_option linter.unusedSimpArgs false
namespace Go.Proofs.YtigikedbffjeiaaGreat
open Go.RowKit
set_option maxHeartbeats 4000000 in
theorem SystemCopyX_ans (r:SRow) (s:KSystem) (w:World) (hr:RdS w r s) (hs:s.small) :
  Ans Tryz.prog 6 [.agg (encSys r).toArray] w fun v w' => ∃ q zr,v = .agg (encSys q).toArray∧SX w' w.heap.size q s zr∧SI w' w.heap.size q s zr:=by
 refine ans_of Tryz.func6 rfl Tryz.ntmps6 rfl ?_
 refine CW.seq (CW.region (SW.box rfl rfl fun b1 w1 hw hb1b hb1 => ?_))
 refine SW.alloc rfl fun b2 w2 hw2 hb2b hb2 => ?_
 have hb2w:w.heap.size≤b2:=Nat.le_trans hw.size hb2b
 have hne2:b2≠b1:=by have:=hb1.lt;omega
 (replace hw:=Ext.trans hw hw2;replace hb1:=hb1.ext hw2)
 obtain ⟨cs,hc⟩:=hr.caches
 have hwl:=hr.words.len
 have s1:=hs.words
 have s3:=hs.caches
 obtain ⟨c1,c2⟩:=hc.len
 repeat' (first|(refine CW.seq ?_)|(refine Post.seq ?_)|refine SW.nil ?_)
 obtain ⟨K,hK⟩ : ∃ K:Env→World→Prop,K=fun L' w' => ∃ X c1 G b3 m1 m2,subEnv L' [(1,.pointer (some ⟨b1,0,none⟩)),(2,.pointer (some ⟨b2,0,none⟩)),(3,.pointer (some ⟨b3,0,none⟩))]∧Ext w w'∧Blk w' b1 30 (encSys r)∧Blk w' b2 30 (encSys .zero) ∧
  Blk w' b3 30 (encSys ⟨⟨X,r.Words.n,c1⟩,G,.nil⟩)∧Own w' w.heap.size 3 1 encI X r.Words.n c1 s.Words∧OwnHB w' m1 m2 G s.Heap∧(w.heap.size≤m1∧m1≤m2∧m2≤w'.heap.size ∧ ∀ g,ownB X c1=some g→g<m1)∧w.heap.size≤b3∧b1≠b3∧b2≠b3:=⟨_,rfl⟩
 refine CW.cut K ?_ ?_
 ·refine CW.any 8 mixed (rb_tail (by kernel_rfl)) rfl fun w1 hw1 hRB => ?_
  replace hw:=Ext.trans hw hw1;replace hb1:=hb1.ext hw1;replace hb2:=hb2.ext hw1;clear hw1
  refine SA.take 0 hRB rfl (by kernel_rfl) (by kernel_rfl) rfl ?_
  repeat ((show SW _ _ _ _ (⟨_,Op.fieldAddr _ _ _,_,_,_,none⟩::_) _ _;refine SW.st (st_field rfl) rfl ?_))
  refine SW.tknil ?_
  refine SA.take 1 hRB rfl (by kernel_rfl) (by kernel_rfl) rfl ?_
  repeat ((show SW _ _ _ _ (⟨_,Op.load _ _,_,_,_,none⟩::_) _ _;refine SW.st (st_load rfl (hb1.cell rfl)) rfl ?_))
  refine SW.tknil ?_
  refine SA.take 3 hRB rfl (by kernel_rfl) (by kernel_rfl) rfl ?_
  repeat ((show SW _ _ _ _ (⟨_,Op.fieldAddr _ _ _,_,_,_,none⟩::_) _ _;refine SW.st (st_field rfl) rfl ?_))
  refine SW.tknil ?_
  refine SA.take 4 hRB rfl (by kernel_rfl) (by kernel_rfl) rfl ?_
  repeat ((show SW _ _ _ _ (⟨_,Op.load _ _,_,_,_,none⟩::_) _ _;refine SW.st (st_loads rfl rfl ((heapIn hb1))) rfl ?_))
  refine SW.tknil ?_
  refine SA.two 2 7 rfl rfl (by kernel_rfl) rfl rfl ?_ ?_
  ·refine SW.call rfl rfl (words_ans _ _ _ _ _ (hr.words.ext hw) (by omega)) fun v w4 hXX hv => ?_
   obtain ⟨X,c4,rfl,hX⟩:=hv
   replace hX:=hX.low hw.size
   replace hw:=Ext.trans hw hXX
   replace hb1:=hb1.ext hXX
   replace hb2:=hb2.ext hXX
   try replace hb3:=hb3.ext hXX
   refine SW.nil (Post.sa hXX ?_)
   refine SA.two 5 7 rfl rfl (by kernel_rfl) rfl rfl ?_ ?_
   ·refine SW.call rfl rfl (HeapCopy_ans _ _ _ (hr.heap.ext hw) hs.heap) fun v w4 hXX hv => ?_
    obtain ⟨G,rfl,hY⟩:=hv
    have hYB:∃ m1 m2,w.heap.size≤m1∧m1≤m2∧m2≤w4.heap.size∧(∀ g,ownB X c4=some g→g<m1)∧OwnHB w4 m1 m2 G s.Heap:=⟨_,_,hw.size,hXX.size,Nat.le_refl _,hX.lt_size,hY.between⟩
    clear hY
    obtain ⟨m1,m2,hm1,hm12,hm2,hXm,hY⟩:=hYB
    replace hX:=hX.ext hXX
    replace hw:=Ext.trans hw hXX
    replace hb1:=hb1.ext hXX
    replace hb2:=hb2.ext hXX
    try replace hb3:=hb3.ext hXX
    refine SW.nil (Post.sa hXX ?_)
    refine SA.take 6 hRB rfl (by kernel_rfl) (by kernel_rfl) rfl ?_
    repeat ((show SW _ _ _ _ (⟨_,Op.build _ _,_,_,_,none⟩::_) _ _;refine SW.st (st_build rfl rfl) rfl ?_))
    refine SW.tknil ?_
    refine SA.one 7 rfl (by kernel_rfl) rfl ?_
    refine SW.alloc rfl fun b3 w4 hXX hb3b hb3 => ?_
    have hb3w:w.heap.size≤b3:=Nat.le_trans hw.size hb3b
    try replace hm2:=Nat.le_trans hm2 hXX.size
    have hne3:b1≠b3:=by have:=hb1.lt;omega
    have hne4:b2≠b3:=by have:=hb2.lt;omega
    replace hw:=Ext.trans hw hXX
    replace hb1:=hb1.ext hXX
    replace hb2:=hb2.ext hXX
    try replace hX:=hX.ext hXX
    try replace hY:=hY.ext hXX
    refine SW.nil (Post.sa hXX ?_)
    refine SA.done (by kernel_rfl) ?_
    skip
    refine SW.storeAgg hb3 rfl rfl rfl rfl (one_s ⟨⟨X,r.Words.n,c4⟩,G,.nil⟩) fun w5 hR2 hg => ?_
    have hG:=hb3.gr hg
    have hm3:=Nat.le_trans hm2 hg.size
    replace hw:=hw.own hb3w hg
    (replace hX:=hX.grT hG rfl;replace hY:=hY.grT hG rfl)
    replace hb1:=hb1.grown hg (by simpa using hne3)
    replace hb2:=hb2.grown hg (by simpa using hne4)
    repeat' (first|(refine Post.np ?_)|refine SW.nil ?_)
    exact Post.cut (K:=K) (by rw [hK];exact ⟨X,c4,G,b3,m1,m2,⟨rfl,rfl,rfl,trivial⟩,hw,hb1,hb2,hR2,hX,hY,⟨hm1,hm12,hm3,hXm⟩,hb3w,hne3,hne4⟩)
   ·refine SW.alloc rfl fun b3 w4 hXX hb3b hb3 => ?_
    have hb3w:w.heap.size≤b3:=Nat.le_trans hw.size hb3b
    try replace hm2:=Nat.le_trans hm2 hXX.size
    have hne3:b1≠b3:=by have:=hb1.lt;omega
    have hne4:b2≠b3:=by have:=hb2.lt;omega
    replace hw:=Ext.trans hw hXX
    replace hb1:=hb1.ext hXX
    replace hb2:=hb2.ext hXX
    try replace hX:=hX.ext hXX
    try replace hY:=hY.ext hXX
    refine SW.nil (Post.sa hXX ?_)
    refine SA.one 5 rfl (by kernel_rfl) rfl ?_
    refine SW.call rfl rfl (HeapCopy_ans _ _ _ (hr.heap.ext hw) hs.heap) fun v w4 hXX hv => ?_
    obtain ⟨G,rfl,hY⟩:=hv
    have hYB:∃ m1 m2,w.heap.size≤m1∧m1≤m2∧m2≤w4.heap.size∧(∀ g,ownB X c4=some g→g<m1)∧OwnHB w4 m1 m2 G s.Heap:=⟨_,_,hw.size,hXX.size,Nat.le_refl _,hX.lt_size,hY.between⟩
    clear hY
    obtain ⟨m1,m2,hm1,hm12,hm2,hXm,hY⟩:=hYB
    replace hX:=hX.ext hXX
    replace hw:=Ext.trans hw hXX
    replace hb1:=hb1.ext hXX
    replace hb2:=hb2.ext hXX
    try replace hb3:=hb3.ext hXX
    refine SW.nil (Post.sa hXX ?_)
    refine SA.take 6 hRB rfl (by kernel_rfl) (by kernel_rfl) rfl ?_
    repeat ((show SW _ _ _ _ (⟨_,Op.build _ _,_,_,_,none⟩::_) _ _;refine SW.st (st_build rfl rfl) rfl ?_))
    refine SW.tknil ?_
    refine SA.done (by kernel_rfl) ?_
    skip
    refine SW.storeAgg hb3 rfl rfl rfl rfl (one_s ⟨⟨X,r.Words.n,c4⟩,G,.nil⟩) fun w5 hR2 hg => ?_
    have hG:=hb3.gr hg
    have hm3:=Nat.le_trans hm2 hg.size
    replace hw:=hw.own hb3w hg
    (replace hX:=hX.grT hG rfl;replace hY:=hY.grT hG rfl)
    replace hb1:=hb1.grown hg (by simpa using hne3)
    replace hb2:=hb2.grown hg (by simpa using hne4)
    repeat' (first|(refine Post.np ?_)|refine SW.nil ?_)
    exact Post.cut (K:=K) (by rw [hK];exact ⟨X,c4,G,b3,m1,m2,⟨rfl,rfl,rfl,trivial⟩,hw,hb1,hb2,hR2,hX,hY,⟨hm1,hm12,hm3,hXm⟩,hb3w,hne3,hne4⟩)
  ·refine SW.alloc rfl fun b3 w4 hXX hb3b hb3 => ?_
   have hb3w:w.heap.size≤b3:=Nat.le_trans hw.size hb3b
   try replace hm2:=Nat.le_trans hm2 hXX.size
   have hne3:b1≠b3:=by have:=hb1.lt;omega
   have hne4:b2≠b3:=by have:=hb2.lt;omega
   replace hw:=Ext.trans hw hXX
   replace hb1:=hb1.ext hXX
   replace hb2:=hb2.ext hXX
   try replace hX:=hX.ext hXX
   try replace hY:=hY.ext hXX
   refine SW.nil (Post.sa hXX ?_)
   refine SA.one 2 rfl (by kernel_rfl) rfl ?_
   refine SW.call rfl rfl (words_ans _ _ _ _ _ (hr.words.ext hw) (by omega)) fun v w4 hXX hv => ?_
   obtain ⟨X,c4,rfl,hX⟩:=hv
   replace hX:=hX.low hw.size
   replace hw:=Ext.trans hw hXX
   replace hb1:=hb1.ext hXX
   replace hb2:=hb2.ext hXX
   try replace hb3:=hb3.ext hXX
   refine SW.nil (Post.sa hXX ?_)
   refine SA.one 5 rfl (by kernel_rfl) rfl ?_
   refine SW.call rfl rfl (HeapCopy_ans _ _ _ (hr.heap.ext hw) hs.heap) fun v w4 hXX hv => ?_
   obtain ⟨G,rfl,hY⟩:=hv
   have hYB:∃ m1 m2,w.heap.size≤m1∧m1≤m2∧m2≤w4.heap.size∧(∀ g,ownB X c4=some g→g<m1)∧OwnHB w4 m1 m2 G s.Heap:=⟨_,_,hw.size,hXX.size,Nat.le_refl _,hX.lt_size,hY.between⟩
   clear hY
   obtain ⟨m1,m2,hm1,hm12,hm2,hXm,hY⟩:=hYB
   replace hX:=hX.ext hXX
   replace hw:=Ext.trans hw hXX
   replace hb1:=hb1.ext hXX
   replace hb2:=hb2.ext hXX
   try replace hb3:=hb3.ext hXX
   refine SW.nil (Post.sa hXX ?_)
   refine SA.take 6 hRB rfl (by kernel_rfl) (by kernel_rfl) rfl ?_
   repeat ((show SW _ _ _ _ (⟨_,Op.build _ _,_,_,_,none⟩::_) _ _;refine SW.st (st_build rfl rfl) rfl ?_))
   refine SW.tknil ?_
   refine SA.done (by kernel_rfl) ?_
   skip
   refine SW.storeAgg hb3 rfl rfl rfl rfl (one_s ⟨⟨X,r.Words.n,c4⟩,G,.nil⟩) fun w5 hR2 hg => ?_
   have hG:=hb3.gr hg
   have hm3:=Nat.le_trans hm2 hg.size
   replace hw:=hw.own hb3w hg
   (replace hX:=hX.grT hG rfl;replace hY:=hY.grT hG rfl)
   replace hb1:=hb1.grown hg (by simpa using hne3)
   replace hb2:=hb2.grown hg (by simpa using hne4)
   repeat' (first|(refine Post.np ?_)|refine SW.nil ?_)
   exact Post.cut (K:=K) (by rw [hK];exact ⟨X,c4,G,b3,m1,m2,⟨rfl,rfl,rfl,trivial⟩,hw,hb1,hb2,hR2,hX,hY,⟨hm1,hm12,hm3,hXm⟩,hb3w,hne3,hne4⟩)
 ·clear hb1 hb2 hw
  subst hK
  rintro L' w' ⟨X,c4,G,b3,m1,m2,hsub,hw,hb1,hb2,hb3,hX,hY,⟨hm1,hm12,hm3,hXm⟩,hb3w,hne3,hne4⟩
  refine Post.sub hsub ?_
  repeat' (first|(first|refine CW.seq ?_|refine CW.region ?_|refine CW.block ?_)|(refine Post.seq ?_)|refine SW.nil ?_|refine SW.pure rfl rfl ?_)
  refine CW.loop (fun s:Nat×Option Addr×Nat×List CRow=>[(1,.pointer (some ⟨b1,0,none⟩)),(2,.pointer (some ⟨b2,0,none⟩)),(3,.pointer (some ⟨b3,0,none⟩)),(4,.int .i64 (s.1:Int))])
   (fun t w'=>t.1≤r.Caches.n∧m2≤w'.heap.size∧Ext w w'∧Blk w' b1 30 (encSys r)∧Blk w' b2 30 (encSys .zero)∧Blk w' b3 30 (encSys ⟨⟨X,r.Words.n,c4⟩,G,⟨t.2.1,t.1,t.2.2.1⟩⟩)∧Own w' w.heap.size 3 1 encI X r.Words.n c4 s.Words∧OwnHB w' m1 m2 G s.Heap ∧
    OwnCs w' m2 ⟨t.2.1,t.1,t.2.2.1⟩ t.2.2.2 (s.Caches.take t.1)∧SepC ⟨X,r.Words.n,c4⟩ t.2.2.2) (fun t=>r.Caches.n-t.1) (0,none,0,[]) ⟨rfl,rfl,rfl,rfl,trivial⟩ ⟨by omega,hm3,hw,hb1,hb2,hb3,hX,hY,OwnCs.nil _ _,SepC.nil _⟩ ?_
  clear hb1 hb2 hb3 hX hY hw hsub
  rintro ⟨k,A,c,zr⟩ w' ⟨hk,hm3,hw,hb1,hb2,hb3,hX,hY,hO,hSp⟩
  simp only at hk hb3 hO hSp ⊢
  have hA:=hc.row.base
  by_cases hkn:k<r.Caches.n
  ·have hkc:k<cs.length:=by omega
   have hks:k<s.Caches.length:=by omega
   have hck:=hc.each.get k hkc hks
   have q:=hs.each _ (List.getElem_mem hks)
   have q1:=hck.names.len
   have q2:=hck.slabs.len
   have q3:=hck.active.len
   have q4:=q.names
   have q5:=q.slabs
   have q6:=q.active
   have hlt5:=hO.row.lt_size
   repeat' (first|(first|refine CW.seq ?_|refine CW.region ?_|refine CW.block ?_|refine CW.condd_t rfl (by omega) ?_|refine CW.skip ?_)|(refine Post.seq ?_)|refine SW.nil ?_|refine SW.pure rfl rfl ?_|(show SW _ _ _ _ (⟨_,Op.fieldAddr _ _ _,_,_,_,none⟩::_) _ _;refine SW.st (st_field rfl) rfl ?_)|(show SW _ _ _ _ (⟨_,Op.indexAddr _ _ _,_,_,_,none⟩::_) _ _;refine SW.st (st_indexN rfl rfl (by assumption) (by omega)) rfl ?_)|(show SW _ _ _ _ (⟨_,Op.call ⟨.builtin .len,_,_⟩,_,_,_,none⟩::_) _ _;refine SW.st (st_len rfl) rfl ?_)|(show SW _ _ _ _ (⟨_,Op.load _ _,_,_,_,none⟩::_) _ _;first|refine SW.st (st_load rfl (hb1.cell rfl)) rfl ?_|refine SW.st (st_loadsx hw rfl rfl ((hc.row.all hkn))) rfl ?_))
   refine SW.alloc rfl fun b5 w1 hw1 hb5b hb5 => ?_
   skip
   refine SW.storeAgg hb5 rfl rfl rfl rfl (one_c _) fun w2 hb5' hg => ?_
   have hXX:=hw1.own hb5b hg
   have hb5w:w.heap.size≤b5:=Nat.le_trans hw.size hb5b
   replace hw:=Ext.trans hw hXX
   replace hb1:=hb1.ext hXX
   replace hb2:=hb2.ext hXX
   replace hb3:=hb3.ext hXX
   replace hX:=hX.ext hXX
   replace hY:=hY.ext hXX
   replace hO:=hO.ext hXX
   replace hb5:=hb5'
   clear hb5' hw1 hg hXX
   have hm5:m2≤b5:=Nat.le_trans hm3 hb5b
   repeat' (first|(first|refine CW.seq ?_|refine CW.region ?_|refine CW.block ?_)|(refine Post.seq ?_)|refine SW.nil ?_|refine SW.pure rfl rfl ?_)
   have hwA:Ext w w2:=hw
   refine CW.loop (fun t:Nat×Option Addr×Nat=>[(1,.pointer (some ⟨b1,0,none⟩)),(2,.pointer (some ⟨b2,0,none⟩)),(3,.pointer (some ⟨b3,0,none⟩)),(4,.int .i64 (k:Int)),(5,.pointer (some ⟨b5,0,none⟩)),(6,.slice t.2.1 t.1 t.2.2),(7,.int .i64 (t.1:Int))])
    (fun t w'=>t.1≤cs[k].Names.n∧Ext w2 w'∧Own w' w2.heap.size 9 1 encStr t.2.1 t.1 t.2.2 (s.Caches[k].Names.take t.1)) (fun t=>cs[k].Names.n-t.1) (0,none,0) ⟨rfl,rfl,rfl,rfl,rfl,rfl,rfl,trivial⟩ ⟨by omega,Ext.refl _,by simpa using Own.nil_ _ _ _ _ _ _⟩ ?_
   clear hw
   rintro ⟨j,B,d⟩ w3 ⟨hj,hw,hB⟩
   simp only at hj hB ⊢
   have hA1:=hck.names.base
   by_cases hjn:j<cs[k].Names.n
   ·repeat' (first|(first|refine CW.seq ?_|refine CW.region ?_|refine CW.block ?_|refine CW.condd_t rfl (by omega) ?_|refine CW.skip ?_)|(refine Post.seq ?_)|refine SW.nil ?_|refine SW.pure rfl rfl ?_|(show SW _ _ _ _ (⟨_,Op.fieldAddr _ _ _,_,_,_,none⟩::_) _ _;refine SW.st (st_field rfl) rfl ?_)|(show SW _ _ _ _ (⟨_,Op.indexAddr _ _ _,_,_,_,none⟩::_) _ _;refine SW.st (st_indexN rfl rfl (by assumption) (by omega)) rfl ?_)|(show SW _ _ _ _ (⟨_,Op.call ⟨.builtin .len,_,_⟩,_,_,_,none⟩::_) _ _;refine SW.st (st_len rfl) rfl ?_)|(show SW _ _ _ _ (⟨_,Op.load _ _,_,_,_,none⟩::_) _ _;first|refine SW.st (st_loadx hw rfl (hb5.cell (i:=0) (v := .slice cs[k].Names.A cs[k].Names.n cs[k].Names.c) rfl)) rfl ?_|refine SW.st (st_loadx hw rfl ((hck.names.ext hwA).one hjn rfl)) rfl ?_))
    refine SW.build1 rfl rfl rfl rfl rfl fun b w1 hw1 hb hBb => ?_
    replace hw:=Ext.trans hw hw1
    replace hB:=hB.ext hw1
    refine SW.append hB (Blk.sl1 (enc:=encStr) hBb) hw.size rfl rfl rfl (by omega) (by omega) fun A2 c2 w4 hO1 hg => ?_
    replace hw:=ext_grown hw hg (Nat.le_refl _) hB.row_ge
    repeat' (first|(refine CW.region ?_)|(first|refine Post.seq ?_|refine Post.blk ?_)|refine SW.nil ?_|refine SW.pure rfl rfl ?_|(show SW _ _ _ _ (⟨_,Op.binOp _ _ _ _ _,_,_,_,none⟩::_) _ _;refine SW.st (st_add rfl rfl (by omega) (by omega)) rfl ?_))
    refine Post.again (j+1,A2,c2) ⟨rfl,rfl,rfl,rfl,rfl,rfl,rfl,trivial⟩ (by simp only;omega) ⟨by simp only;omega,hw,?_⟩
    rw [List.take_succ_eq_append_getElem (by omega)]
    exact hO1
   ·obtain rfl:j=cs[k].Names.n:=by omega
    rw [List.take_of_length_le (by omega)] at hB
    repeat' (first|(first|refine CW.seq ?_|refine CW.region ?_|refine CW.block ?_|refine CW.condd_f rfl (by omega) ?_|refine CW.exit ?_)|(first|refine Post.seq ?_|refine Post.seq_exit ?_|refine Post.hit ?_|refine Post.again_exit ?_)|refine SW.nil ?_|refine SW.pure rfl rfl ?_|(show SW _ _ _ _ (⟨_,Op.fieldAddr _ _ _,_,_,_,none⟩::_) _ _;refine SW.st (st_field rfl) rfl ?_)|(show SW _ _ _ _ (⟨_,Op.call ⟨.builtin .len,_,_⟩,_,_,_,none⟩::_) _ _;refine SW.st (st_len rfl) rfl ?_)|(show SW _ _ _ _ (⟨_,Op.load _ _,_,_,_,none⟩::_) _ _;refine SW.st (st_loadx hw rfl (hb5.cell (i:=0) (v := .slice cs[k].Names.A cs[k].Names.n cs[k].Names.c) rfl)) rfl ?_))
    have hwN:=hw
    have hn1:=hO.apN (b:=⟨B,cs[k].Names.n,d⟩) hB.row_ge
    replace hB:=hB.low (Nat.le_trans hm5 (Nat.le_of_lt hb5.lt))
    replace hw:=hwA
    (replace hw:=Ext.trans hw hwN;replace hb1:=hb1.ext hwN;replace hb2:=hb2.ext hwN;replace hb3:=hb3.ext hwN;replace hb5:=hb5.ext hwN;replace hX:=hX.ext hwN;replace hY:=hY.ext hwN;replace hO:=hO.ext hwN)
    have hwB:Ext w w3:=hw
    refine CW.loop (fun t:Nat×Option Addr×Nat=>[(1,.pointer (some ⟨b1,0,none⟩)),(2,.pointer (some ⟨b2,0,none⟩)),(3,.pointer (some ⟨b3,0,none⟩)),(4,.int .i64 (k:Int)),(5,.pointer (some ⟨b5,0,none⟩)),(6,.slice B cs[k].Names.n d),(8,.slice t.2.1 t.1 t.2.2),(9,.int .i64 (t.1:Int))])
     (fun t w'=>t.1≤cs[k].Slabs.n∧Ext w3 w'∧Own w' w3.heap.size 46 3 encSb t.2.1 t.1 t.2.2 (s.Caches[k].Slabs.take t.1)) (fun t=>cs[k].Slabs.n-t.1) (0,none,0) ⟨rfl,rfl,rfl,rfl,rfl,rfl,rfl,rfl,trivial⟩ ⟨by omega,Ext.refl _,by simpa using Own.nil_ _ _ _ _ _ _⟩ ?_
    clear hw hwN
    rintro ⟨j,M,m⟩ w4 ⟨hj,hw,hM⟩
    simp only at hj hM ⊢
    have hA2:=hck.slabs.base
    by_cases hjn:j<cs[k].Slabs.n
    ·repeat' (first|(first|refine CW.seq ?_|refine CW.region ?_|refine CW.block ?_|refine CW.condd_t rfl (by omega) ?_|refine CW.skip ?_)|(refine Post.seq ?_)|refine SW.nil ?_|refine SW.pure rfl rfl ?_|(show SW _ _ _ _ (⟨_,Op.fieldAddr _ _ _,_,_,_,none⟩::_) _ _;refine SW.st (st_field rfl) rfl ?_)|(show SW _ _ _ _ (⟨_,Op.indexAddr _ _ _,_,_,_,none⟩::_) _ _;refine SW.st (st_indexN rfl rfl (by assumption) (by omega)) rfl ?_)|(show SW _ _ _ _ (⟨_,Op.call ⟨.builtin .len,_,_⟩,_,_,_,none⟩::_) _ _;refine SW.st (st_len rfl) rfl ?_)|(show SW _ _ _ _ (⟨_,Op.load _ _,_,_,_,none⟩::_) _ _;first|refine SW.st (st_loadx hw rfl (hb5.cell (i:=4) (v := .slice cs[k].Slabs.A cs[k].Slabs.n cs[k].Slabs.c) rfl)) rfl ?_|refine SW.st (st_loadsx hw rfl rfl (((hck.slabs.ext hwB).all hjn))) rfl ?_))
     refine SW.build1 rfl rfl rfl rfl rfl fun b w1 hw1 hb hBb => ?_
     replace hw:=Ext.trans hw hw1
     replace hM:=hM.ext hw1
     refine SW.append hM (Blk.sl1 (enc:=encSb) hBb) hw.size rfl rfl rfl (by omega) (by omega) fun A2 c2 w5 hO1 hg => ?_
     replace hw:=ext_grown hw hg (Nat.le_refl _) hM.row_ge
     repeat' (first|(refine CW.region ?_)|(first|refine Post.seq ?_|refine Post.blk ?_)|refine SW.nil ?_|refine SW.pure rfl rfl ?_|(show SW _ _ _ _ (⟨_,Op.binOp _ _ _ _ _,_,_,_,none⟩::_) _ _;refine SW.st (st_add rfl rfl (by omega) (by omega)) rfl ?_))
     refine Post.again (j+1,A2,c2) ⟨rfl,rfl,rfl,rfl,rfl,rfl,rfl,rfl,trivial⟩ (by simp only;omega) ⟨by simp only;omega,hw,?_⟩
     rw [List.take_succ_eq_append_getElem (by omega)]
     exact hO1
    ·obtain rfl:j=cs[k].Slabs.n:=by omega
     rw [List.take_of_length_le (by omega)] at hM
     repeat' (first|(first|refine CW.seq ?_|refine CW.region ?_|refine CW.condd_f rfl (by omega) ?_|refine CW.exit ?_)|(first|refine Post.seq ?_|refine Post.seq_exit ?_|refine Post.hit ?_|refine Post.again_exit ?_)|refine SW.nil ?_|refine SW.pure rfl rfl ?_|(show SW _ _ _ _ (⟨_,Op.fieldAddr _ _ _,_,_,_,none⟩::_) _ _;refine SW.st (st_field rfl) rfl ?_)|(show SW _ _ _ _ (⟨_,Op.call ⟨.builtin .len,_,_⟩,_,_,_,none⟩::_) _ _;refine SW.st (st_len rfl) rfl ?_)|(show SW _ _ _ _ (⟨_,Op.load _ _,_,_,_,none⟩::_) _ _;refine SW.st (st_loadx hw rfl (hb5.cell (i:=4) (v := .slice cs[k].Slabs.A cs[k].Slabs.n cs[k].Slabs.c) rfl)) rfl ?_))
     have hwN:=hw
     have hm1':=hO.apS (b:=⟨M,cs[k].Slabs.n,m⟩) hM.row_ge
     replace hM:=hM.low (Nat.le_trans hm5 (Nat.le_of_lt hb5.lt))
     replace hw:=hwB
     (replace hw:=Ext.trans hw hwN;replace hb1:=hb1.ext hwN;replace hb2:=hb2.ext hwN;replace hb3:=hb3.ext hwN;replace hb5:=hb5.ext hwN;replace hX:=hX.ext hwN;replace hY:=hY.ext hwN;replace hO:=hO.ext hwN;replace hB:=hB.ext hwN)
     refine SW.storeB (i:=0) hb5 rfl rfl rfl rfl fun w6 hb5' hg => ?_
     have hG:=hb5.gr hg
     replace hw:=hw.own hb5w hg
     replace hO:=hO.blk hb5 hg hlt5 hb5b
     (replace hb1:=hb1.grT hG rfl;replace hb2:=hb2.grT hG rfl;replace hb3:=hb3.grT hG rfl;replace hX:=hX.grT hG rfl;replace hY:=hY.grT hG rfl;replace hB:=hB.grT hG rfl;replace hM:=hM.grT hG rfl)
     replace hb5:=hb5'
     clear hb5' hg hG
     repeat' (first|(first|refine CW.seq ?_|refine CW.region ?_)|(refine Post.seq ?_)|refine SW.nil ?_|refine SW.pure rfl rfl ?_|(show SW _ _ _ _ (⟨_,Op.fieldAddr _ _ _,_,_,_,none⟩::_) _ _;refine SW.st (st_field rfl) rfl ?_))
     refine SW.storeB (i:=4) hb5 rfl rfl rfl rfl fun w6 hb5' hg => ?_
     have hG:=hb5.gr hg
     replace hw:=hw.own hb5w hg
     replace hO:=hO.blk hb5 hg hlt5 hb5b
     (replace hb1:=hb1.grT hG rfl;replace hb2:=hb2.grT hG rfl;replace hb3:=hb3.grT hG rfl;replace hX:=hX.grT hG rfl;replace hY:=hY.grT hG rfl;replace hB:=hB.grT hG rfl;replace hM:=hM.grT hG rfl)
     replace hb5:=hb5'
     clear hb5' hg hG
     repeat' (first|(first|refine CW.seq ?_|refine CW.region ?_)|(refine Post.seq ?_)|refine SW.nil ?_|(show SW _ _ _ _ (⟨_,Op.fieldAddr _ _ _,_,_,_,none⟩::_) _ _;refine SW.st (st_field rfl) rfl ?_)|(show SW _ _ _ _ (⟨_,Op.load _ _,_,_,_,none⟩::_) _ _;refine SW.st (st_load rfl (hb5.cell (i:=5) (v := .slice cs[k].Active.A cs[k].Active.n cs[k].Active.c) rfl)) rfl ?_))
     refine SW.call rfl rfl (words_ans _ _ _ _ _ (hck.active.ext hw) (by omega)) fun v w7 hXX hv => ?_
     obtain ⟨Q,q7,rfl,hQ⟩:=hv
     have hq1:=hO.apA (b:=⟨Q,cs[k].Active.n,q7⟩) hQ.row_ge
     have hq2:=apart_new (a:=⟨X,r.Words.n,c4⟩) (b:=⟨Q,cs[k].Active.n,q7⟩) hX hQ.row_ge
     replace hQ:=hQ.low (Nat.le_trans hm5 (Nat.le_of_lt hb5.lt))
     (replace hw:=Ext.trans hw hXX;replace hb1:=hb1.ext hXX;replace hb2:=hb2.ext hXX;replace hb3:=hb3.ext hXX;replace hb5:=hb5.ext hXX;replace hX:=hX.ext hXX;replace hY:=hY.ext hXX;replace hO:=hO.ext hXX;replace hB:=hB.ext hXX;replace hM:=hM.ext hXX)
     repeat' ((show SW _ _ _ _ (⟨_,Op.fieldAddr _ _ _,_,_,_,none⟩::_) _ _;refine SW.st (st_field rfl) rfl ?_))
     refine SW.storeB (i:=5) hb5 rfl rfl rfl rfl fun w6 hb5' hg => ?_
     have hG:=hb5.gr hg
     replace hw:=hw.own hb5w hg
     replace hO:=hO.blk hb5 hg hlt5 hb5b
     (replace hb1:=hb1.grT hG rfl;replace hb2:=hb2.grT hG rfl;replace hb3:=hb3.grT hG rfl;replace hX:=hX.grT hG rfl;replace hY:=hY.grT hG rfl;replace hB:=hB.grT hG rfl;replace hM:=hM.grT hG rfl;replace hQ:=hQ.grT hG rfl)
     replace hb5:=hb5'
     clear hb5' hg hG
     repeat' (first|(refine CW.region ?_)|(refine Post.seq ?_)|refine SW.nil ?_|(show SW _ _ _ _ (⟨_,Op.fieldAddr _ _ _,_,_,_,none⟩::_) _ _;refine SW.st (st_field rfl) rfl ?_)|(show SW _ _ _ _ (⟨_,Op.load _ _,_,_,_,none⟩::_) _ _;first|refine SW.st (st_load rfl (hb3.cell rfl)) rfl ?_|refine SW.st (st_loads rfl rfl ((fun _ _=>hb5.cell))) rfl ?_))
     refine SW.build1 rfl rfl rfl rfl rfl fun b w6 hXX hb hBb => ?_
     (replace hw:=Ext.trans hw hXX;replace hb1:=hb1.ext hXX;replace hb2:=hb2.ext hXX;replace hb3:=hb3.ext hXX;replace hX:=hX.ext hXX;replace hY:=hY.ext hXX;replace hO:=hO.ext hXX;replace hB:=hB.ext hXX;replace hM:=hM.ext hXX;replace hQ:=hQ.ext hXX)
     refine SW.append hO.row (Blk.sl1 (enc:=encC) (x:=⟨⟨B,_,d⟩,cs[k].Size,cs[k].Per,cs[k].Order,⟨M,_,m⟩,⟨Q,_,q7⟩⟩) hBb) (Nat.le_trans hm5 (Nat.le_trans (Nat.le_of_lt hb5.lt) hXX.size)) rfl rfl rfl (by simp only;omega) (by simp only;omega) fun A2 c2 w5 hO1 hg => ?_
     have hG:=hO.row.gr hg
     have hm6:=Nat.le_trans (Nat.le_trans hm5 (Nat.le_trans (Nat.le_of_lt hb5.lt) hXX.size)) hg.size
     replace hw:=ext_grown hw hg (Nat.le_trans hm1 hm12) hO.row.row_ge
     (replace hb1:=hb1.grT hG rfl;replace hb2:=hb2.grT hG rfl;replace hb3:=hb3.grT hG rfl;replace hX:=hX.grT hG rfl;replace hY:=hY.grT hG rfl;replace hB:=hB.grT hG rfl;replace hM:=hM.grT hG rfl;replace hQ:=hQ.grT hG rfl)
     have hE:=hO.each.mono fun _ _ h=>h.grT hG rfl
     repeat' ((show SW _ _ _ _ (⟨_,Op.fieldAddr _ _ _,_,_,_,none⟩::_) _ _;refine SW.st (st_field rfl) rfl ?_))
     refine SW.storeB (i:=6) hb3 rfl rfl rfl rfl fun w6 hb3' hg => ?_
     have hG:=hb3.gr hg
     replace hw:=hw.own hb3w hg
     replace hb1:=hb1.grown hg (by simpa using hne3)
     replace hb2:=hb2.grown hg (by simpa using hne4)
     (replace hX:=hX.grT hG rfl;replace hY:=hY.grT hG rfl;replace hB:=hB.grT hG rfl;replace hM:=hM.grT hG rfl;replace hQ:=hQ.grT hG rfl;replace hO1:=hO1.grT hG rfl)
     replace hE:=hE.mono fun _ _ h=>h.grT hG rfl
     repeat' (first|(refine CW.region ?_)|(first|refine Post.seq ?_|refine Post.blk ?_)|refine SW.nil ?_|refine SW.pure rfl rfl ?_|(show SW _ _ _ _ (⟨_,Op.binOp _ _ _ _ _,_,_,_,none⟩::_) _ _;refine SW.st (st_add rfl rfl (by omega) (by omega)) rfl ?_))
     refine Post.again (k+1,A2,c2,zr++[⟨⟨B,_,d⟩,cs[k].Size,cs[k].Per,cs[k].Order,⟨M,_,m⟩,⟨Q,_,q7⟩⟩]) ⟨rfl,rfl,rfl,rfl,trivial⟩ (by simp only;omega) ⟨by simp only;omega,Nat.le_trans hm6 hg.size,hw,hb1,hb2,hb3',hX,hY,⟨hO1,?_⟩,hSp.snoc (fun u hu=>⟨hn1 u hu,hm1' u hu,hq1 u hu⟩) hq2⟩
     rw [List.take_succ_eq_append_getElem (by omega)]
     exact hE.snoc ⟨hck.size,hck.per,hck.order,hB,hM,hQ⟩
  ·obtain rfl:k=r.Caches.n:=by omega
   rw [List.take_of_length_le (by omega)] at hO
   repeat' (first|(first|refine CW.seq ?_|refine CW.region ?_|refine CW.condd_f rfl (by omega) ?_|refine CW.exit ?_)|(first|refine Post.seq ?_|refine Post.seq_exit ?_|refine Post.hit ?_|refine Post.again_exit ?_)|refine SW.nil ?_|refine SW.pure rfl rfl ?_|(show SW _ _ _ _ (⟨_,Op.fieldAddr _ _ _,_,_,_,none⟩::_) _ _;refine SW.st (st_field rfl) rfl ?_)|(show SW _ _ _ _ (⟨_,Op.call ⟨.builtin .len,_,_⟩,_,_,_,none⟩::_) _ _;refine SW.st (st_len rfl) rfl ?_)|(show SW _ _ _ _ (⟨_,Op.load _ _,_,_,_,none⟩::_) _ _;first|refine SW.st (st_load rfl (hb1.cell rfl)) rfl ?_|refine SW.st (st_loads rfl rfl ((fun _ _=>hb3.cell))) rfl ?_))
   refine SW.storeAgg hb2 rfl rfl rfl rfl (one_s _) fun w5 hR2 hg => ?_
   have hG:=hb2.gr hg
   replace hw:=hw.own hb2w hg
   (replace hX:=hX.grT hG rfl;replace hY:=hY.grT hG rfl;replace hO:=hO.grT hG rfl)
   repeat' (first|(refine CW.ret ?_)|(refine Post.seq ?_)|refine SW.nil ?_)
   exact Post.ret1c rfl rfl hR2 rfl ⟨_,rfl,hw,⟨_,G,_⟩,zr,rfl,⟨hX,hY.own.low hm1,hO.row.low (Nat.le_trans hm1 hm12),hO.each.mono fun _ _ h=>h.low (Nat.le_trans hm1 hm12),hSp.pair⟩,⟨m1,m2,hm1,hm12,hXm,hY,hO.each⟩⟩
open Go.RowKit
section
variable {P:Program} {n:Nat} {ops:Array Oper} {Q:Exit→Act→World→Prop} {fin lst f:Nat} {S2:World→Prop} {listed:Array Bool} {L:Env} {w:World}
theorem SF.two (i k:Nat) {o o':Oper} (hi:ops[i]?=some o) (hk:ops[k]?=some o') (hr:Region.ready .any ops listed=[i,k]) (hw:(!Nat.beq i lst && !Nat.beq i fin)=true) (hw':(!Nat.beq k lst && !Nat.beq k fin)=true)
  (h:SW P n ops (.eff (SFQ P n ops Q fin lst S2 f (listed.setIfInBounds i true) w)) [o] L w) (h':SW P n ops (.eff (SFQ P n ops Q fin lst S2 f (listed.setIfInBounds k true) w)) [o'] L w) : SF P n ops Q fin lst S2 (f+1) listed L w :=
 ⟨fun a ha inv=>⟨by rw [hr];simp,fun j hj=>by
  have hj':=hj
  rw [hr] at hj'
  simp only [List.mem_cons,List.not_mem_nil,or_false] at hj'
  rcases hj' with rfl|rfl
  ·obtain ⟨n1,n2⟩:=nes hw
   have hin:j<ops.size:=(Array.getElem?_eq_some_iff.1 hi).1
   refine ⟨hin,stepF (Q1:=SFQ P n ops Q fin lst S2 f (listed.setIfInBounds j true) w) hi (fun e a w ne h=>by cases e<;>first|exact h|exact absurd rfl ne) (fun h=>h) (fun a' w' hh=>⟨fun e=>absurd e n1,fun _ e=>absurd e n2,fun _ _=>⟨hh.1,wpHf_mono f (fun w'' h''=>Ext.trans hh.1 h'') _ _ _ (hh.2 (inv.set hj hin))⟩⟩) (h.out a ha)⟩
  ·obtain ⟨n1,n2⟩:=nes hw'
   have hin:j<ops.size:=(Array.getElem?_eq_some_iff.1 hk).1
   refine ⟨hin,stepF (Q1:=SFQ P n ops Q fin lst S2 f (listed.setIfInBounds j true) w) hk (fun e a w ne h=>by cases e<;>first|exact h|exact absurd rfl ne) (fun h=>h) (fun a' w' hh=>⟨fun e=>absurd e n1,fun _ e=>absurd e n2,fun _ _=>⟨hh.1,wpHf_mono f (fun w'' h''=>Ext.trans hh.1 h'') _ _ _ (hh.2 (inv.set hj hin))⟩⟩) (h'.out a ha)⟩⟩⟩
