/-
  Texts of the claim KmemNew, part 23: what its theorem leans on.
-/
import Derived.Test.YtbidkghlpijecaaGreatDoorPackKmemNew21
import Derived.Test.YtbidkghlpijecaaGreatDoorPackKmemNew8
set_option linter.unusedVariables false
set_option linter.unusedSimpArgs false
namespace Go.Proofs.YtbidkghlpijecaaGreatDoor
open Go.RowKit
set_option maxHeartbeats 4000000 in
theorem SystemCopy_ans (r:SRow) (s:KSystem) (w:World) (hr:RdS w r s) (hs:s.small) :
 Ans Tryz.prog 20 [.agg (encSys r).toArray] w fun v w' => ∃ q,v = .agg (encSys q).toArray∧OwnS w' w.heap.size q s:=by
 refine ans_of Tryz.func20 rfl Tryz.ntmps20 rfl ?_
 refine CW.seq (CW.region (SW.box rfl rfl fun b1 w1 hw hb1b hb1 => ?_))
 refine SW.alloc rfl fun b2 w2 hw2 hb2b hb2 => ?_
 have hb2w:w.heap.size≤b2:=Nat.le_trans hw.size hb2b
 have hne2:b2≠b1:=by have:=hb1.lt;omega
 (replace hw:=Ext.trans hw hw2;replace hb1:=hb1.ext hw2)
 obtain ⟨cs,hc⟩:=hr.caches
 have hwl:=hr.words.len
 have s1:=hs.words
 have s3:=hs.caches
 obtain ⟨c1,c2⟩:=hc.len
 repeat' (first|(refine CW.seq ?_)|(refine Post.seq ?_)|refine SW.nil ?_)
 obtain ⟨K,hK⟩ : ∃ K:Env→World→Prop,K=fun L' w' => ∃ X c1 G b3,subEnv L' [(1,.pointer (some ⟨b1,0,none⟩)),(2,.pointer (some ⟨b2,0,none⟩)),(3,.pointer (some ⟨b3,0,none⟩))]∧Ext w w'∧Blk w' b1 44 (encSys r)∧Blk w' b2 44 (encSys .zero) ∧
  Blk w' b3 44 (encSys ⟨⟨X,r.Words.n,c1⟩,G,.nil⟩)∧Own w' w.heap.size 3 1 encI X r.Words.n c1 s.Words∧OwnH w' w.heap.size G s.Heap∧w.heap.size≤b3∧b1≠b3∧b2≠b3:=⟨_,rfl⟩
 refine CW.cut K ?_ ?_
 ·refine CW.any 8 mixed (rb_tail (by kernel_rfl)) rfl fun w1 hw1 hRB => ?_
  replace hw:=Ext.trans hw hw1;replace hb1:=hb1.ext hw1;replace hb2:=hb2.ext hw1;clear hw1
  refine SA.take 0 hRB rfl (by kernel_rfl) (by kernel_rfl) rfl ?_
  repeat ((show SW _ _ _ _ (⟨_,Op.fieldAddr _ _ _,_,_,_,none⟩::_) _ _;refine SW.st (st_field rfl) rfl ?_))
  refine SW.tknil ?_
  refine SA.take 1 hRB rfl (by kernel_rfl) (by kernel_rfl) rfl ?_
  repeat ((show SW _ _ _ _ (⟨_,Op.load _ _,_,_,_,none⟩::_) _ _;refine SW.st (st_load rfl (hb1.cell rfl)) rfl ?_))
  refine SW.tknil ?_
  refine SA.take 3 hRB rfl (by kernel_rfl) (by kernel_rfl) rfl ?_
  repeat ((show SW _ _ _ _ (⟨_,Op.fieldAddr _ _ _,_,_,_,none⟩::_) _ _;refine SW.st (st_field rfl) rfl ?_))
  refine SW.tknil ?_
  refine SA.take 4 hRB rfl (by kernel_rfl) (by kernel_rfl) rfl ?_
  repeat ((show SW _ _ _ _ (⟨_,Op.load _ _,_,_,_,none⟩::_) _ _;refine SW.st (st_loads rfl rfl ((heapIn hb1))) rfl ?_))
  refine SW.tknil ?_
  refine SA.two 2 7 rfl rfl (by kernel_rfl) rfl rfl ?_ ?_
  ·refine SW.call rfl rfl (words_ans _ _ _ _ _ (hr.words.ext hw) (by omega)) fun v w4 hXX hv => ?_
   obtain ⟨X,c4,rfl,hX⟩:=hv
   replace hX:=hX.low hw.size
   replace hw:=Ext.trans hw hXX
   replace hb1:=hb1.ext hXX
   replace hb2:=hb2.ext hXX
   try replace hb3:=hb3.ext hXX
   refine SW.nil (Post.sa hXX ?_)
   refine SA.two 5 7 rfl rfl (by kernel_rfl) rfl rfl ?_ ?_
   ·refine SW.call rfl rfl (HeapCopy_ans _ _ _ (hr.heap.ext hw) hs.heap) fun v w4 hXX hv => ?_
    obtain ⟨G,rfl,hY⟩:=hv
    replace hY:=hY.low hw.size
    replace hX:=hX.ext hXX
    replace hw:=Ext.trans hw hXX
    replace hb1:=hb1.ext hXX
    replace hb2:=hb2.ext hXX
    try replace hb3:=hb3.ext hXX
    refine SW.nil (Post.sa hXX ?_)
    refine SA.take 6 hRB rfl (by kernel_rfl) (by kernel_rfl) rfl ?_
    repeat ((show SW _ _ _ _ (⟨_,Op.build _ _,_,_,_,none⟩::_) _ _;refine SW.st (st_build rfl rfl) rfl ?_))
    refine SW.tknil ?_
    refine SA.one 7 rfl (by kernel_rfl) rfl ?_
    refine SW.alloc rfl fun b3 w4 hXX hb3b hb3 => ?_
    have hb3w:w.heap.size≤b3:=Nat.le_trans hw.size hb3b
    have hne3:b1≠b3:=by have:=hb1.lt;omega
    have hne4:b2≠b3:=by have:=hb2.lt;omega
    replace hw:=Ext.trans hw hXX
    replace hb1:=hb1.ext hXX
    replace hb2:=hb2.ext hXX
    try replace hX:=hX.ext hXX
    try replace hY:=hY.ext hXX
    refine SW.nil (Post.sa hXX ?_)
    refine SA.done (by kernel_rfl) ?_
    skip
    refine SW.storeAgg hb3 rfl rfl rfl rfl (one_s ⟨⟨X,r.Words.n,c4⟩,G,.nil⟩) fun w5 hR2 hg => ?_
    have hG:=hb3.gr hg
    replace hw:=hw.own hb3w hg
    (replace hX:=hX.grT hG rfl;replace hY:=hY.grT hG rfl)
    replace hb1:=hb1.grown hg (by simpa using hne3)
    replace hb2:=hb2.grown hg (by simpa using hne4)
    repeat' (first|(refine Post.np ?_)|refine SW.nil ?_)
    exact Post.cut (K:=K) (by rw [hK];exact ⟨X,c4,G,b3,⟨rfl,rfl,rfl,trivial⟩,hw,hb1,hb2,hR2,hX,hY,hb3w,hne3,hne4⟩)
   ·refine SW.alloc rfl fun b3 w4 hXX hb3b hb3 => ?_
    have hb3w:w.heap.size≤b3:=Nat.le_trans hw.size hb3b
    have hne3:b1≠b3:=by have:=hb1.lt;omega
    have hne4:b2≠b3:=by have:=hb2.lt;omega
    replace hw:=Ext.trans hw hXX
    replace hb1:=hb1.ext hXX
    replace hb2:=hb2.ext hXX
    try replace hX:=hX.ext hXX
    try replace hY:=hY.ext hXX
    refine SW.nil (Post.sa hXX ?_)
    refine SA.one 5 rfl (by kernel_rfl) rfl ?_
    refine SW.call rfl rfl (HeapCopy_ans _ _ _ (hr.heap.ext hw) hs.heap) fun v w4 hXX hv => ?_
    obtain ⟨G,rfl,hY⟩:=hv
    replace hY:=hY.low hw.size
    replace hX:=hX.ext hXX
    replace hw:=Ext.trans hw hXX
    replace hb1:=hb1.ext hXX
    replace hb2:=hb2.ext hXX
    try replace hb3:=hb3.ext hXX
    refine SW.nil (Post.sa hXX ?_)
    refine SA.take 6 hRB rfl (by kernel_rfl) (by kernel_rfl) rfl ?_
    repeat ((show SW _ _ _ _ (⟨_,Op.build _ _,_,_,_,none⟩::_) _ _;refine SW.st (st_build rfl rfl) rfl ?_))
    refine SW.tknil ?_
    refine SA.done (by kernel_rfl) ?_
    skip
    refine SW.storeAgg hb3 rfl rfl rfl rfl (one_s ⟨⟨X,r.Words.n,c4⟩,G,.nil⟩) fun w5 hR2 hg => ?_
    have hG:=hb3.gr hg
    replace hw:=hw.own hb3w hg
    (replace hX:=hX.grT hG rfl;replace hY:=hY.grT hG rfl)
    replace hb1:=hb1.grown hg (by simpa using hne3)
    replace hb2:=hb2.grown hg (by simpa using hne4)
    repeat' (first|(refine Post.np ?_)|refine SW.nil ?_)
    exact Post.cut (K:=K) (by rw [hK];exact ⟨X,c4,G,b3,⟨rfl,rfl,rfl,trivial⟩,hw,hb1,hb2,hR2,hX,hY,hb3w,hne3,hne4⟩)
  ·refine SW.alloc rfl fun b3 w4 hXX hb3b hb3 => ?_
   have hb3w:w.heap.size≤b3:=Nat.le_trans hw.size hb3b
   have hne3:b1≠b3:=by have:=hb1.lt;omega
   have hne4:b2≠b3:=by have:=hb2.lt;omega
   replace hw:=Ext.trans hw hXX
   replace hb1:=hb1.ext hXX
   replace hb2:=hb2.ext hXX
   try replace hX:=hX.ext hXX
   try replace hY:=hY.ext hXX
   refine SW.nil (Post.sa hXX ?_)
   refine SA.one 2 rfl (by kernel_rfl) rfl ?_
   refine SW.call rfl rfl (words_ans _ _ _ _ _ (hr.words.ext hw) (by omega)) fun v w4 hXX hv => ?_
   obtain ⟨X,c4,rfl,hX⟩:=hv
   replace hX:=hX.low hw.size
   replace hw:=Ext.trans hw hXX
   replace hb1:=hb1.ext hXX
   replace hb2:=hb2.ext hXX
   try replace hb3:=hb3.ext hXX
   refine SW.nil (Post.sa hXX ?_)
   refine SA.one 5 rfl (by kernel_rfl) rfl ?_
   refine SW.call rfl rfl (HeapCopy_ans _ _ _ (hr.heap.ext hw) hs.heap) fun v w4 hXX hv => ?_
   obtain ⟨G,rfl,hY⟩:=hv
   replace hY:=hY.low hw.size
   replace hX:=hX.ext hXX
   replace hw:=Ext.trans hw hXX
   replace hb1:=hb1.ext hXX
   replace hb2:=hb2.ext hXX
   try replace hb3:=hb3.ext hXX
   refine SW.nil (Post.sa hXX ?_)
   refine SA.take 6 hRB rfl (by kernel_rfl) (by kernel_rfl) rfl ?_
   repeat ((show SW _ _ _ _ (⟨_,Op.build _ _,_,_,_,none⟩::_) _ _;refine SW.st (st_build rfl rfl) rfl ?_))
   refine SW.tknil ?_
   refine SA.done (by kernel_rfl) ?_
   skip
   refine SW.storeAgg hb3 rfl rfl rfl rfl (one_s ⟨⟨X,r.Words.n,c4⟩,G,.nil⟩) fun w5 hR2 hg => ?_
   have hG:=hb3.gr hg
   replace hw:=hw.own hb3w hg
   (replace hX:=hX.grT hG rfl;replace hY:=hY.grT hG rfl)
   replace hb1:=hb1.grown hg (by simpa using hne3)
   replace hb2:=hb2.grown hg (by simpa using hne4)
   repeat' (first|(refine Post.np ?_)|refine SW.nil ?_)
   exact Post.cut (K:=K) (by rw [hK];exact ⟨X,c4,G,b3,⟨rfl,rfl,rfl,trivial⟩,hw,hb1,hb2,hR2,hX,hY,hb3w,hne3,hne4⟩)
 ·clear hb1 hb2 hw
  subst hK
  rintro L' w' ⟨X,c4,G,b3,hsub,hw,hb1,hb2,hb3,hX,hY,hb3w,hne3,hne4⟩
  refine Post.sub hsub ?_
  repeat' (first|(first|refine CW.seq ?_|refine CW.region ?_|refine CW.block ?_)|(refine Post.seq ?_)|refine SW.nil ?_|refine SW.pure rfl rfl ?_)
  refine CW.loop (fun s:Nat×Option Addr×Nat×List CRow=>[(1,.pointer (some ⟨b1,0,none⟩)),(2,.pointer (some ⟨b2,0,none⟩)),(3,.pointer (some ⟨b3,0,none⟩)),(4,.int .i64 (s.1:Int))])
   (fun t w'=>t.1≤r.Caches.n∧Ext w w'∧Blk w' b1 44 (encSys r)∧Blk w' b2 44 (encSys .zero)∧Blk w' b3 44 (encSys ⟨⟨X,r.Words.n,c4⟩,G,⟨t.2.1,t.1,t.2.2.1⟩⟩)∧Own w' w.heap.size 3 1 encI X r.Words.n c4 s.Words∧OwnH w' w.heap.size G s.Heap ∧
     OwnCs w' w.heap.size ⟨t.2.1,t.1,t.2.2.1⟩ t.2.2.2 (s.Caches.take t.1)) (fun t=>r.Caches.n-t.1) (0,none,0,[]) ⟨rfl,rfl,rfl,rfl,trivial⟩ ⟨by omega,hw,hb1,hb2,hb3,hX,hY,OwnCs.nil _ _⟩ ?_
  clear hb1 hb2 hb3 hX hY hw hsub
  rintro ⟨k,A,c,zr⟩ w' ⟨hk,hw,hb1,hb2,hb3,hX,hY,hO⟩
  simp only at hk hb3 hO ⊢
  have hA:=hc.row.base
  by_cases hkn:k<r.Caches.n
  ·have hkc:k<cs.length:=by omega
   have hks:k<s.Caches.length:=by omega
   have hck:=hc.each.get k hkc hks
   have q:=hs.each _ (List.getElem_mem hks)
   have q1:=hck.names.len
   have q2:=hck.slabs.len
   have q3:=hck.active.len
   have q4:=q.names
   have q5:=q.slabs
   have q6:=q.active
   have hlt5:=hO.row.lt_size
   repeat' (first|(first|refine CW.seq ?_|refine CW.region ?_|refine CW.block ?_|refine CW.condd_t rfl (by omega) ?_|refine CW.skip ?_)|(refine Post.seq ?_)|refine SW.nil ?_|refine SW.pure rfl rfl ?_|(show SW _ _ _ _ (⟨_,Op.fieldAddr _ _ _,_,_,_,none⟩::_) _ _;refine SW.st (st_field rfl) rfl ?_)|(show SW _ _ _ _ (⟨_,Op.indexAddr _ _ _,_,_,_,none⟩::_) _ _;refine SW.st (st_indexN rfl rfl (by assumption) (by omega)) rfl ?_)|(show SW _ _ _ _ (⟨_,Op.call ⟨.builtin .len,_,_⟩,_,_,_,none⟩::_) _ _;refine SW.st (st_len rfl) rfl ?_)|(show SW _ _ _ _ (⟨_,Op.load _ _,_,_,_,none⟩::_) _ _;first|refine SW.st (st_load rfl (hb1.cell rfl)) rfl ?_|refine SW.st (st_loadsx hw rfl rfl ((hc.row.all hkn))) rfl ?_))
   refine SW.alloc rfl fun b5 w1 hw1 hb5b hb5 => ?_
   skip
   refine SW.storeAgg hb5 rfl rfl rfl rfl (one_c _) fun w2 hb5' hg => ?_
   have hXX:=hw1.own hb5b hg
   have hb5w:w.heap.size≤b5:=Nat.le_trans hw.size hb5b
   replace hw:=Ext.trans hw hXX
   replace hb1:=hb1.ext hXX
   replace hb2:=hb2.ext hXX
   replace hb3:=hb3.ext hXX
   replace hX:=hX.ext hXX
   replace hY:=hY.ext hXX
   replace hO:=hO.ext hXX
   replace hb5:=hb5'
   clear hb5' hw1 hg hXX
   repeat' (first|(first|refine CW.seq ?_|refine CW.region ?_|refine CW.block ?_)|(refine Post.seq ?_)|refine SW.nil ?_|refine SW.pure rfl rfl ?_)
   have hwA:Ext w w2:=hw
   refine CW.loop (fun t:Nat×Option Addr×Nat=>[(1,.pointer (some ⟨b1,0,none⟩)),(2,.pointer (some ⟨b2,0,none⟩)),(3,.pointer (some ⟨b3,0,none⟩)),(4,.int .i64 (k:Int)),(5,.pointer (some ⟨b5,0,none⟩)),(6,.slice t.2.1 t.1 t.2.2),(7,.int .i64 (t.1:Int))])
    (fun t w'=>t.1≤cs[k].Names.n∧Ext w2 w'∧Own w' w2.heap.size 9 1 encStr t.2.1 t.1 t.2.2 (s.Caches[k].Names.take t.1)) (fun t=>cs[k].Names.n-t.1) (0,none,0) ⟨rfl,rfl,rfl,rfl,rfl,rfl,rfl,trivial⟩ ⟨by omega,Ext.refl _,by simpa using Own.nil_ _ _ _ _ _ _⟩ ?_
   clear hw
   rintro ⟨j,B,d⟩ w3 ⟨hj,hw,hB⟩
   simp only at hj hB ⊢
   have hA1:=hck.names.base
   by_cases hjn:j<cs[k].Names.n
   ·repeat' (first|(first|refine CW.seq ?_|refine CW.region ?_|refine CW.block ?_|refine CW.condd_t rfl (by omega) ?_|refine CW.skip ?_)|(refine Post.seq ?_)|refine SW.nil ?_|refine SW.pure rfl rfl ?_|(show SW _ _ _ _ (⟨_,Op.fieldAddr _ _ _,_,_,_,none⟩::_) _ _;refine SW.st (st_field rfl) rfl ?_)|(show SW _ _ _ _ (⟨_,Op.indexAddr _ _ _,_,_,_,none⟩::_) _ _;refine SW.st (st_indexN rfl rfl (by assumption) (by omega)) rfl ?_)|(show SW _ _ _ _ (⟨_,Op.call ⟨.builtin .len,_,_⟩,_,_,_,none⟩::_) _ _;refine SW.st (st_len rfl) rfl ?_)|(show SW _ _ _ _ (⟨_,Op.load _ _,_,_,_,none⟩::_) _ _;first|refine SW.st (st_loadx hw rfl (hb5.cell (i:=0) (v := .slice cs[k].Names.A cs[k].Names.n cs[k].Names.c) rfl)) rfl ?_|refine SW.st (st_loadx hw rfl ((hck.names.ext hwA).one hjn rfl)) rfl ?_))
    refine SW.build1 rfl rfl rfl rfl rfl fun b w1 hw1 hb hBb => ?_
    replace hw:=Ext.trans hw hw1
    replace hB:=hB.ext hw1
    refine SW.append hB (Blk.sl1 (enc:=encStr) hBb) hw.size rfl rfl rfl (by omega) (by omega) fun A2 c2 w4 hO1 hg => ?_
    replace hw:=ext_grown hw hg (Nat.le_refl _) hB.row_ge
    repeat' (first|(refine CW.region ?_)|(first|refine Post.seq ?_|refine Post.blk ?_)|refine SW.nil ?_|refine SW.pure rfl rfl ?_|(show SW _ _ _ _ (⟨_,Op.binOp _ _ _ _ _,_,_,_,none⟩::_) _ _;refine SW.st (st_add rfl rfl (by omega) (by omega)) rfl ?_))
    refine Post.again (j+1,A2,c2) ⟨rfl,rfl,rfl,rfl,rfl,rfl,rfl,trivial⟩ (by simp only;omega) ⟨by simp only;omega,hw,?_⟩
    rw [List.take_succ_eq_append_getElem (by omega)]
    exact hO1
   ·obtain rfl:j=cs[k].Names.n:=by omega
    rw [List.take_of_length_le (by omega)] at hB
    repeat' (first|(first|refine CW.seq ?_|refine CW.region ?_|refine CW.block ?_|refine CW.condd_f rfl (by omega) ?_|refine CW.exit ?_)|(first|refine Post.seq ?_|refine Post.seq_exit ?_|refine Post.hit ?_|refine Post.again_exit ?_)|refine SW.nil ?_|refine SW.pure rfl rfl ?_|(show SW _ _ _ _ (⟨_,Op.fieldAddr _ _ _,_,_,_,none⟩::_) _ _;refine SW.st (st_field rfl) rfl ?_)|(show SW _ _ _ _ (⟨_,Op.call ⟨.builtin .len,_,_⟩,_,_,_,none⟩::_) _ _;refine SW.st (st_len rfl) rfl ?_)|(show SW _ _ _ _ (⟨_,Op.load _ _,_,_,_,none⟩::_) _ _;refine SW.st (st_loadx hw rfl (hb5.cell (i:=0) (v := .slice cs[k].Names.A cs[k].Names.n cs[k].Names.c) rfl)) rfl ?_))
    have hwN:=hw
    replace hw:=hwA
    (replace hw:=Ext.trans hw hwN;replace hb1:=hb1.ext hwN;replace hb2:=hb2.ext hwN;replace hb3:=hb3.ext hwN;replace hb5:=hb5.ext hwN;replace hX:=hX.ext hwN;replace hY:=hY.ext hwN;replace hO:=hO.ext hwN)
    replace hB:=hB.low hwA.size
    have hwB:Ext w w3:=hw
    refine CW.loop (fun t:Nat×Option Addr×Nat=>[(1,.pointer (some ⟨b1,0,none⟩)),(2,.pointer (some ⟨b2,0,none⟩)),(3,.pointer (some ⟨b3,0,none⟩)),(4,.int .i64 (k:Int)),(5,.pointer (some ⟨b5,0,none⟩)),(6,.slice B cs[k].Names.n d),(8,.slice t.2.1 t.1 t.2.2),(9,.int .i64 (t.1:Int))])
     (fun t w'=>t.1≤cs[k].Slabs.n∧Ext w3 w'∧Own w' w3.heap.size 91 3 encSb t.2.1 t.1 t.2.2 (s.Caches[k].Slabs.take t.1)) (fun t=>cs[k].Slabs.n-t.1) (0,none,0) ⟨rfl,rfl,rfl,rfl,rfl,rfl,rfl,rfl,trivial⟩ ⟨by omega,Ext.refl _,by simpa using Own.nil_ _ _ _ _ _ _⟩ ?_
    clear hw hwN
    rintro ⟨j,M,m⟩ w4 ⟨hj,hw,hM⟩
    simp only at hj hM ⊢
    have hA2:=hck.slabs.base
    by_cases hjn:j<cs[k].Slabs.n
    ·repeat' (first|(first|refine CW.seq ?_|refine CW.region ?_|refine CW.block ?_|refine CW.condd_t rfl (by omega) ?_|refine CW.skip ?_)|(refine Post.seq ?_)|refine SW.nil ?_|refine SW.pure rfl rfl ?_|(show SW _ _ _ _ (⟨_,Op.fieldAddr _ _ _,_,_,_,none⟩::_) _ _;refine SW.st (st_field rfl) rfl ?_)|(show SW _ _ _ _ (⟨_,Op.indexAddr _ _ _,_,_,_,none⟩::_) _ _;refine SW.st (st_indexN rfl rfl (by assumption) (by omega)) rfl ?_)|(show SW _ _ _ _ (⟨_,Op.call ⟨.builtin .len,_,_⟩,_,_,_,none⟩::_) _ _;refine SW.st (st_len rfl) rfl ?_)|(show SW _ _ _ _ (⟨_,Op.load _ _,_,_,_,none⟩::_) _ _;first|refine SW.st (st_loadx hw rfl (hb5.cell (i:=4) (v := .slice cs[k].Slabs.A cs[k].Slabs.n cs[k].Slabs.c) rfl)) rfl ?_|refine SW.st (st_loadsx hw rfl rfl (((hck.slabs.ext hwB).all hjn))) rfl ?_))
     refine SW.build1 rfl rfl rfl rfl rfl fun b w1 hw1 hb hBb => ?_
     replace hw:=Ext.trans hw hw1
     replace hM:=hM.ext hw1
     refine SW.append hM (Blk.sl1 (enc:=encSb) hBb) hw.size rfl rfl rfl (by omega) (by omega) fun A2 c2 w5 hO1 hg => ?_
     replace hw:=ext_grown hw hg (Nat.le_refl _) hM.row_ge
     repeat' (first|(refine CW.region ?_)|(first|refine Post.seq ?_|refine Post.blk ?_)|refine SW.nil ?_|refine SW.pure rfl rfl ?_|(show SW _ _ _ _ (⟨_,Op.binOp _ _ _ _ _,_,_,_,none⟩::_) _ _;refine SW.st (st_add rfl rfl (by omega) (by omega)) rfl ?_))
     refine Post.again (j+1,A2,c2) ⟨rfl,rfl,rfl,rfl,rfl,rfl,rfl,rfl,trivial⟩ (by simp only;omega) ⟨by simp only;omega,hw,?_⟩
     rw [List.take_succ_eq_append_getElem (by omega)]
     exact hO1
    ·obtain rfl:j=cs[k].Slabs.n:=by omega
     rw [List.take_of_length_le (by omega)] at hM
     repeat' (first|(first|refine CW.seq ?_|refine CW.region ?_|refine CW.condd_f rfl (by omega) ?_|refine CW.exit ?_)|(first|refine Post.seq ?_|refine Post.seq_exit ?_|refine Post.hit ?_|refine Post.again_exit ?_)|refine SW.nil ?_|refine SW.pure rfl rfl ?_|(show SW _ _ _ _ (⟨_,Op.fieldAddr _ _ _,_,_,_,none⟩::_) _ _;refine SW.st (st_field rfl) rfl ?_)|(show SW _ _ _ _ (⟨_,Op.call ⟨.builtin .len,_,_⟩,_,_,_,none⟩::_) _ _;refine SW.st (st_len rfl) rfl ?_)|(show SW _ _ _ _ (⟨_,Op.load _ _,_,_,_,none⟩::_) _ _;refine SW.st (st_loadx hw rfl (hb5.cell (i:=4) (v := .slice cs[k].Slabs.A cs[k].Slabs.n cs[k].Slabs.c) rfl)) rfl ?_))
     have hwN:=hw
     replace hw:=hwB
     (replace hw:=Ext.trans hw hwN;replace hb1:=hb1.ext hwN;replace hb2:=hb2.ext hwN;replace hb3:=hb3.ext hwN;replace hb5:=hb5.ext hwN;replace hX:=hX.ext hwN;replace hY:=hY.ext hwN;replace hO:=hO.ext hwN;replace hB:=hB.ext hwN)
     replace hM:=hM.low hwB.size
     refine SW.storeB (i:=0) hb5 rfl rfl rfl rfl fun w6 hb5' hg => ?_
     have hG:=hb5.gr hg
     replace hw:=hw.own hb5w hg
     replace hO:=hO.blk hb5 hg hlt5 hb5b
     (replace hb1:=hb1.grT hG rfl;replace hb2:=hb2.grT hG rfl;replace hb3:=hb3.grT hG rfl;replace hX:=hX.grT hG rfl;replace hY:=hY.grT hG rfl;replace hB:=hB.grT hG rfl;replace hM:=hM.grT hG rfl)
     replace hb5:=hb5'
     clear hb5' hg hG
     repeat' (first|(first|refine CW.seq ?_|refine CW.region ?_)|(refine Post.seq ?_)|refine SW.nil ?_|refine SW.pure rfl rfl ?_|(show SW _ _ _ _ (⟨_,Op.fieldAddr _ _ _,_,_,_,none⟩::_) _ _;refine SW.st (st_field rfl) rfl ?_))
     refine SW.storeB (i:=4) hb5 rfl rfl rfl rfl fun w6 hb5' hg => ?_
     have hG:=hb5.gr hg
     replace hw:=hw.own hb5w hg
     replace hO:=hO.blk hb5 hg hlt5 hb5b
     (replace hb1:=hb1.grT hG rfl;replace hb2:=hb2.grT hG rfl;replace hb3:=hb3.grT hG rfl;replace hX:=hX.grT hG rfl;replace hY:=hY.grT hG rfl;replace hB:=hB.grT hG rfl;replace hM:=hM.grT hG rfl)
     replace hb5:=hb5'
     clear hb5' hg hG
     repeat' (first|(first|refine CW.seq ?_|refine CW.region ?_)|(refine Post.seq ?_)|refine SW.nil ?_|(show SW _ _ _ _ (⟨_,Op.fieldAddr _ _ _,_,_,_,none⟩::_) _ _;refine SW.st (st_field rfl) rfl ?_)|(show SW _ _ _ _ (⟨_,Op.load _ _,_,_,_,none⟩::_) _ _;refine SW.st (st_load rfl (hb5.cell (i:=5) (v := .slice cs[k].Active.A cs[k].Active.n cs[k].Active.c) rfl)) rfl ?_))
     refine SW.call rfl rfl (words_ans _ _ _ _ _ (hck.active.ext hw) (by omega)) fun v w7 hXX hv => ?_
     obtain ⟨Q,q7,rfl,hQ⟩:=hv
     replace hQ:=hQ.low hw.size
     (replace hw:=Ext.trans hw hXX;replace hb1:=hb1.ext hXX;replace hb2:=hb2.ext hXX;replace hb3:=hb3.ext hXX;replace hb5:=hb5.ext hXX;replace hX:=hX.ext hXX;replace hY:=hY.ext hXX;replace hO:=hO.ext hXX;replace hB:=hB.ext hXX;replace hM:=hM.ext hXX)
     repeat' ((show SW _ _ _ _ (⟨_,Op.fieldAddr _ _ _,_,_,_,none⟩::_) _ _;refine SW.st (st_field rfl) rfl ?_))
     refine SW.storeB (i:=5) hb5 rfl rfl rfl rfl fun w6 hb5' hg => ?_
     have hG:=hb5.gr hg
     replace hw:=hw.own hb5w hg
     replace hO:=hO.blk hb5 hg hlt5 hb5b
     (replace hb1:=hb1.grT hG rfl;replace hb2:=hb2.grT hG rfl;replace hb3:=hb3.grT hG rfl;replace hX:=hX.grT hG rfl;replace hY:=hY.grT hG rfl;replace hB:=hB.grT hG rfl;replace hM:=hM.grT hG rfl;replace hQ:=hQ.grT hG rfl)
     replace hb5:=hb5'
     clear hb5' hg hG
     repeat' (first|(refine CW.region ?_)|(refine Post.seq ?_)|refine SW.nil ?_|(show SW _ _ _ _ (⟨_,Op.fieldAddr _ _ _,_,_,_,none⟩::_) _ _;refine SW.st (st_field rfl) rfl ?_)|(show SW _ _ _ _ (⟨_,Op.load _ _,_,_,_,none⟩::_) _ _;first|refine SW.st (st_load rfl (hb3.cell rfl)) rfl ?_|refine SW.st (st_loads rfl rfl ((fun _ _=>hb5.cell))) rfl ?_))
     refine SW.build1 rfl rfl rfl rfl rfl fun b w6 hXX hb hBb => ?_
     (replace hw:=Ext.trans hw hXX;replace hb1:=hb1.ext hXX;replace hb2:=hb2.ext hXX;replace hb3:=hb3.ext hXX;replace hX:=hX.ext hXX;replace hY:=hY.ext hXX;replace hO:=hO.ext hXX;replace hB:=hB.ext hXX;replace hM:=hM.ext hXX;replace hQ:=hQ.ext hXX)
     refine SW.append hO.row (Blk.sl1 (enc:=encC) (x:=⟨⟨B,_,d⟩,cs[k].Size,cs[k].Per,cs[k].Order,⟨M,_,m⟩,⟨Q,_,q7⟩⟩) hBb) hw.size rfl rfl rfl (by simp only;omega) (by simp only;omega) fun A2 c2 w5 hO1 hg => ?_
     have hG:=hO.row.gr hg
     replace hw:=ext_grown hw hg (Nat.le_refl _) hO.row.row_ge
     (replace hb1:=hb1.grT hG rfl;replace hb2:=hb2.grT hG rfl;replace hb3:=hb3.grT hG rfl;replace hX:=hX.grT hG rfl;replace hY:=hY.grT hG rfl;replace hB:=hB.grT hG rfl;replace hM:=hM.grT hG rfl;replace hQ:=hQ.grT hG rfl)
     have hE:=hO.each.mono fun _ _ h=>h.grT hG rfl
     repeat' ((show SW _ _ _ _ (⟨_,Op.fieldAddr _ _ _,_,_,_,none⟩::_) _ _;refine SW.st (st_field rfl) rfl ?_))
     refine SW.storeB (i:=6) hb3 rfl rfl rfl rfl fun w6 hb3' hg => ?_
     have hG:=hb3.gr hg
     replace hw:=hw.own hb3w hg
     replace hb1:=hb1.grown hg (by simpa using hne3)
     replace hb2:=hb2.grown hg (by simpa using hne4)
     (replace hX:=hX.grT hG rfl;replace hY:=hY.grT hG rfl;replace hB:=hB.grT hG rfl;replace hM:=hM.grT hG rfl;replace hQ:=hQ.grT hG rfl;replace hO1:=hO1.grT hG rfl)
     replace hE:=hE.mono fun _ _ h=>h.grT hG rfl
     repeat' (first|(refine CW.region ?_)|(first|refine Post.seq ?_|refine Post.blk ?_)|refine SW.nil ?_|refine SW.pure rfl rfl ?_|(show SW _ _ _ _ (⟨_,Op.binOp _ _ _ _ _,_,_,_,none⟩::_) _ _;refine SW.st (st_add rfl rfl (by omega) (by omega)) rfl ?_))
     refine Post.again (k+1,A2,c2,zr++[⟨⟨B,_,d⟩,cs[k].Size,cs[k].Per,cs[k].Order,⟨M,_,m⟩,⟨Q,_,q7⟩⟩]) ⟨rfl,rfl,rfl,rfl,trivial⟩ (by simp only;omega) ⟨by simp only;omega,hw,hb1,hb2,hb3',hX,hY,⟨hO1,?_⟩⟩
     rw [List.take_succ_eq_append_getElem (by omega)]
     exact hE.snoc ⟨hck.size,hck.per,hck.order,hB,hM,hQ⟩
  ·obtain rfl:k=r.Caches.n:=by omega
   rw [List.take_of_length_le (by omega)] at hO
   repeat' (first|(first|refine CW.seq ?_|refine CW.region ?_|refine CW.condd_f rfl (by omega) ?_|refine CW.exit ?_)|(first|refine Post.seq ?_|refine Post.seq_exit ?_|refine Post.hit ?_|refine Post.again_exit ?_)|refine SW.nil ?_|refine SW.pure rfl rfl ?_|(show SW _ _ _ _ (⟨_,Op.fieldAddr _ _ _,_,_,_,none⟩::_) _ _;refine SW.st (st_field rfl) rfl ?_)|(show SW _ _ _ _ (⟨_,Op.call ⟨.builtin .len,_,_⟩,_,_,_,none⟩::_) _ _;refine SW.st (st_len rfl) rfl ?_)|(show SW _ _ _ _ (⟨_,Op.load _ _,_,_,_,none⟩::_) _ _;first|refine SW.st (st_load rfl (hb1.cell rfl)) rfl ?_|refine SW.st (st_loads rfl rfl ((fun _ _=>hb3.cell))) rfl ?_))
   refine SW.storeAgg hb2 rfl rfl rfl rfl (one_s _) fun w5 hR2 hg => ?_
   have hG:=hb2.gr hg
   replace hw:=hw.own hb2w hg
   (replace hX:=hX.grT hG rfl;replace hY:=hY.grT hG rfl;replace hO:=hO.grT hG rfl)
   repeat' (first|(refine CW.ret ?_)|(refine Post.seq ?_)|refine SW.nil ?_)
   exact Post.ret1c rfl rfl hR2 rfl ⟨_,rfl,hw,⟨_,G,_⟩,rfl,hX,hY,zr,hO⟩
open Go.RowKit
section
variable {P:Program} {n:Nat} {ops:Array Oper} {Q:Exit→Act→World→Prop} {rest:List Oper} {L:Env} {w:World}
theorem wp_cutq {o:Oper} {a:Act} {K:Env→World→Prop} {N:Act→World→Prop} (h:o.wp P a w N (CutQ n K Q)) : o.wp P a w N Q:=by
 unfold Oper.wp at *
 generalize (execOp a.eval o).run P w=r at *
 cases r with
 | ok x w' =>
   cases x<;>simp only [Oper.upon] at h ⊢
   case value=>exact h
   case skip=>exact h
   case defer=>exact h
   case row=>exact h
   case enter =>
    refine Calls.mono h fun e w'' he => ?_
    cases e<;>exact he
 | halt x w' =>
   cases x<;>simp only [Oper.upon] at h ⊢
   all_goals exact h
theorem wpList_cutq {K:Env→World→Prop} (k:∀ L' w',K L' w'→Post n Q .normal L' w') : ∀ (rest:List Oper) (a:Act) (w:World),wpList P ops (CutQ n K Q) rest a w→wpList P ops Q rest a w
 | [],a,w,h=>by obtain ⟨L',hf,hk⟩:=h;exact (k L' w hk).out a hf
 | o::rest,a,w,h=>by
   simp only [wpList] at h ⊢
   split
   ·rename_i hw
    rw [if_pos hw] at h
    rcases h with h|⟨h1,h2⟩
    ·exact .inl (Oper.wp_mono (fun a w=>wpList_cutq k rest a w) (wp_cutq h))
    ·exact .inr ⟨h1,h2⟩
   ·rename_i hw
    rw [if_neg hw] at h
    exact wpList_cutq k rest _ _ h
theorem SW.cutq (K:Env→World→Prop) (h:SW P n ops (.eff (CutQ n K Q)) rest L w) (k:∀ L' w',K L' w'→Post n Q .normal L' w') : SW P n ops (.eff Q) rest L w :=
 ⟨fun a ha=>wpList_cutq k rest a w (h.out a ha)⟩
end
end Go.Proofs.YtbidkghlpijecaaGreatDoor
