/-
  Texts of the claim SlabDestroys, part 4: what its theorem leans on.
-/
import Derived.Test.YtigikedbffjeiaaGreatPackSlabDestroys3
import Derived.Test.YtigikedbffjeiaaGreatPackSlabDestroys2
import Derived.Test.YtigikedbffjeiaaGreatPackSlabDestroys1
set_option linter.unusedVariables false
set_option linter.unusedSimpArgs false
namespace Go.Proofs.YtigikedbffjeiaaGreat
open Go.RowKit
theorem one_h (r:HRow) : ∀ v∈encH r,v.oneCell'=true:=Enc.one (enc:=encH) r
theorem one_l (r:LRow) : ∀ v∈encL r,v.oneCell'=true:=Enc.one (enc:=encL) r
def SepL (ls:List LRow) : Prop := ∀ (i j:Nat) (hi:i<ls.length) (hj:j<ls.length),i≠j → ∀ g,ownB ls[i].Pages.A ls[i].Pages.c=some g→ownB ls[j].Pages.A ls[j].Pages.c≠some g
structure SepM (m:Sli) (zs:List ZRow) (ls:List LRow) : Prop where
 mins:∀ (i:Nat) (hi:i<ls.length) (g:Nat),ownB ls[i].Pages.A ls[i].Pages.c=some g→ownB m.A m.c≠some g
 types:∀ (i:Nat) (hi:i<ls.length) (g:Nat),ownB ls[i].Pages.A ls[i].Pages.c=some g → ∀ u∈zs,ownB u.Types.A u.Types.c≠some g
 sep:SepL ls
theorem SepM.nil (m:Sli) (zs:List ZRow) : SepM m zs []:=⟨fun i hi=>by simp at hi,fun i hi=>by simp at hi,fun i j hi=>by simp at hi⟩
theorem SepM.snoc {w:World} {lo:Nat} {m:Sli} {zs:List ZRow} {ls:List LRow} {s li:Sli} {x:List Int} {zl:List Zone} {L:List PList} {y:LRow} (h:SepM m zs ls) (hm:Own w lo 3 1 encI m.A m.n m.c x) (hz:OwnZs w lo s zs zl) (hl:OwnLs w lo li ls L) (hy:∀ g,ownB y.Pages.A y.Pages.c=some g→w.heap.size≤g) : SepM m zs (ls++[y]):=by
 have hlt:∀ (i:Nat) (hi:i<ls.length) (g:Nat),ownB ls[i].Pages.A ls[i].Pages.c=some g→g<w.heap.size:=fun i hi g e=>(hl.each.get i hi (by rw [← hl.each.len];exact hi)).pages.lt_size g e
 have key:∀ (i:Nat) (hi:i<(ls++[y]).length),(∃ h:i<ls.length,(ls++[y])[i]=ls[i])∨(i=ls.length∧(ls++[y])[i]=y):=fun i hi=>by
  by_cases e:i<ls.length
  ·exact .inl ⟨e,List.getElem_append_left e⟩
  ·have:i=ls.length:=by simp at hi;omega
   subst this
   exact .inr ⟨rfl,by simp⟩
 refine ⟨fun i hi g e => ?_,fun i hi g e u hu => ?_,fun i j hi hj hij g e e2 => ?_⟩
 ·rcases key i hi with ⟨h1,h2⟩|⟨h1,h2⟩
  ·rw [h2] at e;exact h.mins i h1 g e
  ·rw [h2] at e;intro e3;have:=hm.lt_size g e3;have:=hy g e;omega
 ·rcases key i hi with ⟨h1,h2⟩|⟨h1,h2⟩
  ·rw [h2] at e;exact h.types i h1 g e u hu
  ·rw [h2] at e
   intro e3
   obtain ⟨j,hj,rfl⟩:=List.getElem_of_mem hu
   have:=(hz.each.get j hj (by rw [← hz.each.len];exact hj)).types.lt_size g e3
   have:=hy g e
   omega
 ·rcases key i hi with ⟨h1,h2⟩|⟨h1,h2⟩
  ·rw [h2] at e
   rcases key j hj with ⟨h3,h4⟩|⟨h3,h4⟩
   ·rw [h4] at e2;exact h.sep i j h1 h3 hij g e e2
   ·rw [h4] at e2;have:=hlt i h1 g e;have:=hy g e2;omega
  ·rw [h2] at e
   rcases key j hj with ⟨h3,h4⟩|⟨h3,h4⟩
   ·rw [h4] at e2;have:=hlt j h3 g e2;have:=hy g e;omega
   ·omega
def SepF (lv:Sli) (zs:List ZRow) : Prop := ∀ u∈zs,∀ g,ownB u.Free.A u.Free.c=some g→ownB lv.A lv.c≠some g
theorem SepF.nil (lv:Sli) : SepF lv []:=fun u hu=>by simp at hu
theorem SepF.snoc {w:World} {lo:Nat} {lv:Sli} {zs:List ZRow} {x:List Block} {u:ZRow} (h:SepF lv zs) (hl:Own w lo 94 3 encBk lv.A lv.n lv.c x) (hu:∀ g,ownB u.Free.A u.Free.c=some g→w.heap.size≤g) : SepF lv (zs++[u]):=fun y hy g e e2=>by
 rcases List.mem_append.1 hy with hy|hy
 ·exact h y hy g e e2
 ·simp at hy;subst hy
  have:=hu g e
  have:=hl.lt_size g e2
  omega
structure OwnHS (w:World) (lo:Nat) (r:HRow) (h:Heap) : Prop where
 own:OwnH w lo r h
 all:∃ zs ls,OwnZs w lo r.Zones zs h.Zones∧OwnLs w lo r.Lists ls h.Lists∧SepM r.Mins zs ls∧SepF r.Live zs
set_option maxHeartbeats 4000000 in
theorem HcopyS_ans (r:HRow) (h:Heap) (w:World) (hr:RdH w r h) (hs:h.small) :
  Ans Tryz.prog 63 [.agg (encH r).toArray] w fun v w' => ∃ s,v = .agg (encH s).toArray∧OwnHS w' w.heap.size s h:=by
 refine ans_of Tryz.func63 rfl Tryz.ntmps63 rfl ?_
 refine CW.seq (CW.region (SW.box rfl rfl fun b1 w1 hw hb1b hb1 => ?_))
 refine SW.alloc rfl fun b2 w2 hw2 hb2b hb2 => ?_
 have hb2w:w.heap.size≤b2:=Nat.le_trans hw.size hb2b
 have hne2:b2≠b1:=by have:=hb1.lt;omega
 (replace hw:=Ext.trans hw hw2;replace hb1:=hb1.ext hw2)
 obtain ⟨zs,hz⟩:=hr.zones
 obtain ⟨ls,hl⟩:=hr.lists
 have hml:=hr.mins.len
 have hvl:=hr.live.len
 have s1:=hs.mins
 have s2:=hs.live
 have s3:=hs.zones
 have s4:=hs.lists
 obtain ⟨z1,z2⟩:=hz.len
 obtain ⟨l1,l2⟩:=hl.len
 repeat' (first|(refine CW.seq ?_)|(refine Post.seq ?_)|refine SW.nil ?_)
 obtain ⟨K,hK⟩ : ∃ K:Env→World→Prop,K=fun L' w' => ∃ X c1 Y d1 b3,subEnv L' [(1,.pointer (some ⟨b1,0,none⟩)),(2,.pointer (some ⟨b2,0,none⟩)),(3,.pointer (some ⟨b3,0,none⟩))]∧Ext w w'∧Blk w' b1 27 (encH r)∧Blk w' b2 27 (encH .zero) ∧
  Blk w' b3 27 (encH ⟨.nil,⟨X,r.Mins.n,c1⟩,r.Cpus,.nil,⟨Y,r.Live.n,d1⟩⟩)∧Own w' w.heap.size 3 1 encI X r.Mins.n c1 h.Mins∧Own w' w.heap.size 94 3 encBk Y r.Live.n d1 h.Live∧w.heap.size≤b3∧b1≠b3∧b2≠b3:=⟨_,rfl⟩
 refine CW.cut K ?_ ?_
 ·refine CW.any 10 mixed (rb_tail (by kernel_rfl)) rfl fun w1 hw1 hRB => ?_
  replace hw:=Ext.trans hw hw1;replace hb1:=hb1.ext hw1;replace hb2:=hb2.ext hw1;clear hw1
  refine SA.take 0 hRB rfl (by kernel_rfl) (by kernel_rfl) rfl ?_
  repeat ((show SW _ _ _ _ (⟨_,Op.fieldAddr _ _ _,_,_,_,none⟩::_) _ _;refine SW.st (st_field rfl) rfl ?_))
  refine SW.tknil ?_
  refine SA.take 1 hRB rfl (by kernel_rfl) (by kernel_rfl) rfl ?_
  repeat ((show SW _ _ _ _ (⟨_,Op.load _ _,_,_,_,none⟩::_) _ _;refine SW.st (st_load rfl (hb1.cell rfl)) rfl ?_))
  refine SW.tknil ?_
  refine SA.take 3 hRB rfl (by kernel_rfl) (by kernel_rfl) rfl ?_
  repeat ((show SW _ _ _ _ (⟨_,Op.fieldAddr _ _ _,_,_,_,none⟩::_) _ _;refine SW.st (st_field rfl) rfl ?_))
  refine SW.tknil ?_
  refine SA.take 4 hRB rfl (by kernel_rfl) (by kernel_rfl) rfl ?_
  repeat ((show SW _ _ _ _ (⟨_,Op.load _ _,_,_,_,none⟩::_) _ _;refine SW.st (st_load rfl (hb1.cell rfl)) rfl ?_))
  refine SW.tknil ?_
  refine SA.take 5 hRB rfl (by kernel_rfl) (by kernel_rfl) rfl ?_
  repeat ((show SW _ _ _ _ (⟨_,Op.fieldAddr _ _ _,_,_,_,none⟩::_) _ _;refine SW.st (st_field rfl) rfl ?_))
  refine SW.tknil ?_
  refine SA.take 6 hRB rfl (by kernel_rfl) (by kernel_rfl) rfl ?_
  repeat ((show SW _ _ _ _ (⟨_,Op.load _ _,_,_,_,none⟩::_) _ _;refine SW.st (st_load rfl (hb1.cell rfl)) rfl ?_))
  refine SW.tknil ?_
  refine SA.two 2 9 rfl rfl (by kernel_rfl) rfl rfl ?_ ?_
  ·refine SW.call rfl rfl (CloneInt_ans _ _ _ _ _ (hr.mins.ext hw) (by omega)) fun v w4 hXX hv => ?_
   obtain ⟨X,c4,rfl,hX⟩:=hv
   replace hX:=hX.low hw.size
   replace hw:=Ext.trans hw hXX
   replace hb1:=hb1.ext hXX
   replace hb2:=hb2.ext hXX
   try replace hb3:=hb3.ext hXX
   refine SW.nil (Post.sa hXX ?_)
   refine SA.two 7 9 rfl rfl (by kernel_rfl) rfl rfl ?_ ?_
   ·refine SW.call rfl rfl (CloneBlock_ans _ _ _ _ _ (hr.live.ext hw) (by omega)) fun v w4 hXX hv => ?_
    obtain ⟨Y,d4,rfl,hY⟩:=hv
    replace hY:=hY.low hw.size
    replace hX:=hX.ext hXX
    replace hw:=Ext.trans hw hXX
    replace hb1:=hb1.ext hXX
    replace hb2:=hb2.ext hXX
    try replace hb3:=hb3.ext hXX
    refine SW.nil (Post.sa hXX ?_)
    refine SA.take 8 hRB rfl (by kernel_rfl) (by kernel_rfl) rfl ?_
    repeat ((show SW _ _ _ _ (⟨_,Op.build _ _,_,_,_,none⟩::_) _ _;refine SW.st (st_build rfl rfl) rfl ?_))
    refine SW.tknil ?_
    refine SA.one 9 rfl (by kernel_rfl) rfl ?_
    refine SW.alloc rfl fun b3 w4 hXX hb3b hb3 => ?_
    have hb3w:w.heap.size≤b3:=Nat.le_trans hw.size hb3b
    have hne3:b1≠b3:=by have:=hb1.lt;omega
    have hne4:b2≠b3:=by have:=hb2.lt;omega
    replace hw:=Ext.trans hw hXX
    replace hb1:=hb1.ext hXX
    replace hb2:=hb2.ext hXX
    try replace hX:=hX.ext hXX
    try replace hY:=hY.ext hXX
    refine SW.nil (Post.sa hXX ?_)
    refine SA.done (by kernel_rfl) ?_
    skip
    refine SW.storeAgg hb3 rfl rfl rfl rfl (one_h ⟨.nil,⟨X,r.Mins.n,c4⟩,r.Cpus,.nil,⟨Y,r.Live.n,d4⟩⟩) fun w5 hR2 hg => ?_
    have hG:=hb3.gr hg
    replace hw:=hw.own hb3w hg
    (replace hX:=hX.grT hG rfl;replace hY:=hY.grT hG rfl)
    replace hb1:=hb1.grown hg (by simpa using hne3)
    replace hb2:=hb2.grown hg (by simpa using hne4)
    repeat' (first|(refine Post.np ?_)|refine SW.nil ?_)
    exact Post.cut (K:=K) (by rw [hK];exact ⟨X,c4,Y,d4,b3,⟨rfl,rfl,rfl,trivial⟩,hw,hb1,hb2,hR2,hX,hY,hb3w,hne3,hne4⟩)
   ·refine SW.alloc rfl fun b3 w4 hXX hb3b hb3 => ?_
    have hb3w:w.heap.size≤b3:=Nat.le_trans hw.size hb3b
    have hne3:b1≠b3:=by have:=hb1.lt;omega
    have hne4:b2≠b3:=by have:=hb2.lt;omega
    replace hw:=Ext.trans hw hXX
    replace hb1:=hb1.ext hXX
    replace hb2:=hb2.ext hXX
    try replace hX:=hX.ext hXX
    try replace hY:=hY.ext hXX
    refine SW.nil (Post.sa hXX ?_)
    refine SA.one 7 rfl (by kernel_rfl) rfl ?_
    refine SW.call rfl rfl (CloneBlock_ans _ _ _ _ _ (hr.live.ext hw) (by omega)) fun v w4 hXX hv => ?_
    obtain ⟨Y,d4,rfl,hY⟩:=hv
    replace hY:=hY.low hw.size
    replace hX:=hX.ext hXX
    replace hw:=Ext.trans hw hXX
    replace hb1:=hb1.ext hXX
    replace hb2:=hb2.ext hXX
    try replace hb3:=hb3.ext hXX
    refine SW.nil (Post.sa hXX ?_)
    refine SA.take 8 hRB rfl (by kernel_rfl) (by kernel_rfl) rfl ?_
    repeat ((show SW _ _ _ _ (⟨_,Op.build _ _,_,_,_,none⟩::_) _ _;refine SW.st (st_build rfl rfl) rfl ?_))
    refine SW.tknil ?_
    refine SA.done (by kernel_rfl) ?_
    skip
    refine SW.storeAgg hb3 rfl rfl rfl rfl (one_h ⟨.nil,⟨X,r.Mins.n,c4⟩,r.Cpus,.nil,⟨Y,r.Live.n,d4⟩⟩) fun w5 hR2 hg => ?_
    have hG:=hb3.gr hg
    replace hw:=hw.own hb3w hg
    (replace hX:=hX.grT hG rfl;replace hY:=hY.grT hG rfl)
    replace hb1:=hb1.grown hg (by simpa using hne3)
    replace hb2:=hb2.grown hg (by simpa using hne4)
    repeat' (first|(refine Post.np ?_)|refine SW.nil ?_)
    exact Post.cut (K:=K) (by rw [hK];exact ⟨X,c4,Y,d4,b3,⟨rfl,rfl,rfl,trivial⟩,hw,hb1,hb2,hR2,hX,hY,hb3w,hne3,hne4⟩)
  ·refine SW.alloc rfl fun b3 w4 hXX hb3b hb3 => ?_
   have hb3w:w.heap.size≤b3:=Nat.le_trans hw.size hb3b
   have hne3:b1≠b3:=by have:=hb1.lt;omega
   have hne4:b2≠b3:=by have:=hb2.lt;omega
   replace hw:=Ext.trans hw hXX
   replace hb1:=hb1.ext hXX
   replace hb2:=hb2.ext hXX
   try replace hX:=hX.ext hXX
   try replace hY:=hY.ext hXX
   refine SW.nil (Post.sa hXX ?_)
   refine SA.one 2 rfl (by kernel_rfl) rfl ?_
   refine SW.call rfl rfl (CloneInt_ans _ _ _ _ _ (hr.mins.ext hw) (by omega)) fun v w4 hXX hv => ?_
   obtain ⟨X,c4,rfl,hX⟩:=hv
   replace hX:=hX.low hw.size
   replace hw:=Ext.trans hw hXX
   replace hb1:=hb1.ext hXX
   replace hb2:=hb2.ext hXX
   try replace hb3:=hb3.ext hXX
   refine SW.nil (Post.sa hXX ?_)
   refine SA.one 7 rfl (by kernel_rfl) rfl ?_
   refine SW.call rfl rfl (CloneBlock_ans _ _ _ _ _ (hr.live.ext hw) (by omega)) fun v w4 hXX hv => ?_
   obtain ⟨Y,d4,rfl,hY⟩:=hv
   replace hY:=hY.low hw.size
   replace hX:=hX.ext hXX
   replace hw:=Ext.trans hw hXX
   replace hb1:=hb1.ext hXX
   replace hb2:=hb2.ext hXX
   try replace hb3:=hb3.ext hXX
   refine SW.nil (Post.sa hXX ?_)
   refine SA.take 8 hRB rfl (by kernel_rfl) (by kernel_rfl) rfl ?_
   repeat ((show SW _ _ _ _ (⟨_,Op.build _ _,_,_,_,none⟩::_) _ _;refine SW.st (st_build rfl rfl) rfl ?_))
   refine SW.tknil ?_
   refine SA.done (by kernel_rfl) ?_
   skip
   refine SW.storeAgg hb3 rfl rfl rfl rfl (one_h ⟨.nil,⟨X,r.Mins.n,c4⟩,r.Cpus,.nil,⟨Y,r.Live.n,d4⟩⟩) fun w5 hR2 hg => ?_
   have hG:=hb3.gr hg
   replace hw:=hw.own hb3w hg
   (replace hX:=hX.grT hG rfl;replace hY:=hY.grT hG rfl)
   replace hb1:=hb1.grown hg (by simpa using hne3)
   replace hb2:=hb2.grown hg (by simpa using hne4)
   repeat' (first|(refine Post.np ?_)|refine SW.nil ?_)
   exact Post.cut (K:=K) (by rw [hK];exact ⟨X,c4,Y,d4,b3,⟨rfl,rfl,rfl,trivial⟩,hw,hb1,hb2,hR2,hX,hY,hb3w,hne3,hne4⟩)
 ·clear hb1 hb2 hw
  subst hK
  rintro L' w' ⟨X,c4,Y,d4,b3,hsub,hw,hb1,hb2,hb3,hX,hY,hb3w,hne3,hne4⟩
  refine Post.sub hsub ?_
  repeat' (first|(first|refine CW.seq ?_|refine CW.region ?_|refine CW.block ?_)|(refine Post.seq ?_)|refine SW.nil ?_|refine SW.pure rfl rfl ?_|(show SW _ _ _ _ (⟨_,Op.fieldAddr _ _ _,_,_,_,none⟩::_) _ _;refine SW.st (st_field rfl) rfl ?_)|(show SW _ _ _ _ (⟨_,Op.call ⟨.builtin .len,_,_⟩,_,_,_,none⟩::_) _ _;refine SW.st (st_len rfl) rfl ?_)|(show SW _ _ _ _ (⟨_,Op.load _ _,_,_,_,none⟩::_) _ _;refine SW.st (st_load rfl (hb1.cell rfl)) rfl ?_))
  refine CW.loop (fun s:Nat×Option Addr×Nat×List ZRow=>[(1,.pointer (some ⟨b1,0,none⟩)),(2,.pointer (some ⟨b2,0,none⟩)),(3,.pointer (some ⟨b3,0,none⟩)),(18,.slice r.Zones.A r.Zones.n r.Zones.c),(19,.int .i64 (r.Zones.n:Int)),(20,.int .i64 (s.1:Int))])
   (fun s w'=>s.1≤r.Zones.n∧Ext w w'∧Blk w' b1 27 (encH r)∧Blk w' b2 27 (encH .zero)∧Blk w' b3 27 (encH ⟨⟨s.2.1,s.1,s.2.2.1⟩,⟨X,r.Mins.n,c4⟩,r.Cpus,.nil,⟨Y,r.Live.n,d4⟩⟩)∧Own w' w.heap.size 3 1 encI X r.Mins.n c4 h.Mins∧Own w' w.heap.size 94 3 encBk Y r.Live.n d4 h.Live ∧
    OwnZs w' w.heap.size ⟨s.2.1,s.1,s.2.2.1⟩ s.2.2.2 (h.Zones.take s.1)∧SepF ⟨Y,r.Live.n,d4⟩ s.2.2.2) (fun s=>r.Zones.n-s.1) (0,none,0,[]) ⟨rfl,rfl,rfl,rfl,rfl,rfl,trivial⟩ ⟨by omega,hw,hb1,hb2,hb3,hX,hY,OwnZs.nil _ _,SepF.nil _⟩ ?_
  clear hb1 hb2 hb3 hX hY hw hsub
  rintro ⟨k,A,c,zr⟩ w' ⟨hk,hw,hb1,hb2,hb3,hX,hY,hO,hSf⟩
  simp only at hk hb3 hO hSf ⊢
  have hA:=hz.row.base
  by_cases hkn:k<r.Zones.n
  ·have hzk:=hz.each.get k (by omega) (by omega)
   have hin:h.Zones[k]'(by omega)∈h.Zones:=List.getElem_mem _
   have q:=hs.free _ hin
   have q1:=hzk.free.len
   have q2:=hzk.types.len
   repeat' (first|(first|refine CW.seq ?_|refine CW.region ?_|refine CW.block ?_|refine CW.condd_t rfl (by omega) ?_|refine CW.skip ?_)|(refine Post.seq ?_)|refine SW.nil ?_|refine SW.pure rfl rfl ?_|(show SW _ _ _ _ (⟨_,Op.indexAddr _ _ _,_,_,_,none⟩::_) _ _;refine SW.st (st_indexN rfl rfl (by assumption) (by omega)) rfl ?_)|(show SW _ _ _ _ (⟨_,Op.load _ _,_,_,_,none⟩::_) _ _;refine SW.st (st_loadsx hw rfl rfl ((hz.row.all hkn))) rfl ?_))
   refine SW.alloc rfl fun b5 w1 hw1 hb5b hb5 => ?_
   skip
   refine SW.storeAgg hb5 rfl rfl rfl rfl (one_z _) fun w2 hb5' hg => ?_
   have hXX:=hw1.own hb5b hg
   have hb5w:w.heap.size≤b5:=Nat.le_trans hw.size hb5b
   replace hw:=Ext.trans hw hXX
   replace hb1:=hb1.ext hXX
   replace hb2:=hb2.ext hXX
   replace hb3:=hb3.ext hXX
   replace hX:=hX.ext hXX
   replace hY:=hY.ext hXX
   replace hO:=hO.ext hXX
   replace hb5:=hb5'
   clear hb5' hw1 hg hXX
   repeat' (first|(refine Post.seq ?_)|refine SW.nil ?_)
   refine CW.any 5 mixed (rb_tail (by kernel_rfl)) rfl fun w1 hw1 hRB => ?_
   replace hw:=Ext.trans hw hw1;replace hb1:=hb1.ext hw1;replace hb2:=hb2.ext hw1;replace hb3:=hb3.ext hw1;replace hb5:=hb5.ext hw1;replace hX:=hX.ext hw1;replace hY:=hY.ext hw1;replace hO:=hO.ext hw1;clear hw1
   refine SA.take 0 hRB rfl (by kernel_rfl) (by kernel_rfl) rfl ?_
   repeat ((show SW _ _ _ _ (⟨_,Op.fieldAddr _ _ _,_,_,_,none⟩::_) _ _;refine SW.st (st_field rfl) rfl ?_))
   refine SW.tknil ?_
   refine SA.take 1 hRB rfl (by kernel_rfl) (by kernel_rfl) rfl ?_
   repeat ((show SW _ _ _ _ (⟨_,Op.load _ _,_,_,_,none⟩::_) _ _;refine SW.st (st_load rfl (hb3.cell rfl)) rfl ?_))
   refine SW.tknil ?_
   refine SA.take 2 hRB rfl (by kernel_rfl) (by kernel_rfl) rfl ?_
   repeat ((show SW _ _ _ _ (⟨_,Op.load _ _,_,_,_,none⟩::_) _ _;refine SW.st (st_loads rfl rfl ((fun _ _=>hb5.cell))) rfl ?_))
   refine SW.tknil ?_
   refine SA.one 3 rfl (by kernel_rfl) rfl ?_
   refine SW.call rfl rfl (Zcopy_ans _ _ _ (hzk.ext hw) (by omega) (by omega)) fun v w4 hXX hv => ?_
   obtain ⟨s,rfl,hs',e1,e2⟩:=hv
   have hSf':=hSf.snoc (u:=s) hY hs'.free.row_ge
   replace hs':=hs'.low hw.size
   (replace hw:=Ext.trans hw hXX;replace hb1:=hb1.ext hXX;replace hb2:=hb2.ext hXX;replace hb3:=hb3.ext hXX;replace hb5:=hb5.ext hXX;replace hX:=hX.ext hXX;replace hY:=hY.ext hXX;replace hO:=hO.ext hXX)
   refine SW.nil (Post.sa hXX ?_)
   refine SA.one 4 rfl (by kernel_rfl) rfl ?_
   refine SW.build1 rfl rfl rfl rfl rfl fun b w4 hXX hb hB => ?_
   (replace hw:=Ext.trans hw hXX;replace hb1:=hb1.ext hXX;replace hb2:=hb2.ext hXX;replace hb3:=hb3.ext hXX;replace hb5:=hb5.ext hXX;replace hX:=hX.ext hXX;replace hY:=hY.ext hXX;replace hO:=hO.ext hXX;replace hs':=hs'.ext hXX)
   refine SW.nil (Post.sa hXX ?_)
   refine SA.done (by kernel_rfl) ?_
   refine SW.append hO.row (Blk.sl1 (enc:=encZ) hB) hw.size rfl rfl rfl (by simp only;omega) (by simp only;omega) fun A2 c2 w5 hO1 hg => ?_
   have hG:=hO.row.gr hg
   replace hw:=ext_grown hw hg (Nat.le_refl _) hO.row.row_ge
   (replace hb1:=hb1.grT hG rfl;replace hb2:=hb2.grT hG rfl;replace hb3:=hb3.grT hG rfl;replace hX:=hX.grT hG rfl;replace hY:=hY.grT hG rfl;replace hs':=hs'.grT hG rfl)
   have hE:=hO.each.mono fun _ _ h=>h.grT hG rfl
   repeat' ((show SW _ _ _ _ (⟨_,Op.fieldAddr _ _ _,_,_,_,none⟩::_) _ _;refine SW.st (st_field rfl) rfl ?_))
   refine SW.storeB (i:=0) hb3 rfl rfl rfl rfl fun w6 hb3' hg => ?_
   have hG:=hb3.gr hg
   replace hw:=hw.own hb3w hg
   replace hb1:=hb1.grown hg (by simpa using hne3)
   replace hb2:=hb2.grown hg (by simpa using hne4)
   (replace hX:=hX.grT hG rfl;replace hY:=hY.grT hG rfl;replace hs':=hs'.grT hG rfl;replace hO1:=hO1.grT hG rfl)
   replace hE:=hE.mono fun _ _ h=>h.grT hG rfl
   repeat' (first|(refine CW.region ?_)|(first|refine Post.seq ?_|refine Post.blk ?_|refine Post.np ?_)|refine SW.nil ?_|refine SW.pure rfl rfl ?_|(show SW _ _ _ _ (⟨_,Op.binOp _ _ _ _ _,_,_,_,none⟩::_) _ _;refine SW.st (st_add rfl rfl (by omega) (by omega)) rfl ?_))
   refine Post.again (k+1,A2,c2,zr++[s]) ⟨rfl,rfl,rfl,rfl,rfl,rfl,trivial⟩ (by simp only;omega) ⟨by simp only;omega,hw,hb1,hb2,hb3',hX,hY,⟨hO1,?_⟩,hSf'⟩
   rw [List.take_succ_eq_append_getElem (by omega)]
   exact hE.snoc hs'
  ·obtain rfl:k=r.Zones.n:=by omega
   rw [List.take_of_length_le (by omega)] at hO
   repeat' (first|(first|refine CW.seq ?_|refine CW.region ?_|refine CW.block ?_|refine CW.condd_f rfl (by omega) ?_|refine CW.exit ?_)|(first|refine Post.seq ?_|refine Post.seq_exit ?_|refine Post.hit ?_|refine Post.again_exit ?_)|refine SW.nil ?_|refine SW.pure rfl rfl ?_|(show SW _ _ _ _ (⟨_,Op.fieldAddr _ _ _,_,_,_,none⟩::_) _ _;refine SW.st (st_field rfl) rfl ?_)|(show SW _ _ _ _ (⟨_,Op.call ⟨.builtin .len,_,_⟩,_,_,_,none⟩::_) _ _;refine SW.st (st_len rfl) rfl ?_)|(show SW _ _ _ _ (⟨_,Op.load _ _,_,_,_,none⟩::_) _ _;refine SW.st (st_load rfl (hb1.cell rfl)) rfl ?_))
   refine CW.loop (fun s:Nat×Option Addr×Nat×List LRow=>[(2,.pointer (some ⟨b2,0,none⟩)),(3,.pointer (some ⟨b3,0,none⟩)),(33,.slice r.Lists.A r.Lists.n r.Lists.c),(34,.int .i64 (r.Lists.n:Int)),(35,.int .i64 (s.1:Int))])
    (fun s w'=>s.1≤r.Lists.n∧Ext w w'∧Blk w' b2 27 (encH .zero)∧Blk w' b3 27 (encH ⟨⟨A,r.Zones.n,c⟩,⟨X,r.Mins.n,c4⟩,r.Cpus,⟨s.2.1,s.1,s.2.2.1⟩,⟨Y,r.Live.n,d4⟩⟩)∧Own w' w.heap.size 3 1 encI X r.Mins.n c4 h.Mins∧Own w' w.heap.size 94 3 encBk Y r.Live.n d4 h.Live ∧
     OwnZs w' w.heap.size ⟨A,r.Zones.n,c⟩ zr h.Zones∧OwnLs w' w.heap.size ⟨s.2.1,s.1,s.2.2.1⟩ s.2.2.2 (h.Lists.take s.1)∧SepM ⟨X,r.Mins.n,c4⟩ zr s.2.2.2) (fun s=>r.Lists.n-s.1) (0,none,0,[]) ⟨rfl,rfl,rfl,rfl,rfl,trivial⟩ ⟨by omega,hw,hb2,hb3,hX,hY,hO,OwnLs.nil _ _,SepM.nil _ _⟩ ?_
   clear hb1 hb2 hb3 hX hY hw hO
   rintro ⟨k,B,d,lr⟩ w' ⟨hk,hw,hb2,hb3,hX,hY,hO,hP,hSp⟩
   simp only at hk hb3 hP hSp ⊢
   have hA:=hl.row.base
   by_cases hkn:k<r.Lists.n
   ·have hlk:=hl.each.get k (by omega) (by omega)
    have hin:h.Lists[k]'(by omega)∈h.Lists:=List.getElem_mem _
    have q:=hs.pages _ hin
    have q1:=hlk.pages.len
    repeat' (first|(first|refine CW.seq ?_|refine CW.region ?_|refine CW.block ?_|refine CW.condd_t rfl (by omega) ?_|refine CW.skip ?_)|(refine Post.seq ?_)|refine SW.nil ?_|refine SW.pure rfl rfl ?_|(show SW _ _ _ _ (⟨_,Op.indexAddr _ _ _,_,_,_,none⟩::_) _ _;refine SW.st (st_indexN rfl rfl (by assumption) (by omega)) rfl ?_)|(show SW _ _ _ _ (⟨_,Op.load _ _,_,_,_,none⟩::_) _ _;refine SW.st (st_loadsx hw rfl rfl ((hl.row.all hkn))) rfl ?_))
    have hlt7:=hP.row.lt_size
    refine SW.alloc rfl fun b7 w1 hw1 hb7b hb7 => ?_
    skip
    refine SW.storeAgg hb7 rfl rfl rfl rfl (one_l _) fun w2 hb7' hg => ?_
    have hXX:=hw1.own hb7b hg
    have hb7w:w.heap.size≤b7:=Nat.le_trans hw.size hb7b
    replace hw:=Ext.trans hw hXX
    replace hb2:=hb2.ext hXX
    replace hb3:=hb3.ext hXX
    replace hX:=hX.ext hXX
    replace hY:=hY.ext hXX
    replace hO:=hO.ext hXX
    replace hP:=hP.ext hXX
    replace hb7:=hb7'
    clear hb7' hw1 hg hXX
    repeat' (first|(first|refine CW.seq ?_|refine CW.region ?_)|(refine Post.seq ?_)|refine SW.nil ?_|(show SW _ _ _ _ (⟨_,Op.fieldAddr _ _ _,_,_,_,none⟩::_) _ _;refine SW.st (st_field rfl) rfl ?_)|(show SW _ _ _ _ (⟨_,Op.load _ _,_,_,_,none⟩::_) _ _;refine SW.st (st_load rfl (hb7.cell rfl)) rfl ?_))
    refine SW.call rfl rfl (CloneInt_ans _ _ _ _ _ (hlk.pages.ext hw) (by omega)) fun v w4 hXX hv => ?_
    obtain ⟨W,e4,rfl,hW⟩:=hv
    replace hSp:=hSp.snoc (y:=⟨ls[k].Cpu,ls[k].Zone,ls[k].Ty,⟨W,ls[k].Pages.n,e4⟩⟩) hX hO hP hW.row_ge
    replace hW:=hW.low hw.size
    (replace hw:=Ext.trans hw hXX;replace hb2:=hb2.ext hXX;replace hb3:=hb3.ext hXX;replace hb7:=hb7.ext hXX;replace hX:=hX.ext hXX;replace hY:=hY.ext hXX;replace hO:=hO.ext hXX;replace hP:=hP.ext hXX)
    repeat' ((show SW _ _ _ _ (⟨_,Op.fieldAddr _ _ _,_,_,_,none⟩::_) _ _;refine SW.st (st_field rfl) rfl ?_))
    refine SW.storeB (i:=3) hb7 rfl rfl rfl rfl fun w5 hb7' hg => ?_
    have hG:=hb7.gr hg
    replace hw:=hw.own hb7w hg
    (replace hb2:=hb2.grT hG rfl;replace hb3:=hb3.grT hG rfl;replace hX:=hX.grT hG rfl;replace hY:=hY.grT hG rfl;replace hO:=hO.grT hG rfl;replace hW:=hW.grT hG rfl)
    replace hP:OwnLs w5 w.heap.size ⟨B,k,d⟩ lr (h.Lists.take k):=⟨hP.row.grown hg (.inr (fun e=>by have:=hlt7 _ e;omega)),hP.each.mono fun _ _ h=>h.grT hG rfl⟩
    repeat' (first|(refine CW.region ?_)|(refine Post.seq ?_)|refine SW.nil ?_|(show SW _ _ _ _ (⟨_,Op.fieldAddr _ _ _,_,_,_,none⟩::_) _ _;refine SW.st (st_field rfl) rfl ?_)|(show SW _ _ _ _ (⟨_,Op.load _ _,_,_,_,none⟩::_) _ _;first|refine SW.st (st_load rfl (hb3.cell rfl)) rfl ?_|refine SW.st (st_loads rfl rfl ((fun _ _=>hb7'.cell))) rfl ?_))
    refine SW.build1 rfl rfl rfl rfl rfl fun b w6 hXX hb hB => ?_
    (replace hw:=Ext.trans hw hXX;replace hb2:=hb2.ext hXX;replace hb3:=hb3.ext hXX;replace hX:=hX.ext hXX;replace hY:=hY.ext hXX;replace hO:=hO.ext hXX;replace hP:=hP.ext hXX;replace hW:=hW.ext hXX)
    refine SW.append hP.row (Blk.sl1 (enc:=encL) (x:=⟨ls[k].Cpu,ls[k].Zone,ls[k].Ty,⟨W,_,e4⟩⟩) hB) hw.size rfl rfl rfl (by simp only;omega) (by simp only;omega) fun A2 c2 w7 hP1 hg => ?_
    have hG:=hP.row.gr hg
    replace hw:=ext_grown hw hg (Nat.le_refl _) hP.row.row_ge
    (replace hb2:=hb2.grT hG rfl;replace hb3:=hb3.grT hG rfl;replace hX:=hX.grT hG rfl;replace hY:=hY.grT hG rfl;replace hO:=hO.grT hG rfl;replace hW:=hW.grT hG rfl)
    have hE:=hP.each.mono fun _ _ h=>h.grT hG rfl
    repeat' ((show SW _ _ _ _ (⟨_,Op.fieldAddr _ _ _,_,_,_,none⟩::_) _ _;refine SW.st (st_field rfl) rfl ?_))
    refine SW.storeB (i:=3) hb3 rfl rfl rfl rfl fun w8 hb3' hg => ?_
    have hG:=hb3.gr hg
    replace hw:=hw.own hb3w hg
    replace hb2:=hb2.grown hg (by simpa using hne4)
    (replace hX:=hX.grT hG rfl;replace hY:=hY.grT hG rfl;replace hO:=hO.grT hG rfl;replace hP1:=hP1.grT hG rfl;replace hW:=hW.grT hG rfl)
    replace hE:=hE.mono fun _ _ h=>h.grT hG rfl
    repeat' (first|(refine CW.region ?_)|(first|refine Post.seq ?_|refine Post.blk ?_)|refine SW.nil ?_|refine SW.pure rfl rfl ?_|(show SW _ _ _ _ (⟨_,Op.binOp _ _ _ _ _,_,_,_,none⟩::_) _ _;refine SW.st (st_add rfl rfl (by omega) (by omega)) rfl ?_))
    refine Post.again (k+1,A2,c2,lr++[⟨ls[k].Cpu,ls[k].Zone,ls[k].Ty,⟨W,_,e4⟩⟩]) ⟨rfl,rfl,rfl,rfl,rfl,trivial⟩ (by simp only;omega) ⟨by simp only;omega,hw,hb2,hb3',hX,hY,hO,⟨hP1,?_⟩,hSp⟩
    rw [List.take_succ_eq_append_getElem (by omega)]
    exact hE.snoc ⟨hlk.cpu,hlk.zone,hlk.ty,hW⟩
   ·obtain rfl:k=r.Lists.n:=by omega
    rw [List.take_of_length_le (by omega)] at hP
    repeat' (first|(first|refine CW.seq ?_|refine CW.region ?_|refine CW.condd_f rfl (by omega) ?_|refine CW.exit ?_)|(first|refine Post.seq ?_|refine Post.seq_exit ?_|refine Post.hit ?_|refine Post.again_exit ?_)|refine SW.nil ?_|refine SW.pure rfl rfl ?_|(show SW _ _ _ _ (⟨_,Op.load _ _,_,_,_,none⟩::_) _ _;refine SW.st (st_loads rfl rfl ((fun _ _=>hb3.cell))) rfl ?_))
    refine SW.storeAgg hb2 rfl rfl rfl rfl (one_h _) fun w5 hR2 hg => ?_
    have hG:=hb2.gr hg
    replace hw:=hw.own hb2w hg
    (replace hX:=hX.grT hG rfl;replace hY:=hY.grT hG rfl;replace hO:=hO.grT hG rfl;replace hP:=hP.grT hG rfl)
    repeat' (first|(refine CW.ret ?_)|(refine Post.seq ?_)|refine SW.nil ?_)
    exact Post.ret1c rfl rfl hR2 rfl ⟨_,rfl,hw,⟨⟨A,r.Zones.n,c⟩,⟨X,r.Mins.n,c4⟩,r.Cpus,⟨B,r.Lists.n,d⟩,⟨Y,r.Live.n,d4⟩⟩,rfl,⟨hr.cpus,hX,hY,⟨zr,hO⟩,⟨lr,hP⟩⟩,zr,lr,hO,hP,hSp,hSf⟩
theorem Hcopy_ans (r:HRow) (h:Heap) (w:World) (hr:RdH w r h) (hs:h.small) :
  Ans Tryz.prog 63 [.agg (encH r).toArray] w fun v w' => ∃ s,v = .agg (encH s).toArray∧OwnH w' w.heap.size s h :=
 (HcopyS_ans r h w hr hs).mono fun _ _ _ ⟨s,hv,ho⟩=>⟨s,hv,ho.own⟩
open Go.RowKit
set_option maxHeartbeats 4000000 in
theorem sameHeap_ans (r s:HRow) (h:Heap) (w:World) (ha:RdH w r h) (hb:RdH w s h) (hs:h.small) :
  Ans Tryz.prog 22 [.agg (encH r).toArray,.agg (encH s).toArray] w fun v _=>v = .bool true:=by
 refine ans_of Tryz.func22 rfl Tryz.ntmps22 rfl ?_
 refine CW.seq (CW.region (SW.box rfl rfl fun b2 w1 hw hb2b hb2 => ?_))
 refine SW.box rfl rfl fun b3 w2 hw2 hb3b hb3 => ?_
 (replace hw:=Ext.trans hw hw2;replace hb2:=hb2.ext hw2)
 obtain ⟨zs,hz⟩:=ha.zones
 obtain ⟨ls,hl⟩:=ha.lists
 obtain ⟨zs',hz'⟩:=hb.zones
 obtain ⟨ls',hl'⟩:=hb.lists
 obtain ⟨z1,z2⟩:=hz.len
 obtain ⟨l1,l2⟩:=hl.len
 obtain ⟨z3,z4⟩:=hz'.len
 obtain ⟨l3,l4⟩:=hl'.len
 have s1:=hs.mins
 have s2:=hs.live
 have s3:=hs.zones
 have s4:=hs.lists
 have m1:=ha.mins.len
 have m2:=ha.live.len
 have e1:=ha.cpus
 have e2:=hb.cpus
 have cM:∀ w',Ext w w'→Ans Tryz.prog 21 [.slice r.Mins.A r.Mins.n r.Mins.c,.slice s.Mins.A s.Mins.n s.Mins.c] w' fun v _=>v = .bool true:=fun w' hx=>by
  have:=sameInts_ans _ _ _ _ r.Mins.c s.Mins.c _ _ w' (ha.mins.ext hx) (hb.mins.ext hx) (by omega)
  simpa using this
 have cL:∀ w',Ext w w'→Ans Tryz.prog 41 [.slice r.Live.A r.Live.n r.Live.c,.slice s.Live.A s.Live.n s.Live.c] w' fun v _=>v = .bool true:=fun w' hx=>by
  have:=sameBlocks_ans _ _ _ _ r.Live.c s.Live.c _ _ w' (ha.live.ext hx) (hb.live.ext hx) (by omega)
  simpa using this
 repeat' (first|(first|refine CW.seq ?_|refine CW.region ?_|refine CW.block ?_|refine CW.condf rfl ?_|refine CW.skip ?_)|(refine Post.seq ?_)|refine SW.nil ?_|(show SW _ _ _ _ (⟨_,_,_,_,_,some _⟩::_) _ _;first|refine SW.want_f rfl rfl (by with_reducible rfl) ?_|refine SW.splitn_f rfl rfl rfl (by omega) ?_|refine SW.want rfl rfl ?_)|refine SW.pure rfl rfl ?_|(show SW _ _ _ _ (⟨_,Op.fieldAddr _ _ _,_,_,_,none⟩::_) _ _;refine SW.st (st_field rfl) rfl ?_)|(show SW _ _ _ _ (⟨_,Op.call ⟨.builtin .len,_,_⟩,_,_,_,none⟩::_) _ _;refine SW.st (st_len rfl) rfl ?_)|(show SW _ _ _ _ (⟨_,Op.load _ _,_,_,_,none⟩::_) _ _;first|refine SW.st (st_load rfl (hb2.cell rfl)) rfl ?_|refine SW.st (st_load rfl (hb3.cell rfl)) rfl ?_)|(show SW _ _ _ _ (⟨_,Op.call ⟨.value (.func _),_,_⟩,_,_,_,none⟩::_) _ _;first|(refine SW.call rfl rfl (cM _ hw) ?_;intro v w1 hw1 hv;subst hv;replace hw:=Ext.trans hw hw1;replace hb2:=hb2.ext hw1;replace hb3:=hb3.ext hw1;clear hw1)|(refine SW.call rfl rfl (cL _ hw) ?_;intro v w1 hw1 hv;subst hv;replace hw:=Ext.trans hw hw1;replace hb2:=hb2.ext hw1;replace hb3:=hb3.ext hw1;clear hw1)))
 all_goals first|(exfalso;omega)|skip
 refine CW.loop (fun k:Nat=>[(2,.pointer (some ⟨b2,0,none⟩)),(3,.pointer (some ⟨b3,0,none⟩)),(5,.int .i64 (k:Int))]) (fun k w'=>k≤r.Zones.n∧Ext w w'∧Blk w' b2 27 (encH r)∧Blk w' b3 27 (encH s)) (fun k=>r.Zones.n-k) 0
  ⟨rfl,rfl,rfl,trivial⟩ ⟨by omega,hw,hb2,hb3⟩ ?_
 clear hw hb2 hb3
 rintro k w' ⟨hk,hw,hb2,hb3⟩
 have hA:=hz.row.base
 have hB:=hz'.row.base
 by_cases hkn:k<r.Zones.n
 ·have hkn':k<s.Zones.n:=by omega
  have hzk:=hz.each.get k (by omega) (by omega)
  have hzk':=hz'.each.get k (by omega) (by omega)
  have q:=hs.free _ (List.getElem_mem (show k<h.Zones.length by omega))
  have q1:=hzk.free.len
  have q2:=hzk.types.len
  have cZ:∀ w',Ext w w'→Ans Tryz.prog 42 [.agg (encZ zs[k]).toArray,.agg (encZ zs'[k]).toArray] w' fun v _=>v = .bool true:=fun w' hx=>by
   have:=sameZone_ans zs[k] zs'[k] _ _ w' (hzk.ext hx) (hzk'.ext hx) (by omega) (by omega)
   simpa using this
  repeat' (first|(first|refine CW.seq ?_|refine CW.region ?_|refine CW.block ?_|refine CW.condd_t rfl (by omega) ?_|refine CW.condf rfl ?_|refine CW.skip ?_|(apply CW.quiet1 mixed;(· kernel_rfl);rotate_left;intro w1 hw1;replace hw:=Ext.trans hw hw1;replace hb2:=hb2.ext hw1;replace hb3:=hb3.ext hw1;clear hw1;rotate_right))|(first|refine Post.seq ?_|refine Post.blk ?_)|refine SW.nil ?_|refine SW.pure rfl rfl ?_|(show SW _ _ _ _ (⟨_,Op.fieldAddr _ _ _,_,_,_,none⟩::_) _ _;refine SW.st (st_field rfl) rfl ?_)|(show SW _ _ _ _ (⟨_,Op.binOp _ _ _ _ _,_,_,_,none⟩::_) _ _;refine SW.st (st_add rfl rfl (by omega) (by omega)) rfl ?_)|(show SW _ _ _ _ (⟨_,Op.indexAddr _ _ _,_,_,_,none⟩::_) _ _;refine SW.st (st_indexN rfl rfl (by assumption) (by omega)) rfl ?_)|(show SW _ _ _ _ (⟨_,Op.call ⟨.builtin .len,_,_⟩,_,_,_,none⟩::_) _ _;refine SW.st (st_len rfl) rfl ?_)|(show SW _ _ _ _ (⟨_,Op.load _ _,_,_,_,none⟩::_) _ _;first|refine SW.st (st_load rfl (hb2.cell rfl)) rfl ?_|refine SW.st (st_load rfl (hb3.cell rfl)) rfl ?_|refine SW.st (st_loadsx hw rfl rfl ((hz.row.all hkn))) rfl ?_|refine SW.st (st_loadsx hw rfl rfl ((hz'.row.all hkn'))) rfl ?_)|(show SW _ _ _ _ (⟨_,Op.call ⟨.value (.func _),_,_⟩,_,_,_,none⟩::_) _ _;refine SW.qcall rfl rfl (fun w1 hw1=>(cZ _ (Ext.trans hw hw1))) ?_)|exact SW.qnil rfl)
  exact Post.again (k+1) ⟨rfl,rfl,rfl,trivial⟩ (by omega) ⟨by omega,hw,hb2,hb3⟩
 ·repeat' (first|(first|refine CW.seq ?_|refine CW.region ?_|refine CW.block ?_|refine CW.condd_f rfl (by omega) ?_|refine CW.exit ?_)|(first|refine Post.seq ?_|refine Post.seq_exit ?_|refine Post.hit ?_|refine Post.again_exit ?_)|refine SW.nil ?_|refine SW.pure rfl rfl ?_|(show SW _ _ _ _ (⟨_,Op.fieldAddr _ _ _,_,_,_,none⟩::_) _ _;refine SW.st (st_field rfl) rfl ?_)|(show SW _ _ _ _ (⟨_,Op.call ⟨.builtin .len,_,_⟩,_,_,_,none⟩::_) _ _;refine SW.st (st_len rfl) rfl ?_)|(show SW _ _ _ _ (⟨_,Op.load _ _,_,_,_,none⟩::_) _ _;refine SW.st (st_load rfl (hb2.cell rfl)) rfl ?_))
  clear hkn hk hA hB
  refine CW.loop (fun k:Nat=>[(2,.pointer (some ⟨b2,0,none⟩)),(3,.pointer (some ⟨b3,0,none⟩)),(6,.int .i64 (k:Int))]) (fun k w'=>k≤r.Lists.n∧Ext w w'∧Blk w' b2 27 (encH r)∧Blk w' b3 27 (encH s)) (fun k=>r.Lists.n-k) 0
   ⟨rfl,rfl,rfl,trivial⟩ ⟨by omega,hw,hb2,hb3⟩ ?_
  clear hw hb2 hb3
  rintro k w' ⟨hk,hw,hb2,hb3⟩
  have hA:=hl.row.base
  have hB:=hl'.row.base
  by_cases hkn:k<r.Lists.n
  ·have hkn':k<s.Lists.n:=by omega
   have hlk:=hl.each.get k (by omega) (by omega)
   have hlk':=hl'.each.get k (by omega) (by omega)
   have q:=hs.pages _ (List.getElem_mem (show k<h.Lists.length by omega))
   have q1:=hlk.pages.len
   have g1:=hlk.cpu
   have g2:=hlk.zone
   have g3:=hlk.ty
   have g4:=hlk'.cpu
   have g5:=hlk'.zone
   have g6:=hlk'.ty
   have cP:∀ w',Ext w w'→Ans Tryz.prog 21 [.slice ls[k].Pages.A ls[k].Pages.n ls[k].Pages.c,.slice ls'[k].Pages.A ls'[k].Pages.n ls'[k].Pages.c] w' fun v _=>v = .bool true:=fun w' hx=>by
    have:=sameInts_ans _ _ _ _ ls[k].Pages.c ls'[k].Pages.c _ _ w' (hlk.pages.ext hx) (hlk'.pages.ext hx) (by omega)
    simpa using this
   repeat' (first|(first|refine CW.seq ?_|refine CW.region ?_|refine CW.block ?_|refine CW.condd_t rfl (by omega) ?_|refine CW.skip ?_)|(refine Post.seq ?_)|refine SW.nil ?_|refine SW.pure rfl rfl ?_|(show SW _ _ _ _ (⟨_,Op.fieldAddr _ _ _,_,_,_,none⟩::_) _ _;refine SW.st (st_field rfl) rfl ?_)|(show SW _ _ _ _ (⟨_,Op.indexAddr _ _ _,_,_,_,none⟩::_) _ _;refine SW.st (st_indexN rfl rfl (by assumption) (by omega)) rfl ?_)|(show SW _ _ _ _ (⟨_,Op.call ⟨.builtin .len,_,_⟩,_,_,_,none⟩::_) _ _;refine SW.st (st_len rfl) rfl ?_)|(show SW _ _ _ _ (⟨_,Op.load _ _,_,_,_,none⟩::_) _ _;first|refine SW.st (st_load rfl (hb2.cell rfl)) rfl ?_|refine SW.st (st_loadsx hw rfl rfl ((hl.row.all hkn))) rfl ?_))
   refine SW.alloc rfl fun b7 w1 hw1 hb7b hb7 => ?_
   skip
   refine SW.storeAgg hb7 rfl rfl rfl rfl (one_l _) fun w2 hb7' hg => ?_
   have hXX:=hw1.own hb7b hg
   have hb7w:w.heap.size≤b7:=Nat.le_trans hw.size hb7b
   replace hw:=Ext.trans hw hXX
   replace hb2:=hb2.ext hXX
   replace hb3:=hb3.ext hXX
   replace hb7:=hb7'
   clear hb7' hw1 hg hXX
   repeat' (first|(first|refine CW.seq ?_|refine CW.region ?_)|(refine Post.seq ?_)|refine SW.nil ?_|refine SW.pure rfl rfl ?_|(show SW _ _ _ _ (⟨_,Op.fieldAddr _ _ _,_,_,_,none⟩::_) _ _;refine SW.st (st_field rfl) rfl ?_)|(show SW _ _ _ _ (⟨_,Op.indexAddr _ _ _,_,_,_,none⟩::_) _ _;refine SW.st (st_indexN rfl rfl (by assumption) (by omega)) rfl ?_)|(show SW _ _ _ _ (⟨_,Op.load _ _,_,_,_,none⟩::_) _ _;first|refine SW.st (st_load rfl (hb3.cell rfl)) rfl ?_|refine SW.st (st_loadsx hw rfl rfl ((hl'.row.all hkn'))) rfl ?_))
   refine SW.alloc rfl fun b8 w1 hw1 hb8b hb8 => ?_
   skip
   refine SW.storeAgg hb8 rfl rfl rfl rfl (one_l _) fun w2 hb8' hg => ?_
   have hXX:=hw1.own hb8b hg
   have hb8w:w.heap.size≤b8:=Nat.le_trans hw.size hb8b
   replace hw:=Ext.trans hw hXX
   replace hb2:=hb2.ext hXX
   replace hb3:=hb3.ext hXX
   replace hb7:=hb7.ext hXX
   replace hb8:=hb8'
   clear hb8' hw1 hg hXX
   repeat' (first|(first|refine CW.seq ?_|refine CW.region ?_|refine CW.condf rfl ?_|refine CW.skip ?_)|(first|refine Post.seq ?_|refine Post.blk ?_)|refine SW.nil ?_|(show SW _ _ _ _ (⟨_,_,_,_,_,some _⟩::_) _ _;first|refine SW.want_f rfl rfl (by with_reducible rfl) ?_|refine SW.splitn_f rfl rfl rfl (by omega) ?_)|refine SW.pure rfl rfl ?_|(show SW _ _ _ _ (⟨_,Op.fieldAddr _ _ _,_,_,_,none⟩::_) _ _;refine SW.st (st_field rfl) rfl ?_)|(show SW _ _ _ _ (⟨_,Op.binOp _ _ _ _ _,_,_,_,none⟩::_) _ _;refine SW.st (st_add rfl rfl (by omega) (by omega)) rfl ?_)|(show SW _ _ _ _ (⟨_,Op.load _ _,_,_,_,none⟩::_) _ _;first|refine SW.st (st_load rfl (hb7.cell rfl)) rfl ?_|refine SW.st (st_load rfl (hb8.cell rfl)) rfl ?_)|(show SW _ _ _ _ (⟨_,Op.call ⟨.value (.func _),_,_⟩,_,_,_,none⟩::_) _ _;(refine SW.call rfl rfl (cP _ hw) ?_;intro v w1 hw1 hv;subst hv;replace hw:=Ext.trans hw hw1;replace hb2:=hb2.ext hw1;replace hb3:=hb3.ext hw1;clear hw1)))
   all_goals first|(exfalso;omega)|skip
   exact Post.again (k+1) ⟨rfl,rfl,rfl,trivial⟩ (by omega) ⟨by omega,hw,hb2,hb3⟩
  ·repeat' (first|(first|refine CW.seq ?_|refine CW.region ?_|refine CW.condd_f rfl (by omega) ?_|refine CW.ret ?_|refine CW.exit ?_)|(first|refine Post.seq ?_|refine Post.seq_exit ?_|refine Post.hit ?_|refine Post.again_exit ?_)|refine SW.nil ?_|refine SW.pure rfl rfl ?_|(show SW _ _ _ _ (⟨_,Op.fieldAddr _ _ _,_,_,_,none⟩::_) _ _;refine SW.st (st_field rfl) rfl ?_)|(show SW _ _ _ _ (⟨_,Op.call ⟨.builtin .len,_,_⟩,_,_,_,none⟩::_) _ _;refine SW.st (st_len rfl) rfl ?_)|(show SW _ _ _ _ (⟨_,Op.load _ _,_,_,_,none⟩::_) _ _;refine SW.st (st_load rfl (hb2.cell rfl)) rfl ?_))
   exact Post.ret1 rfl rfl ⟨_,rfl,hw,rfl⟩
open Go.RowKit
theorem CloneSlab_ans (A:Option Addr) (n c:Nat) (l:List Slab) (w:World) (hl:Sl w 3 encSb A n l) (hn:n*24≤140737488355328) : Ans Tryz.prog 65 [.slice A n c] w (Copied w 46 3 encSb n l):=by
 refine ans_of Tryz.func65 rfl Tryz.ntmps65 rfl ?_
 have hw:=Ext.refl w
 repeat' (first|(first|refine CW.seq ?_|refine CW.region ?_)|(refine Post.seq ?_)|refine SW.nil ?_|refine SW.pure rfl rfl ?_)
 refine SW.st (st_eqnil rfl rfl) rfl ?_
 repeat' (first|(first|refine CW.seq ?_|refine CW.region ?_|refine CW.cond rfl (fun h => ?_) (fun h => ?_)|refine CW.skip ?_|refine CW.ret ?_)|(first|refine Post.seq ?_|refine Post.seq_ret ?_)|refine SW.nil ?_|refine SW.pure rfl rfl ?_)
 ·have hn0:n=0:=by
   rcases Nat.eq_zero_or_pos n with h0|h0
   ·exact h0
   ·have:=hl.base h0;simp_all
  subst hn0
  have:l=[]:=List.eq_nil_of_length_eq_zero hl.len
  subst this
  exact Post.ret1 rfl rfl ⟨_,rfl,hw,none,0,rfl,Own.nil_ _ _ _ _ _ _⟩
 ·refine SW.build0 rfl fun b w1 hw1 hb => ?_
  replace hw:=Ext.trans hw hw1
  repeat' (refine SW.pure rfl rfl ?_)
  refine SW.appendR (Nat.zero_add n) (List.nil_append l) (Own.nil_ w1 w.heap.size _ _ encSb (some ⟨b,0,none⟩)) (hl.ext hw) hw.size rfl rfl rfl (by omega) (by omega) fun A2 c2 w2 hO hg => ?_
  replace hw:=ext_grown hw hg (Nat.le_refl _) (by simp [ownB])
  repeat' (first|(refine CW.ret ?_)|(refine Post.seq ?_)|refine SW.nil ?_|refine SW.pure rfl rfl ?_)
  exact Post.ret1 rfl rfl ⟨_,rfl,hw,A2,c2,rfl,hO⟩
open Go.RowKit
structure KCache where
 Names:List ByteArray
 Size:Int
 Per:Int
 Order:Int
 Slabs:List Slab
 Active:List Int
structure KSystem where
 Words:List Int
 Heap:Heap
 Caches:List KCache
def encStr (s:ByteArray) : List Value:=[.string s]
instance:Enc encStr 1:=⟨fun _=>rfl,fun r u hu=>by simp [encStr] at hu;subst hu;rfl⟩
structure CRow where
 Names:Sli
 Size:Int
 Per:Int
 Order:Int
 Slabs:Sli
 Active:Sli
def encC (r:CRow) : List Value:=[r.Names.v,.int .i64 r.Size,.int .i64 r.Per,.int .i64 r.Order,r.Slabs.v,r.Active.v]
instance:Enc encC 6:=⟨fun _=>rfl,fun r u hu=>by simp [encC,Sli.v] at hu;rcases hu with rfl|rfl|rfl|rfl|rfl|rfl<;>rfl⟩
structure SRow where
 Words:Sli
 Heap:HRow
 Caches:Sli
def encSys (r:SRow) : List Value:=[r.Words.v,r.Heap.Zones.v,r.Heap.Mins.v,.int .i64 r.Heap.Cpus,r.Heap.Lists.v,r.Heap.Live.v,r.Caches.v]
instance:Enc encSys 7:=⟨fun _=>rfl,fun r u hu=>by simp [encSys,Sli.v] at hu;rcases hu with rfl|rfl|rfl|rfl|rfl|rfl|rfl<;>rfl⟩
def SRow.zero:SRow:=⟨.nil,.zero,.nil⟩
theorem one_c (r:CRow) : ∀ v∈encC r,v.oneCell'=true:=Enc.one (enc:=encC) r
theorem one_s (r:SRow) : ∀ v∈encSys r,v.oneCell'=true:=Enc.one (enc:=encSys) r
theorem heapIn {w:World} {b t:Nat} {r:SRow} (h:Blk w b t (encSys r)) : ∀ j v,(encH r.Heap)[j]?=some v→w.cell? ((((⟨b,0,none⟩ : Addr)).add 1).add j)=some v:=fun j v hv=>by
 rw [add_add]
 refine h.cell (i:=1+j) ?_
 match j,hv with
 | 0,hv=>exact hv
 | 1,hv=>exact hv
 | 2,hv=>exact hv
 | 3,hv=>exact hv
 | 4,hv=>exact hv
 | j+5,hv=>simp [encH] at hv
theorem Own.capLe {α : Type} {w:World} {lo:Nat} {e:TypeId} {sz:Nat} {enc : α → List Value} {A:Option Addr} {n c:Nat} {l:List α} (h:Own w lo e sz enc A n c l) : n≤c:=by
 rcases h.row with ⟨rfl,rfl⟩|⟨_,_,_,_,_,_,h,_⟩
 ·exact Nat.le_refl _
 ·exact h
structure RdC (w:World) (r:CRow) (c:KCache) : Prop where
 size:r.Size=c.Size
 per:r.Per=c.Per
 order:r.Order=c.Order
 names:Sl w 1 encStr r.Names.A r.Names.n c.Names
 slabs:Sl w 3 encSb r.Slabs.A r.Slabs.n c.Slabs
 active:Sl w 1 encI r.Active.A r.Active.n c.Active
 cap:r.Active.n≤r.Active.c
structure OwnC (w:World) (lo:Nat) (r:CRow) (c:KCache) : Prop where
 size:r.Size=c.Size
 per:r.Per=c.Per
 order:r.Order=c.Order
 names:Own w lo 9 1 encStr r.Names.A r.Names.n r.Names.c c.Names
 slabs:Own w lo 46 3 encSb r.Slabs.A r.Slabs.n r.Slabs.c c.Slabs
 active:Own w lo 3 1 encI r.Active.A r.Active.n r.Active.c c.Active
section
variable {w w':World} {lo lo' t:Nat} {r:CRow} {c:KCache}
theorem RdC.ext (h:RdC w r c) (hx:Ext w w') : RdC w' r c:=⟨h.size,h.per,h.order,h.names.ext hx,h.slabs.ext hx,h.active.ext hx,h.cap⟩
theorem OwnC.ext (h:OwnC w lo r c) (hx:Ext w w') : OwnC w' lo r c:=⟨h.size,h.per,h.order,h.names.ext hx,h.slabs.ext hx,h.active.ext hx⟩
theorem OwnC.low (h:OwnC w lo r c) (hl:lo'≤lo) : OwnC w lo' r c:=⟨h.size,h.per,h.order,h.names.low hl,h.slabs.low hl,h.active.low hl⟩
theorem OwnC.rd (h:OwnC w lo r c) : RdC w r c:=⟨h.size,h.per,h.order,h.names.sl,h.slabs.sl,h.active.sl,h.active.capLe⟩
theorem OwnC.grT (h:OwnC w lo r c) (hG:GrT w w' t) (hne:(Nat.beq t 9 || (Nat.beq t 46 || Nat.beq t 3))=false) : OwnC w' lo r c:=by
 simp only [Bool.or_eq_false_iff] at hne
 exact ⟨h.size,h.per,h.order,h.names.grT hG hne.1,h.slabs.grT hG hne.2.1,h.active.grT hG hne.2.2⟩
end
structure RdCs (w:World) (s:Sli) (cs:List CRow) (l:List KCache) : Prop where
 row:Sl w 6 encC s.A s.n cs
 each:All2 (RdC w) cs l
 cap:s.n≤s.c
structure OwnCs (w:World) (lo:Nat) (s:Sli) (cs:List CRow) (l:List KCache) : Prop where
 row:Own w lo 44 6 encC s.A s.n s.c cs
 each:All2 (OwnC w lo) cs l
section
variable {w w':World} {lo lo' t:Nat} {s:Sli} {cs:List CRow} {l:List KCache}
theorem RdCs.ext (h:RdCs w s cs l) (hx:Ext w w') : RdCs w' s cs l:=⟨h.row.ext hx,h.each.mono fun _ _ h=>h.ext hx,h.cap⟩
theorem OwnCs.ext (h:OwnCs w lo s cs l) (hx:Ext w w') : OwnCs w' lo s cs l:=⟨h.row.ext hx,h.each.mono fun _ _ h=>h.ext hx⟩
theorem OwnCs.rd (h:OwnCs w lo s cs l) : RdCs w s cs l:=⟨h.row.sl,h.each.mono fun _ _ h=>h.rd,h.row.capLe⟩
theorem OwnCs.grT (h:OwnCs w lo s cs l) (hG:GrT w w' t) (hne:(Nat.beq t 44 || (Nat.beq t 9 || (Nat.beq t 46 || Nat.beq t 3)))=false) : OwnCs w' lo s cs l:=by
 rw [Bool.or_eq_false_iff] at hne
 exact ⟨h.row.grT hG hne.1,h.each.mono fun _ _ h=>h.grT hG hne.2⟩
theorem OwnCs.nil (w:World) (lo:Nat) : OwnCs w lo .nil [] []:=⟨Own.nil_ _ _ _ _ _ _,.nil⟩
theorem RdCs.len (h:RdCs w s cs l) : cs.length=s.n∧l.length=s.n:=⟨h.row.len,by rw [← h.each.len,h.row.len]⟩
theorem OwnCs.blk {b:Nat} {vs:List Value} (h:OwnCs w lo s cs l) (hB:Blk w b 44 vs) (hg:w.grownBy w' (some b)) (hlt:∀ k,ownB s.A s.c=some k→k<lo') (hm:lo'≤b) : OwnCs w' lo s cs l :=
 ⟨h.row.grown hg (.inr (fun e=>by have:=hlt _ e;omega)),h.each.mono fun _ _ h=>h.grT (hB.gr hg) rfl⟩
end
structure RdS (w:World) (r:SRow) (s:KSystem) : Prop where
 words:Sl w 1 encI r.Words.A r.Words.n s.Words
 heap:RdH w r.Heap s.Heap
 caches:∃ cs,RdCs w r.Caches cs s.Caches
structure OwnS (w:World) (lo:Nat) (r:SRow) (s:KSystem) : Prop where
 words:Own w lo 3 1 encI r.Words.A r.Words.n r.Words.c s.Words
 heap:OwnH w lo r.Heap s.Heap
 caches:∃ cs,OwnCs w lo r.Caches cs s.Caches
section
variable {w w':World} {lo lo' t:Nat} {r:SRow} {s:KSystem}
theorem RdS.ext (h:RdS w r s) (hx:Ext w w') : RdS w' r s:=by
 obtain ⟨cs,hc⟩:=h.caches
 exact ⟨h.words.ext hx,h.heap.ext hx,⟨cs,hc.ext hx⟩⟩
theorem OwnS.ext (h:OwnS w lo r s) (hx:Ext w w') : OwnS w' lo r s:=by
 obtain ⟨cs,hc⟩:=h.caches
 exact ⟨h.words.ext hx,h.heap.ext hx,⟨cs,hc.ext hx⟩⟩
theorem OwnS.rd (h:OwnS w lo r s) : RdS w r s:=by
 obtain ⟨cs,hc⟩:=h.caches
 exact ⟨h.words.sl,h.heap.rd,⟨cs,hc.rd⟩⟩
end
structure KCache.small (c:KCache) : Prop where
 names:c.Names.length*16≤140737488355328
 slabs:c.Slabs.length*24≤140737488355328
 active:c.Active.length*8≤140737488355328
structure KSystem.small (s:KSystem) : Prop where
 words:s.Words.length*8≤140737488355328
 heap:s.Heap.small
 caches:s.Caches.length*96≤140737488355328
 each:∀ c∈s.Caches,c.small
end Go.Proofs.YtigikedbffjeiaaGreat
set_option linter.unusedVariables false
set_option maxRecDepth 100000
namespace Go.Proofs.YtigikedbffjeiaaGreat
open Go.ChangeShapes Go.WideShapes Go.ChangeAt Go.RowKit Go.Deep Go.Joins
section
variable {H:Type} {enc:TypeId×Value→H} {W:World} {base:Nat} {spare:Nat→Bool} {held:Bool} {fuel:Nat} {cs:List Value} {x:DataW H×List MemPlace}
theorem cap_slw {α : Type} {t e sz:Nat} [S:SliceTy Tryz.prog t e sz] {x:DataW H×List MemPlace} {A:Option Addr} {n c:Nat} (h:DataW.trod enc Tryz.prog W base spare held fuel t cs=some x) (hcs:cs=[.slice A n c]) : n≤c:=by
 rcases open_slice S.und h with ⟨h1,h2⟩|⟨a,len,cap,m,k,D,Pl,h1,hb,hl,hm,hmm,hx,hi⟩
 ·rw [hcs] at h1
  simp at h1
  omega
 ·rw [hcs] at h1
  simp at h1
  omega
theorem elw_str:∀ fuel cs x,DataW.trod enc Tryz.prog W base spare held fuel 9 cs=some x→(∀ y∈x.1.weights Tryz.prog 9,y≤reachBytes) → ∃ s:ByteArray,cs=encStr s∧s.size≤140737488351232:=by
 intro fuel cs x h hw
 obtain ⟨s,rfl,rfl,_⟩:=DataW.trod_string Tryz.underlying9 h
 refine ⟨s,rfl,?_⟩
 have:=hw s.data.toList.length (by simp [DataW.weights])
 simp only [reachBytes] at this
 simpa using this
theorem elw_slab:∀ fuel cs x,DataW.trod enc Tryz.prog W base spare held fuel 46 cs=some x→(∀ y∈x.1.weights Tryz.prog 46,y≤reachBytes) → ∃ r:Slab,cs=encSb r∧in64 r.At:=by
 intro fuel cs x h _
 obtain ⟨xs,n,_,_,hlen,hxl,hf⟩:=DataW.trod_struct Tryz.underlying46 h
 have hc:Tryz.prog.cellsOf 46=3:=by kernel_rfl
 have hi:Tryz.prog.cellsOf 3=1:=by kernel_rfl
 rw [hc] at hlen
 match cs,hlen with
 | [c0,c1,c2],_ =>
  match xs,hxl with
  | [y0,y1,y2],_ =>
   have h0:DataW.trod enc Tryz.prog W base spare held n 3 (List.take (Tryz.prog.cellsOf 3) (List.drop 0 [c0,c1,c2]))=some y0:=hf 0 _ rfl
   have h1:DataW.trod enc Tryz.prog W base spare held n 3 (List.take (Tryz.prog.cellsOf 3) (List.drop 1 [c0,c1,c2]))=some y1:=hf 1 _ rfl
   have h2:DataW.trod enc Tryz.prog W base spare held n 3 (List.take (Tryz.prog.cellsOf 3) (List.drop 2 [c0,c1,c2]))=some y2:=hf 2 _ rfl
   rw [hi] at h0 h1 h2
   obtain ⟨a,ha,wa⟩:=el_int Tryz.underlying3 h0
   obtain ⟨b,hb,wb⟩:=el_int Tryz.underlying3 h1
   obtain ⟨c,hcc,wc⟩:=el_int Tryz.underlying3 h2
   simp [encI] at ha hb hcc
   subst ha hb hcc
   exact ⟨⟨a,b,c⟩,rfl,wa⟩
structure KCache.good (c:KCache) : Prop where
 small:c.small
 size:in64 c.Size∧in64 c.Per∧in64 c.Order
 names:∀ s∈c.Names,s.size≤140737488351232
 slabs:∀ x∈c.Slabs,in64 x.At
theorem elw_cache:∀ fuel cs x,DataW.trod enc Tryz.prog W base spare held fuel 44 cs=some x→(∀ y∈x.1.weights Tryz.prog 44,y≤reachBytes) → ∃ r:CRow,cs=encC r ∧ ∃ c:KCache,RdC W r c∧c.good:=by
 intro fuel cs x h hw
 obtain ⟨xs,n,_,rfl,hlen,hxl,hf⟩:=DataW.trod_struct Tryz.underlying44 h
 have hc:Tryz.prog.cellsOf 44=6:=by kernel_rfl
 have hi:Tryz.prog.cellsOf 3=1:=by kernel_rfl
 have hi0:Tryz.prog.cellsOf 41=1:=by kernel_rfl
 have hi4:Tryz.prog.cellsOf 42=1:=by kernel_rfl
 have hi5:Tryz.prog.cellsOf 22=1:=by kernel_rfl
 rw [hc] at hlen
 match cs,hlen with
 | [c0,c1,c2,c3,c4,c5],_ =>
  match xs,hxl with
  | [y0,y1,y2,y3,y4,y5],_ =>
   have h0:DataW.trod enc Tryz.prog W base spare held n 41 (List.take (Tryz.prog.cellsOf 41) (List.drop 0 [c0,c1,c2,c3,c4,c5]))=some y0:=hf 0 _ rfl
   have h1:DataW.trod enc Tryz.prog W base spare held n 3 (List.take (Tryz.prog.cellsOf 3) (List.drop 1 [c0,c1,c2,c3,c4,c5]))=some y1:=hf 1 _ rfl
   have h2:DataW.trod enc Tryz.prog W base spare held n 3 (List.take (Tryz.prog.cellsOf 3) (List.drop 2 [c0,c1,c2,c3,c4,c5]))=some y2:=hf 2 _ rfl
   have h3:DataW.trod enc Tryz.prog W base spare held n 3 (List.take (Tryz.prog.cellsOf 3) (List.drop 3 [c0,c1,c2,c3,c4,c5]))=some y3:=hf 3 _ rfl
   have h4:DataW.trod enc Tryz.prog W base spare held n 42 (List.take (Tryz.prog.cellsOf 42) (List.drop 4 [c0,c1,c2,c3,c4,c5]))=some y4:=hf 4 _ rfl
   have h5:DataW.trod enc Tryz.prog W base spare held n 22 (List.take (Tryz.prog.cellsOf 22) (List.drop 5 [c0,c1,c2,c3,c4,c5]))=some y5:=hf 5 _ rfl
   rw [hi0] at h0
   rw [hi] at h1 h2 h3
   rw [hi4] at h4
   rw [hi5] at h5
   have w0:=bd_field Tryz.underlying44 (j:=0) rfl rfl hw
   have w4:=bd_field Tryz.underlying44 (j:=4) rfl rfl hw
   have w5:=bd_field Tryz.underlying44 (j:=5) rfl rfl hw
   obtain ⟨A0,n0,k0,l0,e0,s0,b0,g0⟩:=open_slw (t:=41) (b:=16) (by kernel_rfl) (by kernel_rfl) elw_str h0 w0
   obtain ⟨a,ha,wa⟩:=el_int Tryz.underlying3 h1
   obtain ⟨b,hb,wb⟩:=el_int Tryz.underlying3 h2
   obtain ⟨c,hcc,wc⟩:=el_int Tryz.underlying3 h3
   obtain ⟨A4,n4,k4,l4,e4,s4,b4,g4⟩:=open_slw (t:=42) (b:=24) (by kernel_rfl) (by kernel_rfl) elw_slab h4 w4
   obtain ⟨A5,n5,k5,l5,e5,s5,b5,_⟩:=open_slw (t:=22) (b:=8) (by kernel_rfl) (by kernel_rfl) (elw_int Tryz.underlying3) h5 w5
   have kc:=cap_slw (α := Int) h5 e5
   simp [encI] at e0 ha hb hcc e4 e5
   subst e0 ha hb hcc e4 e5
   refine ⟨⟨⟨A0,n0,k0⟩,a,b,c,⟨A4,n4,k4⟩,⟨A5,n5,k5⟩⟩,rfl,⟨l0,a,b,c,l4,l5⟩,⟨rfl,rfl,rfl,s0,s4,s5,kc⟩,⟨?_,?_,?_⟩,⟨wa,wb,wc⟩,g0,g4⟩
   ·simp only [s0.len];omega
   ·simp only [s4.len];omega
   ·simp only [s5.len];omega
structure KSystem.good (s:KSystem) : Prop where
 small:s.small
 heap:s.Heap.good
 caches:∀ c∈s.Caches,c.good
theorem elw_system:∀ fuel cs x,DataW.trod enc Tryz.prog W base spare held fuel 30 cs=some x→(∀ y∈x.1.weights Tryz.prog 30,y≤reachBytes) → ∃ r:SRow,cs=encSys r ∧ ∃ s:KSystem,RdS W r s∧s.good:=by
 intro fuel cs x h hw
 obtain ⟨xs,n,_,rfl,hlen,hxl,hf⟩:=DataW.trod_struct Tryz.underlying30 h
 have hc:Tryz.prog.cellsOf 30=7:=by kernel_rfl
 have hi0:Tryz.prog.cellsOf 22=1:=by kernel_rfl
 have hi1:Tryz.prog.cellsOf 27=5:=by kernel_rfl
 have hi2:Tryz.prog.cellsOf 28=1:=by kernel_rfl
 rw [hc] at hlen
 match cs,hlen with
 | [c0,c1,c2,c3,c4,c5,c6],_ =>
  match xs,hxl with
  | [y0,y1,y2],_ =>
   have h0:DataW.trod enc Tryz.prog W base spare held n 22 (List.take (Tryz.prog.cellsOf 22) (List.drop 0 [c0,c1,c2,c3,c4,c5,c6]))=some y0:=hf 0 _ rfl
   have h1:DataW.trod enc Tryz.prog W base spare held n 27 (List.take (Tryz.prog.cellsOf 27) (List.drop 1 [c0,c1,c2,c3,c4,c5,c6]))=some y1:=hf 1 _ rfl
   have h2:DataW.trod enc Tryz.prog W base spare held n 28 (List.take (Tryz.prog.cellsOf 28) (List.drop 6 [c0,c1,c2,c3,c4,c5,c6]))=some y2:=hf 2 _ rfl
   rw [hi0] at h0
   rw [hi1] at h1
   rw [hi2] at h2
   have w0:=bd_field Tryz.underlying30 (j:=0) rfl rfl hw
   have w1:=bd_field Tryz.underlying30 (j:=1) rfl rfl hw
   have w2:=bd_field Tryz.underlying30 (j:=2) rfl rfl hw
   obtain ⟨A0,n0,k0,l0,e0,s0,b0,_⟩:=open_slw (t:=22) (b:=8) (by kernel_rfl) (by kernel_rfl) (elw_int Tryz.underlying3) h0 w0
   obtain ⟨hr,e1,hh,hR,hG⟩:=elw_heap _ _ _ h1 w1
   obtain ⟨A2,n2,k2,l2,e2,s2,b2,g2⟩:=open_slw (t:=28) (b:=96) (by kernel_rfl) (by kernel_rfl) elw_cache h2 w2
   obtain ⟨C,hC⟩:=all2_of l2 g2
   have kc:=cap_slw (α := CRow) h2 e2
   simp [encH] at e0 e1 e2
   obtain ⟨e11,e12,e13,e14,e15⟩:=e1
   subst e0 e11 e12 e13 e14 e15 e2
   refine ⟨⟨⟨A0,n0,k0⟩,hr,⟨A2,n2,k2⟩⟩,rfl,⟨l0,hh,C⟩,⟨s0,hR,⟨l2,s2,hC.mono fun _ _ h=>h.1,kc⟩⟩,⟨?_,hG.small,?_,?_⟩,hG,?_⟩
   ·simp only [s0.len];omega
   ·simp only [← hC.len,s2.len];omega
   ·intro z hz
    obtain ⟨i,hi,rfl⟩:=List.getElem_of_mem hz
    exact (hC.get i (by have:=hC.len;simp only at hi;omega) hi).2.small
   ·intro z hz
    obtain ⟨i,hi,rfl⟩:=List.getElem_of_mem hz
    exact (hC.get i (by have:=hC.len;simp only at hi;omega) hi).2
theorem open_system {r:Reach} {b0:Nat} {v:Value} {d:DataW H} {p:List MemPlace} (hv:Value.okWide Tryz.prog W r b0 30 v) (h:DataW.Trod enc Tryz.prog W base spare held 30 v d p) (hw:∀ y∈d.weights Tryz.prog 30,y≤reachBytes) :
  ∃ (r:SRow) (s:KSystem),v = .agg (encSys r).toArray∧RdS W r s∧s.good:=by
 obtain ⟨cs,rfl,hsz⟩:=okWide_struct Tryz.underlying30 hv
 obtain ⟨fuel,hf⟩:=h
 obtain ⟨r,hr,hh,h1,h2⟩:=elw_system _ _ _ hf hw
 refine ⟨r,hh,?_,h1,h2⟩
 have:cs.toList=encSys r:=hr
 rw [← this]
theorem open_str {r:Reach} {b0:Nat} {v:Value} {d:DataW H} {p:List MemPlace} (hv:Value.okWide Tryz.prog W r b0 9 v) (h:DataW.Trod enc Tryz.prog W base spare held 9 v d p) (hw:∀ y∈d.weights Tryz.prog 9,y≤reachBytes) :
  ∃ s:ByteArray,v = .string s∧s.size≤140737488351232:=by
 obtain ⟨s,rfl⟩:=okWide_string Tryz.underlying9 hv
 obtain ⟨fuel,hf⟩:=h
 obtain ⟨s',hs,hz⟩:=elw_str _ _ _ hf hw
 simp [Value.cells,encStr] at hs
 subst hs
 exact ⟨_,rfl,hz⟩
end
open Go.RowKit
section
variable {P:Program} {n:Nat} {Q:Exit→Act→World→Prop} {L:Env} {w:World}
def CutQ (n:Nat) (K:Env→World→Prop) (Q:Exit→Act→World→Prop) : Exit→Act→World→Prop
 | .normal,a,w' => ∃ L',Fit n a L'∧K L' w'
 | e,a,w'=>Q e a w'
theorem CW.cutb {c:Code} {id:Nat} (K:Env→World→Prop) (h:CW P n c (Exit.inBlock id (CutQ n K Q)) L w) (k:∀ L' w',K L' w'→Post n Q .normal L' w') : CW P n c (Exit.inBlock id Q) L w :=
 ⟨fun a ha=>wp_mono (h.out a ha) fun e a' w' h'=>by
  cases e with
  | normal=>obtain ⟨L',hf,hk⟩:=h';exact (k L' w' hk).out a' hf
  | exit j =>
   simp only [Exit.inBlock] at h' ⊢
   split
   ·rename_i hj
    rw [if_pos hj] at h'
    obtain ⟨L',hf,hk⟩:=h'
    exact (k L' w' hk).out a' hf
   ·rename_i hj
    rw [if_neg hj] at h'
    exact h'
  | _=>exact h'⟩
theorem Post.cutn {K:Env→World→Prop} (h:K L w) : Post n (CutQ n K Q) .normal L w:=⟨fun _ ha=>⟨L,ha,h⟩⟩
end
end Go.Proofs.YtigikedbffjeiaaGreat
