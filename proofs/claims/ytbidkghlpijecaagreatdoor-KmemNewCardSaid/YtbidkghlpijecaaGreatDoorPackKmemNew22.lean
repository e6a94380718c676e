/-
  Texts of the claim KmemNew, part 22: what its theorem leans on.
-/
import Derived.Test.YtbidkghlpijecaaGreatDoorPackKmemNew21
import Derived.Test.YtbidkghlpijecaaGreatDoorPackKmemNew3
import Derived.Test.YtbidkghlpijecaaGreatDoorPackKmemNew18
set_option linter.unusedVariables false
set_option linter.unusedSimpArgs false
namespace Go.Proofs.YtbidkghlpijecaaGreatDoor
open Go.RowKit
def apart (a b:Sli) : Prop := ∀ k,ownB a.A a.c=some k→ownB b.A b.c≠some k
theorem apart_new {α : Type} {w:World} {lo:Nat} {e:TypeId} {sz:Nat} {enc : α → List Value} {a b:Sli} {l:List α} (h:Own w lo e sz enc a.A a.n a.c l) (hb:∀ k,ownB b.A b.c=some k→w.heap.size≤k) : apart a b:=fun k h1 h2=>by
 have:=h.lt_size k h1
 have:=hb k h2
 omega
structure CApart (u v:CRow) : Prop where
 names:apart u.Names v.Names
 slabs:apart u.Slabs v.Slabs
 active:apart u.Active v.Active
structure SepC (words:Sli) (cs:List CRow) : Prop where
 pair:cs.Pairwise CApart
 words:∀ u∈cs,apart words u.Active
theorem SepC.nil (x:Sli) : SepC x []:=⟨.nil,fun _ h=>by simp at h⟩
theorem SepC.snoc {x:Sli} {cs:List CRow} {v:CRow} (h:SepC x cs) (h1:∀ u∈cs,CApart u v) (h2:apart x v.Active) : SepC x (cs++[v]):=by
 refine ⟨List.pairwise_append.2 ⟨h.pair,by simp,fun a ha b hb => ?_⟩,fun u hu => ?_⟩
 ·simp at hb;subst hb;exact h1 a ha
 ·rcases List.mem_append.1 hu with hu|hu
  ·exact h.words u hu
  ·simp at hu;subst hu;exact h2
structure OwnSS (w:World) (lo:Nat) (r:SRow) (s:KSystem) (cs:List CRow) : Prop where
 words:Own w lo 3 1 encI r.Words.A r.Words.n r.Words.c s.Words
 heap:OwnH w lo r.Heap s.Heap
 caches:OwnCs w lo r.Caches cs s.Caches
 sep:SepC r.Words cs
theorem OwnSS.low {w:World} {lo lo':Nat} {r:SRow} {s:KSystem} {cs:List CRow} (h:OwnSS w lo r s cs) (hl:lo'≤lo) : OwnSS w lo' r s cs:=⟨h.words.low hl,h.heap.low hl,h.caches.low hl,h.sep⟩
theorem OwnCs.mem {w:World} {lo:Nat} {s:Sli} {cs:List CRow} {l:List KCache} (h:OwnCs w lo s cs l) {u:CRow} (hu:u∈cs) : ∃ c,OwnC w lo u c:=by
 obtain ⟨i,hi,rfl⟩:=List.getElem_of_mem hu
 exact ⟨_,h.each.get i hi (by rw [← h.each.len];exact hi)⟩
theorem OwnCs.apN {w:World} {lo:Nat} {s:Sli} {cs:List CRow} {l:List KCache} (h:OwnCs w lo s cs l) {b:Sli} (hb:∀ k,ownB b.A b.c=some k→w.heap.size≤k) : ∀ u∈cs,apart u.Names b:=fun u hu=>by
 obtain ⟨c,hc⟩:=h.mem hu
 exact apart_new hc.names hb
theorem OwnCs.apS {w:World} {lo:Nat} {s:Sli} {cs:List CRow} {l:List KCache} (h:OwnCs w lo s cs l) {b:Sli} (hb:∀ k,ownB b.A b.c=some k→w.heap.size≤k) : ∀ u∈cs,apart u.Slabs b:=fun u hu=>by
 obtain ⟨c,hc⟩:=h.mem hu
 exact apart_new hc.slabs hb
theorem OwnCs.apA {w:World} {lo:Nat} {s:Sli} {cs:List CRow} {l:List KCache} (h:OwnCs w lo s cs l) {b:Sli} (hb:∀ k,ownB b.A b.c=some k→w.heap.size≤k) : ∀ u∈cs,apart u.Active b:=fun u hu=>by
 obtain ⟨c,hc⟩:=h.mem hu
 exact apart_new hc.active hb
set_option maxHeartbeats 4000000 in
theorem ScopyS_ans (r:SRow) (s:KSystem) (w:World) (hr:RdS w r s) (hs:s.small) :
 Ans Tryz.prog 36 [.agg (encSys r).toArray] w fun v w' => ∃ q zr,v = .agg (encSys q).toArray∧OwnSS w' w.heap.size q s zr:=by
 refine ans_of Tryz.func36 rfl Tryz.ntmps36 rfl ?_
 refine CW.seq (CW.region (SW.box rfl rfl fun b1 w1 hw hb1b hb1 => ?_))
 refine SW.alloc rfl fun b2 w2 hw2 hb2b hb2 => ?_
 have hb2w:w.heap.size≤b2:=Nat.le_trans hw.size hb2b
 have hne2:b2≠b1:=by have:=hb1.lt;omega
 (replace hw:=Ext.trans hw hw2;replace hb1:=hb1.ext hw2)
 obtain ⟨cs,hc⟩:=hr.caches
 have hwl:=hr.words.len
 have s1:=hs.words
 have s3:=hs.caches
 obtain ⟨c1,c2⟩:=hc.len
 repeat' (first|(refine CW.seq ?_)|(refine Post.seq ?_)|refine SW.nil ?_)
 obtain ⟨K,hK⟩ : ∃ K:Env→World→Prop,K=fun L' w' => ∃ X c1 G b3,subEnv L' [(1,.pointer (some ⟨b1,0,none⟩)),(2,.pointer (some ⟨b2,0,none⟩)),(3,.pointer (some ⟨b3,0,none⟩))]∧Ext w w'∧Blk w' b1 44 (encSys r)∧Blk w' b2 44 (encSys .zero) ∧
  Blk w' b3 44 (encSys ⟨⟨X,r.Words.n,c1⟩,G,.nil⟩)∧Own w' w.heap.size 3 1 encI X r.Words.n c1 s.Words∧OwnH w' w.heap.size G s.Heap∧w.heap.size≤b3∧b1≠b3∧b2≠b3:=⟨_,rfl⟩
 refine CW.cut K ?_ ?_
 ·refine CW.any 8 mixed (rb_tail (by kernel_rfl)) rfl fun w1 hw1 hRB => ?_
  replace hw:=Ext.trans hw hw1;replace hb1:=hb1.ext hw1;replace hb2:=hb2.ext hw1;clear hw1
  refine SA.take 0 hRB rfl (by kernel_rfl) (by kernel_rfl) rfl ?_
  repeat ((show SW _ _ _ _ (⟨_,Op.fieldAddr _ _ _,_,_,_,none⟩::_) _ _;refine SW.st (st_field rfl) rfl ?_))
  refine SW.tknil ?_
  refine SA.take 1 hRB rfl (by kernel_rfl) (by kernel_rfl) rfl ?_
  repeat ((show SW _ _ _ _ (⟨_,Op.load _ _,_,_,_,none⟩::_) _ _;refine SW.st (st_load rfl (hb1.cell rfl)) rfl ?_))
  refine SW.tknil ?_
  refine SA.take 3 hRB rfl (by kernel_rfl) (by kernel_rfl) rfl ?_
  repeat ((show SW _ _ _ _ (⟨_,Op.fieldAddr _ _ _,_,_,_,none⟩::_) _ _;refine SW.st (st_field rfl) rfl ?_))
  refine SW.tknil ?_
  refine SA.take 4 hRB rfl (by kernel_rfl) (by kernel_rfl) rfl ?_
  repeat ((show SW _ _ _ _ (⟨_,Op.load _ _,_,_,_,none⟩::_) _ _;refine SW.st (st_loads rfl rfl ((heapIn hb1))) rfl ?_))
  refine SW.tknil ?_
  refine SA.two 2 7 rfl rfl (by kernel_rfl) rfl rfl ?_ ?_
  ·refine SW.call rfl rfl (CloneInt_ans _ _ _ _ _ (hr.words.ext hw) (by omega)) fun v w4 hXX hv => ?_
   obtain ⟨X,c4,rfl,hX⟩:=hv
   replace hX:=hX.low hw.size
   replace hw:=Ext.trans hw hXX
   replace hb1:=hb1.ext hXX
   replace hb2:=hb2.ext hXX
   try replace hb3:=hb3.ext hXX
   refine SW.nil (Post.sa hXX ?_)
   refine SA.two 5 7 rfl rfl (by kernel_rfl) rfl rfl ?_ ?_
   ·refine SW.call rfl rfl (Hcopy_ans _ _ _ (hr.heap.ext hw) hs.heap) fun v w4 hXX hv => ?_
    obtain ⟨G,rfl,hY⟩:=hv
    replace hY:=hY.low hw.size
    replace hX:=hX.ext hXX
    replace hw:=Ext.trans hw hXX
    replace hb1:=hb1.ext hXX
    replace hb2:=hb2.ext hXX
    try replace hb3:=hb3.ext hXX
    refine SW.nil (Post.sa hXX ?_)
    refine SA.take 6 hRB rfl (by kernel_rfl) (by kernel_rfl) rfl ?_
    repeat ((show SW _ _ _ _ (⟨_,Op.build _ _,_,_,_,none⟩::_) _ _;refine SW.st (st_build rfl rfl) rfl ?_))
    refine SW.tknil ?_
    refine SA.one 7 rfl (by kernel_rfl) rfl ?_
    refine SW.alloc rfl fun b3 w4 hXX hb3b hb3 => ?_
    have hb3w:w.heap.size≤b3:=Nat.le_trans hw.size hb3b
    have hne3:b1≠b3:=by have:=hb1.lt;omega
    have hne4:b2≠b3:=by have:=hb2.lt;omega
    replace hw:=Ext.trans hw hXX
    replace hb1:=hb1.ext hXX
    replace hb2:=hb2.ext hXX
    try replace hX:=hX.ext hXX
    try replace hY:=hY.ext hXX
    refine SW.nil (Post.sa hXX ?_)
    refine SA.done (by kernel_rfl) ?_
    skip
    refine SW.storeAgg hb3 rfl rfl rfl rfl (one_s ⟨⟨X,r.Words.n,c4⟩,G,.nil⟩) fun w5 hR2 hg => ?_
    have hG:=hb3.gr hg
    replace hw:=hw.own hb3w hg
    (replace hX:=hX.grT hG rfl;replace hY:=hY.grT hG rfl)
    replace hb1:=hb1.grown hg (by simpa using hne3)
    replace hb2:=hb2.grown hg (by simpa using hne4)
    repeat' (first|(refine Post.np ?_)|refine SW.nil ?_)
    exact Post.cut (K:=K) (by rw [hK];exact ⟨X,c4,G,b3,⟨rfl,rfl,rfl,trivial⟩,hw,hb1,hb2,hR2,hX,hY,hb3w,hne3,hne4⟩)
   ·refine SW.alloc rfl fun b3 w4 hXX hb3b hb3 => ?_
    have hb3w:w.heap.size≤b3:=Nat.le_trans hw.size hb3b
    have hne3:b1≠b3:=by have:=hb1.lt;omega
    have hne4:b2≠b3:=by have:=hb2.lt;omega
    replace hw:=Ext.trans hw hXX
    replace hb1:=hb1.ext hXX
    replace hb2:=hb2.ext hXX
    try replace hX:=hX.ext hXX
    try replace hY:=hY.ext hXX
    refine SW.nil (Post.sa hXX ?_)
    refine SA.one 5 rfl (by kernel_rfl) rfl ?_
    refine SW.call rfl rfl (Hcopy_ans _ _ _ (hr.heap.ext hw) hs.heap) fun v w4 hXX hv => ?_
    obtain ⟨G,rfl,hY⟩:=hv
    replace hY:=hY.low hw.size
    replace hX:=hX.ext hXX
    replace hw:=Ext.trans hw hXX
    replace hb1:=hb1.ext hXX
    replace hb2:=hb2.ext hXX
    try replace hb3:=hb3.ext hXX
    refine SW.nil (Post.sa hXX ?_)
    refine SA.take 6 hRB rfl (by kernel_rfl) (by kernel_rfl) rfl ?_
    repeat ((show SW _ _ _ _ (⟨_,Op.build _ _,_,_,_,none⟩::_) _ _;refine SW.st (st_build rfl rfl) rfl ?_))
    refine SW.tknil ?_
    refine SA.done (by kernel_rfl) ?_
    skip
    refine SW.storeAgg hb3 rfl rfl rfl rfl (one_s ⟨⟨X,r.Words.n,c4⟩,G,.nil⟩) fun w5 hR2 hg => ?_
    have hG:=hb3.gr hg
    replace hw:=hw.own hb3w hg
    (replace hX:=hX.grT hG rfl;replace hY:=hY.grT hG rfl)
    replace hb1:=hb1.grown hg (by simpa using hne3)
    replace hb2:=hb2.grown hg (by simpa using hne4)
    repeat' (first|(refine Post.np ?_)|refine SW.nil ?_)
    exact Post.cut (K:=K) (by rw [hK];exact ⟨X,c4,G,b3,⟨rfl,rfl,rfl,trivial⟩,hw,hb1,hb2,hR2,hX,hY,hb3w,hne3,hne4⟩)
  ·refine SW.alloc rfl fun b3 w4 hXX hb3b hb3 => ?_
   have hb3w:w.heap.size≤b3:=Nat.le_trans hw.size hb3b
   have hne3:b1≠b3:=by have:=hb1.lt;omega
   have hne4:b2≠b3:=by have:=hb2.lt;omega
   replace hw:=Ext.trans hw hXX
   replace hb1:=hb1.ext hXX
   replace hb2:=hb2.ext hXX
   try replace hX:=hX.ext hXX
   try replace hY:=hY.ext hXX
   refine SW.nil (Post.sa hXX ?_)
   refine SA.one 2 rfl (by kernel_rfl) rfl ?_
   refine SW.call rfl rfl (CloneInt_ans _ _ _ _ _ (hr.words.ext hw) (by omega)) fun v w4 hXX hv => ?_
   obtain ⟨X,c4,rfl,hX⟩:=hv
   replace hX:=hX.low hw.size
   replace hw:=Ext.trans hw hXX
   replace hb1:=hb1.ext hXX
   replace hb2:=hb2.ext hXX
   try replace hb3:=hb3.ext hXX
   refine SW.nil (Post.sa hXX ?_)
   refine SA.one 5 rfl (by kernel_rfl) rfl ?_
   refine SW.call rfl rfl (Hcopy_ans _ _ _ (hr.heap.ext hw) hs.heap) fun v w4 hXX hv => ?_
   obtain ⟨G,rfl,hY⟩:=hv
   replace hY:=hY.low hw.size
   replace hX:=hX.ext hXX
   replace hw:=Ext.trans hw hXX
   replace hb1:=hb1.ext hXX
   replace hb2:=hb2.ext hXX
   try replace hb3:=hb3.ext hXX
   refine SW.nil (Post.sa hXX ?_)
   refine SA.take 6 hRB rfl (by kernel_rfl) (by kernel_rfl) rfl ?_
   repeat ((show SW _ _ _ _ (⟨_,Op.build _ _,_,_,_,none⟩::_) _ _;refine SW.st (st_build rfl rfl) rfl ?_))
   refine SW.tknil ?_
   refine SA.done (by kernel_rfl) ?_
   skip
   refine SW.storeAgg hb3 rfl rfl rfl rfl (one_s ⟨⟨X,r.Words.n,c4⟩,G,.nil⟩) fun w5 hR2 hg => ?_
   have hG:=hb3.gr hg
   replace hw:=hw.own hb3w hg
   (replace hX:=hX.grT hG rfl;replace hY:=hY.grT hG rfl)
   replace hb1:=hb1.grown hg (by simpa using hne3)
   replace hb2:=hb2.grown hg (by simpa using hne4)
   repeat' (first|(refine Post.np ?_)|refine SW.nil ?_)
   exact Post.cut (K:=K) (by rw [hK];exact ⟨X,c4,G,b3,⟨rfl,rfl,rfl,trivial⟩,hw,hb1,hb2,hR2,hX,hY,hb3w,hne3,hne4⟩)
 ·clear hb1 hb2 hw
  subst hK
  rintro L' w' ⟨X,c4,G,b3,hsub,hw,hb1,hb2,hb3,hX,hY,hb3w,hne3,hne4⟩
  refine Post.sub hsub ?_
  repeat' (first|(first|refine CW.seq ?_|refine CW.region ?_|refine CW.block ?_)|(refine Post.seq ?_)|refine SW.nil ?_|refine SW.pure rfl rfl ?_|(show SW _ _ _ _ (⟨_,Op.fieldAddr _ _ _,_,_,_,none⟩::_) _ _;refine SW.st (st_field rfl) rfl ?_)|(show SW _ _ _ _ (⟨_,Op.call ⟨.builtin .len,_,_⟩,_,_,_,none⟩::_) _ _;refine SW.st (st_len rfl) rfl ?_)|(show SW _ _ _ _ (⟨_,Op.load _ _,_,_,_,none⟩::_) _ _;refine SW.st (st_load rfl (hb1.cell rfl)) rfl ?_))
  refine CW.loop (fun s:Nat×Option Addr×Nat×List CRow=>[(2,.pointer (some ⟨b2,0,none⟩)),(3,.pointer (some ⟨b3,0,none⟩)),(14,.slice r.Caches.A r.Caches.n r.Caches.c),(15,.int .i64 (r.Caches.n:Int)),(16,.int .i64 (s.1:Int))])
   (fun t w'=>t.1≤r.Caches.n∧Ext w w'∧Blk w' b2 44 (encSys .zero)∧Blk w' b3 44 (encSys ⟨⟨X,r.Words.n,c4⟩,G,⟨t.2.1,t.1,t.2.2.1⟩⟩)∧Own w' w.heap.size 3 1 encI X r.Words.n c4 s.Words∧OwnH w' w.heap.size G s.Heap ∧
     OwnCs w' w.heap.size ⟨t.2.1,t.1,t.2.2.1⟩ t.2.2.2 (s.Caches.take t.1)∧SepC ⟨X,r.Words.n,c4⟩ t.2.2.2) (fun t=>r.Caches.n-t.1) (0,none,0,[]) ⟨rfl,rfl,rfl,rfl,rfl,trivial⟩ ⟨by omega,hw,hb2,hb3,hX,hY,OwnCs.nil _ _,SepC.nil _⟩ ?_
  clear hb1 hb2 hb3 hX hY hw hsub
  rintro ⟨k,A,c,zr⟩ w' ⟨hk,hw,hb2,hb3,hX,hY,hO,hSp⟩
  simp only at hk hb3 hO hSp ⊢
  have hA:=hc.row.base
  by_cases hkn:k<r.Caches.n
  ·have hck:=hc.each.get k (by omega) (by omega)
   have q:=hs.each _ (List.getElem_mem (show k<s.Caches.length by omega))
   have q1:=hck.names.len
   have q2:=hck.slabs.len
   have q3:=hck.active.len
   have q4:=q.names
   have q5:=q.slabs
   have q6:=q.active
   have hlt5:=hO.row.lt_size
   repeat' (first|(first|refine CW.seq ?_|refine CW.region ?_|refine CW.block ?_|refine CW.condd_t rfl (by omega) ?_|refine CW.skip ?_)|(refine Post.seq ?_)|refine SW.nil ?_|refine SW.pure rfl rfl ?_|(show SW _ _ _ _ (⟨_,Op.indexAddr _ _ _,_,_,_,none⟩::_) _ _;refine SW.st (st_indexN rfl rfl (by assumption) (by omega)) rfl ?_)|(show SW _ _ _ _ (⟨_,Op.load _ _,_,_,_,none⟩::_) _ _;refine SW.st (st_loadsx hw rfl rfl ((hc.row.all hkn))) rfl ?_))
   refine SW.alloc rfl fun b5 w1 hw1 hb5b hb5 => ?_
   skip
   refine SW.storeAgg hb5 rfl rfl rfl rfl (one_c _) fun w2 hb5' hg => ?_
   have hXX:=hw1.own hb5b hg
   have hb5w:w.heap.size≤b5:=Nat.le_trans hw.size hb5b
   replace hw:=Ext.trans hw hXX
   replace hb2:=hb2.ext hXX
   replace hb3:=hb3.ext hXX
   replace hX:=hX.ext hXX
   replace hY:=hY.ext hXX
   replace hO:=hO.ext hXX
   replace hb5:=hb5'
   clear hb5' hw1 hg hXX
   repeat' (first|(refine CW.seq ?_)|(refine Post.seq ?_)|refine SW.nil ?_)
   refine CW.any 10 mixed (rb_tail (by kernel_rfl)) rfl fun w1 hw1 hRB => ?_
   replace hw:=Ext.trans hw hw1;replace hb2:=hb2.ext hw1;replace hb3:=hb3.ext hw1;replace hb5:=hb5.ext hw1;replace hX:=hX.ext hw1;replace hY:=hY.ext hw1;replace hO:=hO.ext hw1;clear hw1
   refine SA.take 0 hRB rfl (by kernel_rfl) (by kernel_rfl) rfl ?_
   repeat ((show SW _ _ _ _ (⟨_,Op.fieldAddr _ _ _,_,_,_,none⟩::_) _ _;refine SW.st (st_field rfl) rfl ?_))
   refine SW.tknil ?_
   refine SA.take 1 hRB rfl (by kernel_rfl) (by kernel_rfl) rfl ?_
   repeat ((show SW _ _ _ _ (⟨_,Op.load _ _,_,_,_,none⟩::_) _ _;refine SW.st (st_load rfl (hb5.cell rfl)) rfl ?_))
   refine SW.tknil ?_
   refine SA.take 3 hRB rfl (by kernel_rfl) (by kernel_rfl) rfl ?_
   repeat ((show SW _ _ _ _ (⟨_,Op.fieldAddr _ _ _,_,_,_,none⟩::_) _ _;refine SW.st (st_field rfl) rfl ?_))
   refine SW.tknil ?_
   refine SA.take 4 hRB rfl (by kernel_rfl) (by kernel_rfl) rfl ?_
   repeat ((show SW _ _ _ _ (⟨_,Op.load _ _,_,_,_,none⟩::_) _ _;refine SW.st (st_load rfl (hb5.cell rfl)) rfl ?_))
   refine SW.tknil ?_
   refine SA.take 6 hRB rfl (by kernel_rfl) (by kernel_rfl) rfl ?_
   repeat ((show SW _ _ _ _ (⟨_,Op.fieldAddr _ _ _,_,_,_,none⟩::_) _ _;refine SW.st (st_field rfl) rfl ?_))
   refine SW.tknil ?_
   refine SA.take 7 hRB rfl (by kernel_rfl) (by kernel_rfl) rfl ?_
   repeat ((show SW _ _ _ _ (⟨_,Op.load _ _,_,_,_,none⟩::_) _ _;refine SW.st (st_load rfl (hb5.cell rfl)) rfl ?_))
   refine SW.tknil ?_
   refine SA.one 2 rfl (by kernel_rfl) rfl ?_
   refine SW.call rfl rfl (CloneStr_ans _ _ _ _ _ (hck.names.ext hw) (by omega)) fun v w4 hXX hv => ?_
   obtain ⟨N,n4,rfl,hN⟩:=hv
   have hn1:=hO.apN (b:=⟨N,cs[k].Names.n,n4⟩) hN.row_ge
   replace hN:=hN.low hw.size
   (replace hw:=Ext.trans hw hXX;replace hb2:=hb2.ext hXX;replace hb3:=hb3.ext hXX;replace hb5:=hb5.ext hXX;replace hX:=hX.ext hXX;replace hY:=hY.ext hXX;replace hO:=hO.ext hXX)
   refine SW.nil (Post.sa hXX ?_)
   refine SA.take 9 hRB rfl (by kernel_rfl) (by kernel_rfl) rfl ?_
   repeat ((show SW _ _ _ _ (⟨_,Op.fieldAddr _ _ _,_,_,_,none⟩::_) _ _;refine SW.st (st_field rfl) rfl ?_))
   refine SW.tknil ?_
   refine SA.one 5 rfl (by kernel_rfl) rfl ?_
   refine SW.call rfl rfl (CloneSlab_ans _ _ _ _ _ (hck.slabs.ext hw) (by omega)) fun v w4 hXX hv => ?_
   obtain ⟨M,m4,rfl,hM⟩:=hv
   have hm1:=hO.apS (b:=⟨M,cs[k].Slabs.n,m4⟩) hM.row_ge
   replace hM:=hM.low hw.size
   (replace hw:=Ext.trans hw hXX;replace hb2:=hb2.ext hXX;replace hb3:=hb3.ext hXX;replace hb5:=hb5.ext hXX;replace hX:=hX.ext hXX;replace hY:=hY.ext hXX;replace hO:=hO.ext hXX;replace hN:=hN.ext hXX)
   refine SW.nil (Post.sa hXX ?_)
   refine SA.one 8 rfl (by kernel_rfl) rfl ?_
   refine SW.call rfl rfl (CloneInt_ans _ _ _ _ _ (hck.active.ext hw) (by omega)) fun v w4 hXX hv => ?_
   obtain ⟨Q,q7,rfl,hQ⟩:=hv
   have hq1:=hO.apA (b:=⟨Q,cs[k].Active.n,q7⟩) hQ.row_ge
   have hq2:=apart_new (a:=⟨X,r.Words.n,c4⟩) (b:=⟨Q,cs[k].Active.n,q7⟩) hX hQ.row_ge
   replace hQ:=hQ.low hw.size
   (replace hw:=Ext.trans hw hXX;replace hb2:=hb2.ext hXX;replace hb3:=hb3.ext hXX;replace hb5:=hb5.ext hXX;replace hX:=hX.ext hXX;replace hY:=hY.ext hXX;replace hO:=hO.ext hXX;replace hN:=hN.ext hXX;replace hM:=hM.ext hXX)
   refine SW.nil (Post.sa hXX ?_)
   refine SA.done (by kernel_rfl) ?_
   refine SW.storeB (i:=0) hb5 rfl rfl rfl rfl fun w6 hb5' hg => ?_
   have hG:=hb5.gr hg
   replace hw:=hw.own hb5w hg
   replace hO:=hO.blk hb5 hg hlt5 hb5b
   (replace hb2:=hb2.grT hG rfl;replace hb3:=hb3.grT hG rfl;replace hX:=hX.grT hG rfl;replace hY:=hY.grT hG rfl;replace hN:=hN.grT hG rfl;replace hM:=hM.grT hG rfl;replace hQ:=hQ.grT hG rfl)
   replace hb5:=hb5'
   clear hb5' hg hG
   repeat' ((show SW _ _ _ _ (⟨_,Op.fieldAddr _ _ _,_,_,_,none⟩::_) _ _;refine SW.st (st_field rfl) rfl ?_))
   refine SW.storeB (i:=4) hb5 rfl rfl rfl rfl fun w6 hb5' hg => ?_
   have hG:=hb5.gr hg
   replace hw:=hw.own hb5w hg
   replace hO:=hO.blk hb5 hg hlt5 hb5b
   (replace hb2:=hb2.grT hG rfl;replace hb3:=hb3.grT hG rfl;replace hX:=hX.grT hG rfl;replace hY:=hY.grT hG rfl;replace hN:=hN.grT hG rfl;replace hM:=hM.grT hG rfl;replace hQ:=hQ.grT hG rfl)
   replace hb5:=hb5'
   clear hb5' hg hG
   repeat' ((show SW _ _ _ _ (⟨_,Op.fieldAddr _ _ _,_,_,_,none⟩::_) _ _;refine SW.st (st_field rfl) rfl ?_))
   refine SW.storeB (i:=5) hb5 rfl rfl rfl rfl fun w6 hb5' hg => ?_
   have hG:=hb5.gr hg
   replace hw:=hw.own hb5w hg
   replace hO:=hO.blk hb5 hg hlt5 hb5b
   (replace hb2:=hb2.grT hG rfl;replace hb3:=hb3.grT hG rfl;replace hX:=hX.grT hG rfl;replace hY:=hY.grT hG rfl;replace hN:=hN.grT hG rfl;replace hM:=hM.grT hG rfl;replace hQ:=hQ.grT hG rfl)
   replace hb5:=hb5'
   clear hb5' hg hG
   repeat' (first|(refine CW.region ?_)|(first|refine Post.seq ?_|refine Post.np ?_)|refine SW.nil ?_|(show SW _ _ _ _ (⟨_,Op.fieldAddr _ _ _,_,_,_,none⟩::_) _ _;refine SW.st (st_field rfl) rfl ?_)|(show SW _ _ _ _ (⟨_,Op.load _ _,_,_,_,none⟩::_) _ _;first|refine SW.st (st_load rfl (hb3.cell rfl)) rfl ?_|refine SW.st (st_loads rfl rfl ((fun _ _=>hb5.cell))) rfl ?_))
   refine SW.build1 rfl rfl rfl rfl rfl fun b w6 hXX hb hB => ?_
   (replace hw:=Ext.trans hw hXX;replace hb2:=hb2.ext hXX;replace hb3:=hb3.ext hXX;replace hX:=hX.ext hXX;replace hY:=hY.ext hXX;replace hO:=hO.ext hXX;replace hN:=hN.ext hXX;replace hM:=hM.ext hXX;replace hQ:=hQ.ext hXX)
   refine SW.append hO.row (Blk.sl1 (enc:=encC) (x:=⟨⟨N,_,n4⟩,cs[k].Size,cs[k].Per,cs[k].Order,⟨M,_,m4⟩,⟨Q,_,q7⟩⟩) hB) hw.size rfl rfl rfl (by simp only;omega) (by simp only;omega) fun A2 c2 w5 hO1 hg => ?_
   have hG:=hO.row.gr hg
   replace hw:=ext_grown hw hg (Nat.le_refl _) hO.row.row_ge
   (replace hb2:=hb2.grT hG rfl;replace hb3:=hb3.grT hG rfl;replace hX:=hX.grT hG rfl;replace hY:=hY.grT hG rfl;replace hN:=hN.grT hG rfl;replace hM:=hM.grT hG rfl;replace hQ:=hQ.grT hG rfl)
   have hE:=hO.each.mono fun _ _ h=>h.grT hG rfl
   repeat' ((show SW _ _ _ _ (⟨_,Op.fieldAddr _ _ _,_,_,_,none⟩::_) _ _;refine SW.st (st_field rfl) rfl ?_))
   refine SW.storeB (i:=6) hb3 rfl rfl rfl rfl fun w6 hb3' hg => ?_
   have hG:=hb3.gr hg
   replace hw:=hw.own hb3w hg
   replace hb2:=hb2.grown hg (by simpa using hne4)
   (replace hX:=hX.grT hG rfl;replace hY:=hY.grT hG rfl;replace hN:=hN.grT hG rfl;replace hM:=hM.grT hG rfl;replace hQ:=hQ.grT hG rfl;replace hO1:=hO1.grT hG rfl)
   replace hE:=hE.mono fun _ _ h=>h.grT hG rfl
   repeat' (first|(refine CW.region ?_)|(first|refine Post.seq ?_|refine Post.blk ?_)|refine SW.nil ?_|refine SW.pure rfl rfl ?_|(show SW _ _ _ _ (⟨_,Op.binOp _ _ _ _ _,_,_,_,none⟩::_) _ _;refine SW.st (st_add rfl rfl (by omega) (by omega)) rfl ?_))
   refine Post.again (k+1,A2,c2,zr++[⟨⟨N,_,n4⟩,cs[k].Size,cs[k].Per,cs[k].Order,⟨M,_,m4⟩,⟨Q,_,q7⟩⟩]) ⟨rfl,rfl,rfl,rfl,rfl,trivial⟩ (by simp only;omega) ⟨by simp only;omega,hw,hb2,hb3',hX,hY,⟨hO1,?_⟩,hSp.snoc (fun u hu=>⟨hn1 u hu,hm1 u hu,hq1 u hu⟩) hq2⟩
   rw [List.take_succ_eq_append_getElem (by omega)]
   exact hE.snoc ⟨hck.size,hck.per,hck.order,hN,hM,hQ⟩
  ·obtain rfl:k=r.Caches.n:=by omega
   rw [List.take_of_length_le (by omega)] at hO
   repeat' (first|(first|refine CW.seq ?_|refine CW.region ?_|refine CW.condd_f rfl (by omega) ?_|refine CW.exit ?_)|(first|refine Post.seq ?_|refine Post.seq_exit ?_|refine Post.hit ?_|refine Post.again_exit ?_)|refine SW.nil ?_|refine SW.pure rfl rfl ?_|(show SW _ _ _ _ (⟨_,Op.load _ _,_,_,_,none⟩::_) _ _;refine SW.st (st_loads rfl rfl ((fun _ _=>hb3.cell))) rfl ?_))
   refine SW.storeAgg hb2 rfl rfl rfl rfl (one_s _) fun w5 hR2 hg => ?_
   have hG:=hb2.gr hg
   replace hw:=hw.own hb2w hg
   (replace hX:=hX.grT hG rfl;replace hY:=hY.grT hG rfl;replace hO:=hO.grT hG rfl)
   repeat' (first|(refine CW.ret ?_)|(refine Post.seq ?_)|refine SW.nil ?_)
   exact Post.ret1c rfl rfl hR2 rfl ⟨_,rfl,hw,⟨_,G,_⟩,zr,rfl,hX,hY,hO,hSp⟩
open Go.RowKit
section
variable {P:Program} {L:Env} {w:World} {d:Option Nat} {T:TypeId} {pos:String} {af:Array Edge} {g:Option (Nat×Bool)}
theorem st_andN {t ty:TypeId} {x y:Operand} {i j:Int} (a b:Nat) (hx:opv L x=some (.int .i64 i)) (hy:opv L y=some (.int .i64 j)) (ha:i=(a:Int)) (hb:j=(b:Int)) (ha':a<9223372036854775808) (hb':b<9223372036854775808) :
 St P ⟨d,.binOp .and t x y ty,T,pos,af,g⟩ L w (.int .i64 ((a &&& b:Nat) : Int)) :=
 ⟨fun n A hA w' _=>by
  have e1:=hA.eval hx
  have e2:=hA.eval hy
  subst ha hb
  generalize A.eval = ρ at *
  have hlt:a &&& b<2 ^ 63:=Nat.and_lt_two_pow _ (by omega)
  have e:(BitVec.ofInt 64 (a:Int) &&& BitVec.ofInt 64 (b:Int)).toNat=a &&& b:=by
   rw [BitVec.toNat_and,BitVec.ofInt_natCast,BitVec.ofInt_natCast,BitVec.toNat_ofNat,BitVec.toNat_ofNat,Nat.mod_eq_of_lt (by omega),Nat.mod_eq_of_lt (by omega)]
  have hb1:(Op.intBits .and .i64 (a:Int) (b:Int)).run P w' = .ok (.int .i64 ((a &&& b:Nat) : Int)) w':=by
   have:Op.intBits .and .i64 (a:Int) (b:Int)=(pure (.int .i64 (IntKind.i64.wrap ((BitVec.ofInt 64 (a:Int) &&& BitVec.ofInt 64 (b:Int)).toNat:Nat))) : Sem Value):=rfl
   rw [this,e,wrap_in (by omega) (by omega)]
   rfl
  have hb2:(binOp .and t (.int .i64 (a:Int)) (.int .i64 (b:Int))).run P w' = .ok (.int .i64 ((a &&& b:Nat) : Int)) w':=by
   have:binOp .and t (.int .i64 (a:Int)) (.int .i64 (b:Int))=Op.intBits .and .i64 (a:Int) (b:Int):=by simp [binOp]
   rw [this,hb1]
  simp [execOp,e1,e2,eqGuard,hb2]⟩
end
open Go.RowKit
section
variable {P:Program} {L:Env} {w:World} {d:Option Nat} {T:TypeId} {pos:String} {af:Array Edge} {g:Option (Nat×Bool)}
def andV (a:Int) : Int:=((a.toNat &&& (a-1).toNat:Nat) : Int)
theorem st_andA {t ty:TypeId} {x y:Operand} {a:Int} (hx:opv L x=some (.int .i64 a)) (hy:opv L y=some (.int .i64 (a-1))) (h : 1≤a∧a≤8) : St P ⟨d,.binOp .and t x y ty,T,pos,af,g⟩ L w (.int .i64 (andV a)) :=
 st_andN a.toNat (a-1).toNat hx hy (by omega) (by omega) (by omega) (by omega)
end
theorem andV_ok {a:Int} (h : 1≤a∧a≤8) : andV a=0↔alignOk a:=by
 rcases (show a=1∨a=2∨a=3∨a=4∨a=5∨a=6∨a=7∨a=8 by omega) with rfl|rfl|rfl|rfl|rfl|rfl|rfl|rfl<;>unfold alignOk<;>decide
theorem idxOf_first {α : Type} {p : α → Bool} {l:List α} (h:l.any p=true) : ∃ (i:Nat) (hi:i<l.length),p l[i]=true∧(∀ (j:Nat) (hj:j<l.length),j<i→p l[j]=false)∧idxOf p l=(i:Int):=by
 have h1:l.findIdx p<l.length:=List.findIdx_lt_length_of_exists (by simpa using h)
 exact ⟨l.findIdx p,h1,List.findIdx_getElem (w:=h1),fun j hj hji=>by simpa using List.not_of_lt_findIdx hji,by unfold idxOf;rw [if_pos h]⟩
theorem apart_ne {a b:Sli} (h:apart a b∨apart b a) : ownB b.A b.c=none∨ownB b.A b.c≠ownB a.A a.c:=by
 cases e:ownB b.A b.c with
 | none=>exact .inl rfl
 | some g =>
   right
   intro e2
   rcases h with h|h
   ·exact h g e2.symm e
   ·exact h g e e2.symm
theorem SepC.ne {x:Sli} {cs:List CRow} (h:SepC x cs) {i j:Nat} (hi:i<cs.length) (hj:j<cs.length) (hij:j≠i) : CApart cs[i] cs[j]∨CApart cs[j] cs[i]:=by
 have hp:=List.pairwise_iff_getElem.1 h.pair
 rcases Nat.lt_or_ge i j with g|g
 ·exact .inl (hp i j hi hj g)
 ·exact .inr (hp j i hj hi (by omega))
theorem sizeZ_ans (x:CRow) (b3:Nat) (z:Int) (w:World) (h3:Blk w b3 3 [.int .i64 z]) :
 Ans Tryz.prog 138 ([.agg (encC x).toArray]++[.pointer (some ⟨b3,0,none⟩)]) w fun v _=>v = .bool (decide (x.Size=z)):=by
 refine ans_of Tryz.func138 rfl Tryz.ntmps138 rfl ?_
 refine CW.seq (CW.region (SW.box rfl rfl fun b1 w1 hw hb1b hb1 => ?_))
 replace h3:=h3.ext hw
 have h3c:=h3.cell (i:=0) (v := .int .i64 z) rfl
 rw [add_zero] at h3c
 repeat' (first|(first|refine CW.seq ?_|refine CW.region ?_|refine CW.ret ?_)|(refine Post.seq ?_)|refine SW.nil ?_|refine SW.pure rfl rfl ?_|(show SW _ _ _ _ (⟨_,Op.fieldAddr _ _ _,_,_,_,none⟩::_) _ _;refine SW.st (st_field rfl) rfl ?_)|(show SW _ _ _ _ (⟨_,Op.load _ _,_,_,_,none⟩::_) _ _;first|refine SW.st (st_load rfl (hb1.cell rfl)) rfl ?_|refine SW.st (st_load rfl h3c) rfl ?_))
 exact Post.ret1 rfl rfl ⟨_,rfl,hw,rfl⟩
set_option maxHeartbeats 8000000 in
theorem Create_ans (r:SRow) (s:KSystem) (n:ByteArray) (size align:Int) (w:World) (hr:RdS w r s) (hf:s.fine) (hns:n.size≤140737488351232) :
 Ans Tryz.prog 58 [.agg (encSys r).toArray,.string n,.int .i64 size,.int .i64 align] w fun v w' => ∃ u,CreR s n size align u∧SysOut w.heap.size u v w':=by
 refine ans_of Tryz.func58 rfl Tryz.ntmps58 rfl ?_
 have hs:=hf.small
 refine CW.seq (CW.region (SW.box rfl rfl fun b4 w1 hw hb4b hb4 => ?_))
 have hb4w:=hb4b
 refine SW.box1 rfl rfl rfl fun b6 w2 hw2 hb6b hb6 => ?_
 have hb6w:w.heap.size≤b6:=Nat.le_trans hw.size hb6b
 (replace hw:=Ext.trans hw hw2;replace hb4:=hb4.ext hw2)
 refine SW.alloc rfl fun b8 w3 hw3 hb8b hb8 => ?_
 have hb8w:w.heap.size≤b8:=Nat.le_trans hw.size hb8b
 have hne48:b4≠b8:=by have:=hb4.lt;omega
 (replace hw:=Ext.trans hw hw3;replace hb4:=hb4.ext hw3;replace hb6:=hb6.ext hw3)
 have h6c:∀ (w':World) (z:Int),Blk w' b6 3 [.int .i64 z]→w'.cell? ⟨b6,0,none⟩=some (.int .i64 z):=fun w' z h=>by
  have:=h.cell (i:=0) (v := .int .i64 z) rfl
  rwa [add_zero] at this
 obtain ⟨q,hq⟩ : ∃ q,sysB s=q:=⟨_,rfl⟩
 have c1:∀ w',Ext w w'→Ans Tryz.prog 41 [.agg (encSys r).toArray] w' fun v _=>v = .int .i64 (if q then 0 else 8):=fun w' hx=>by
  have:=Scheck_ans r s w' (hr.ext hx) hf
  rwa [hq] at this
 cases q
 ·simp only [Bool.false_eq_true,if_false] at c1
  repeat' (first|(first|refine CW.seq ?_|refine CW.region ?_|refine CW.condn_t rfl (by omega) ?_)|(refine Post.seq ?_)|refine SW.nil ?_|refine SW.pure rfl rfl ?_|(show SW _ _ _ _ (⟨_,Op.build _ _,_,_,_,none⟩::_) _ _;refine SW.st (st_build rfl rfl) rfl ?_)|(show SW _ _ _ _ (⟨_,Op.load _ _,_,_,_,none⟩::_) _ _;refine SW.st (st_loads rfl rfl ((fun _ _=>hb4.cell))) rfl ?_)|(show SW _ _ _ _ (⟨_,Op.call ⟨.value (.func _),_,_⟩,_,_,_,none⟩::_) _ _;(refine SW.call rfl rfl (c1 _ hw) ?_;intro v w1 hw1 hv;subst hv;replace hw:=Ext.trans hw hw1;replace hb4:=hb4.ext hw1;replace hb8:=hb8.ext hw1;clear hw1)))
  refine SW.storeAgg hb8 rfl rfl rfl rfl (one_s .zero) fun w5 hR2 hg => ?_
  replace hw:=hw.own hb8w hg
  repeat' (first|(refine CW.ret ?_)|(first|refine Post.seq ?_|refine Post.seq_ret ?_)|refine SW.nil ?_|refine SW.pure rfl rfl ?_)
  exact Post.ret2c rfl rfl rfl hR2 rfl ⟨_,rfl,hw,_,.bad hq,SysOut.zero 8 _ _⟩
 ·simp only [if_true] at c1
  have hM:=sysB_iff.1 hq
  obtain ⟨p,hp⟩ : ∃ p,nameB n=p:=⟨_,rfl⟩
  have c2:∀ w',Ans Tryz.prog 92 [.string n] w' fun v _=>v = .bool p:=fun w'=>by
   have:=name_ans n w' hns
   rwa [hp] at this
  obtain ⟨gv,hgv⟩ : ∃ gv,andV align=gv:=⟨_,rfl⟩
  have hga : 1≤align∧align≤8→(gv=0↔alignOk align):=fun h=>by rw [← hgv];exact andV_ok h
  by_cases hal:p=true∧alignOk align
  ·obtain ⟨rfl,hal⟩:=hal
   have hal':=hal
   unfold alignOk at hal'
   have hg0:gv=0:=(hga (by omega)).2 hal
   have hnA:nameB n=true∧alignOk align:=⟨hp,hal⟩
   by_cases hsz : 1≤size∧size≤64
   ·obtain ⟨t,ht⟩ : ∃ t,s.Caches.any (hasN n)=t:=⟨_,rfl⟩
    obtain ⟨ix,hix⟩ : ∃ ix,idxOf (hasN n) s.Caches=ix:=⟨_,rfl⟩
    have c3:∀ w',Ext w w'→Ans Tryz.prog 136 [.agg (encSys r).toArray,.string n] w' fun v _=>v = .tuple #[.int .i64 ix,.bool t]:=fun w' hx=>by
     have:=named_ans r s n w' (hr.ext hx) hs
     rwa [ht,hix] at this
    have hu:=upTo_ok hal hsz
    have hez:upTo size align=(size+align-1) / align*align:=rfl
    rw [hez] at hu
    cases t
    ·repeat' (first|(first|refine CW.seq ?_|refine CW.region ?_|refine CW.condd_f rfl (by omega) ?_|refine CW.condn_f rfl (by omega) ?_|refine CW.condf rfl ?_|refine CW.skip ?_)|(refine Post.seq ?_)|refine SW.nil ?_|(show SW _ _ _ _ (⟨_,_,_,_,_,some _⟩::_) _ _;first|refine SW.want_f rfl rfl (by with_reducible rfl) ?_|refine SW.splitd_f rfl rfl rfl (by omega) ?_|refine SW.want rfl rfl ?_)|refine SW.pure rfl rfl ?_|(show SW _ _ _ _ (⟨_,Op.binOp _ _ _ _ _,_,_,_,none⟩::_) _ _;first|refine SW.st (st_add rfl rfl (by omega) (by omega)) rfl ?_|refine SW.st (st_sub rfl rfl (by omega) (by omega)) rfl ?_|refine SW.st (st_mul rfl rfl (by omega) (by omega)) rfl ?_|refine SW.st (st_quo rfl rfl (by omega) (by omega) (by omega)) rfl ?_)|(show SW _ _ _ _ (⟨_,Op.load _ _,_,_,_,none⟩::_) _ _;first|refine SW.st (st_loads rfl rfl ((fun _ _=>hb4.cell))) rfl ?_|refine SW.st (st_load rfl (h6c _ _ hb6)) rfl ?_)|(show SW _ _ _ _ (⟨_,Op.call ⟨.value (.func _),_,_⟩,_,_,_,none⟩::_) _ _;first|(refine SW.call rfl rfl (c1 _ hw) ?_;intro v w1 hw1 hv;subst hv;replace hw:=Ext.trans hw hw1;replace hb4:=hb4.ext hw1;replace hb6:=hb6.ext hw1;replace hb8:=hb8.ext hw1;clear hw1)|(refine SW.call rfl rfl (c2 _) ?_;intro v w1 hw1 hv;subst hv;replace hw:=Ext.trans hw hw1;replace hb4:=hb4.ext hw1;replace hb6:=hb6.ext hw1;replace hb8:=hb8.ext hw1;clear hw1)|(refine SW.call rfl rfl (c3 _ hw) ?_;intro v w1 hw1 hv;subst hv;replace hw:=Ext.trans hw hw1;replace hb4:=hb4.ext hw1;replace hb6:=hb6.ext hw1;replace hb8:=hb8.ext hw1;clear hw1))|(refine SW.st ((st_andA rfl rfl (by omega)).eq (congrArg (Value.int .i64) hgv)) rfl ?_))
     all_goals first|(exfalso;omega)|skip
     clear c1 c2 c3
     refine SW.storeB (i:=0) hb6 rfl rfl rfl rfl fun w5 hb6' hg => ?_
     have hG:=hb6.gr hg
     replace hw:=hw.own hb6w hg
     (replace hb4:=hb4.grT hG rfl;replace hb8:=hb8.grT hG rfl)
     obtain ⟨z,hz⟩ : ∃ z,upTo size align=z:=⟨_,rfl⟩
     replace hb6:Blk w5 b6 3 [.int .i64 z]:=by rw [← hz,hez];exact hb6'
     clear hb6' hg hG
     have hzs : 1≤z∧z≤64:=by rw [← hz,hez];omega
     clear hu
     repeat' (first|(first|refine CW.seq ?_|refine CW.region ?_)|(refine Post.seq ?_)|refine SW.nil ?_|(show SW _ _ _ _ (⟨_,Op.load _ _,_,_,_,none⟩::_) _ _;refine SW.st (st_loads rfl rfl ((fun _ _=>hb4.cell))) rfl ?_))
     refine SW.call rfl rfl (ScopyS_ans r s _ (hr.ext hw) hs) fun v w6 hXX hv => ?_
     obtain ⟨q,zr,rfl,hO⟩:=hv
     replace hO:=hO.low hw.size
     (replace hw:=Ext.trans hw hXX;replace hb4:=hb4.ext hXX;replace hb6:=hb6.ext hXX;replace hb8:=hb8.ext hXX)
     obtain ⟨hX,hY,hC,hSp⟩:=hO
     skip
     refine SW.storeAgg hb4 rfl rfl rfl rfl (one_s q) fun w7 hb4' hg => ?_
     have hG:=hb4.gr hg
     replace hw:=hw.own hb4w hg
     replace hb8:=hb8.grown hg (by simpa using fun e=>hne48 e.symm)
     (replace hb6:=hb6.grT hG rfl;replace hX:=hX.grT hG rfl;replace hY:=hY.grT hG rfl;replace hC:=hC.grT hG rfl)
     replace hb4:=hb4'
     clear hb4' hg hG
     obtain ⟨z1,z2⟩:=hC.rd.len
     have m3:=hs.caches
     have hcong:=idxOf_congr (p:=fun x:CRow=>decide (x.Size=z)) (q:=sizeN z) (l:=zr) (m:=s.Caches) (by omega) fun k h1 h2=>by
      have:=(hC.each.get k h1 h2).size
      simp only [sizeN,this]
     repeat' (first|(first|refine CW.seq ?_|refine CW.region ?_)|(refine Post.seq ?_)|refine SW.nil ?_|(show SW _ _ _ _ (⟨_,Op.fieldAddr _ _ _,_,_,_,none⟩::_) _ _;refine SW.st (st_field rfl) rfl ?_)|(show SW _ _ _ _ (⟨_,Op.load _ _,_,_,_,none⟩::_) _ _;refine SW.st (st_load rfl (hb4.cell (i:=6) (v := .slice q.Caches.A q.Caches.n q.Caches.c) rfl)) rfl ?_)|(refine SW.st (st_func (vs:=[.pointer (some ⟨b6,0,none⟩)]) rfl) rfl ?_))
     refine SW.call rfl rfl (IndexFuncCRow_ans _ _ _ _ _ hC.row.sl _ [.pointer (some ⟨b6,0,none⟩)] (fun x=>decide (x.Size=z)) (fun x => .agg (encC x).toArray) (fun x=>rfl) (fun x hx w1 hx1=>sizeZ_ans x b6 z w1 (hb6.ext hx1)) (by omega)) fun v w8 hXX hv => ?_
     subst hv
     rw [hcong.1]
     (replace hw:=Ext.trans hw hXX;replace hb4:=hb4.ext hXX;replace hb6:=hb6.ext hXX;replace hb8:=hb8.ext hXX;replace hX:=hX.ext hXX;replace hY:=hY.ext hXX;replace hC:=hC.ext hXX)
     cases hany:s.Caches.any (sizeN z)
     ·obtain ⟨hI,_⟩:=idxOf_none (p:=sizeN z) (l:=s.Caches) (fun j hj=>by
       have:=List.any_eq_false.1 hany _ (List.getElem_mem hj)
       simpa using this)
      rw [hI]
      have hno:∀ (j:Nat) (hj:j<s.Caches.length),s.Caches[j].Size≠z:=fun j hj=>by
       have:=List.any_eq_false.1 hany _ (List.getElem_mem hj)
       simpa [sizeN] using this
      by_cases h20:s.Caches.length=20
      ·repeat' (first|(first|refine CW.seq ?_|refine CW.region ?_|refine CW.condd_t rfl (by omega) ?_|refine CW.condd_f rfl (by omega) ?_|refine CW.skip ?_)|(refine Post.seq ?_)|refine SW.nil ?_|refine SW.pure rfl rfl ?_|(show SW _ _ _ _ (⟨_,Op.fieldAddr _ _ _,_,_,_,none⟩::_) _ _;refine SW.st (st_field rfl) rfl ?_)|(show SW _ _ _ _ (⟨_,Op.build _ _,_,_,_,none⟩::_) _ _;refine SW.st (st_build rfl rfl) rfl ?_)|(show SW _ _ _ _ (⟨_,Op.call ⟨.builtin .len,_,_⟩,_,_,_,none⟩::_) _ _;refine SW.st (st_len rfl) rfl ?_)|(show SW _ _ _ _ (⟨_,Op.load _ _,_,_,_,none⟩::_) _ _;refine SW.st (st_load rfl (hb4.cell (i:=6) (v := .slice q.Caches.A q.Caches.n q.Caches.c) rfl)) rfl ?_))
       refine SW.storeAgg hb8 rfl rfl rfl rfl (one_s .zero) fun w5 hR2 hg => ?_
       replace hw:=hw.own hb8w hg
       repeat' (first|(refine CW.ret ?_)|(first|refine Post.seq ?_|refine Post.seq_ret ?_)|refine SW.nil ?_|refine SW.pure rfl rfl ?_)
       exact Post.ret2c rfl rfl rfl hR2 rfl ⟨_,rfl,hw,_,.full hq hnA hsz ht (by rw [hz];exact hno) h20,SysOut.zero 9 _ _⟩
      ·have h19:s.Caches.length<20:=by
        have:=hM.most
        omega
       obtain ⟨o,per,e,hLy⟩ : ∃ o per e,layoutF z=(o,per,e):=⟨_,_,_,rfl⟩
       have cL:∀ w',Ans Tryz.prog 141 [.int .i64 z] w' fun v _=>v = .tuple #[.int .i64 o,.int .i64 per,.int .i64 e]:=fun w'=>layout_nf (Layout_ans z w') hLy
       have hcp:=hM.heap.cpus
       have eC:=hY.cpus
       repeat' (first|(first|refine CW.seq ?_|refine CW.region ?_|refine CW.condd_f rfl (by omega) ?_|refine CW.skip ?_)|(refine Post.seq ?_)|refine SW.nil ?_|refine SW.pure rfl rfl ?_|(show SW _ _ _ _ (⟨_,Op.fieldAddr _ _ _,_,_,_,none⟩::_) _ _;refine SW.st (st_field rfl) rfl ?_)|(show SW _ _ _ _ (⟨_,Op.call ⟨.builtin .len,_,_⟩,_,_,_,none⟩::_) _ _;refine SW.st (st_len rfl) rfl ?_)|(show SW _ _ _ _ (⟨_,Op.load _ _,_,_,_,none⟩::_) _ _;first|refine SW.st (st_load rfl (hb4.cell (i:=6) (v := .slice q.Caches.A q.Caches.n q.Caches.c) rfl)) rfl ?_|refine SW.st (st_load rfl (h6c _ _ hb6)) rfl ?_)|(show SW _ _ _ _ (⟨_,Op.call ⟨.value (.func _),_,_⟩,_,_,_,none⟩::_) _ _;(refine SW.call rfl rfl (cL _) ?_;intro v w1 hw1 hv;subst hv;replace hw:=Ext.trans hw hw1;replace hb4:=hb4.ext hw1;replace hb6:=hb6.ext hw1;replace hb8:=hb8.ext hw1;replace hX:=hX.ext hw1;replace hY:=hY.ext hw1;replace hC:=hC.ext hw1;clear hw1)))
       clear cL
       refine SW.build1 (vs:=[.string n]) rfl rfl rfl rfl rfl fun bn w9 hXX hbn hBn => ?_
       have hbnw:w.heap.size≤bn:=Nat.le_trans hw.size hbn
       (replace hw:=Ext.trans hw hXX;replace hb4:=hb4.ext hXX;replace hb6:=hb6.ext hXX;replace hb8:=hb8.ext hXX;replace hX:=hX.ext hXX;replace hY:=hY.ext hXX;replace hC:=hC.ext hXX)
       have hN:Own w9 w.heap.size 9 1 encStr (some ⟨bn,0,none⟩) 1 1 [n]:=Own.closed (rest:=[]) rfl hBn rfl (by omega) (by omega) (by simp [maxLen]) hbnw
       repeat' (first|refine SW.pure rfl rfl ?_|(show SW _ _ _ _ (⟨_,Op.build _ _,_,_,_,none⟩::_) _ _;refine SW.st (st_build rfl rfl) rfl ?_)|(show SW _ _ _ _ (⟨_,Op.load _ _,_,_,_,none⟩::_) _ _;refine SW.st (st_load rfl (h6c _ _ hb6)) rfl ?_))
       have hwP:Ext w w9:=hw
       refine SW.alloc rfl fun b20 w10 hw10 hb20b hb20 => ?_
       skip
       refine SW.storeAgg hb20 rfl rfl rfl rfl (one_c ⟨⟨some ⟨bn,0,none⟩,1,1⟩,z,per,o,.nil,.nil⟩) fun w11 hb20' hg => ?_
       replace hw:=hw10.own hb20b hg
       replace hb20:=hb20'
       clear hb20' hg
       repeat' (first|(first|refine CW.seq ?_|refine CW.region ?_|refine CW.block ?_)|(refine Post.seq ?_)|refine SW.nil ?_|refine SW.pure rfl rfl ?_|(show SW _ _ _ _ (⟨_,Op.fieldAddr _ _ _,_,_,_,none⟩::_) _ _;refine SW.st (st_field rfl) rfl ?_)|(show SW _ _ _ _ (⟨_,Op.load _ _,_,_,_,none⟩::_) _ _;refine SW.st (st_loadx hw rfl (hb4.cell (i:=3) (v := .int .i64 q.Heap.Cpus) rfl)) rfl ?_))
       obtain ⟨C,hCp⟩:=Int.eq_ofNat_of_zero_le (show 0≤q.Heap.Cpus by omega)
       rw [hCp]
       refine CW.loop (fun t:Nat×Option Addr×Nat=>[(4,.pointer (some ⟨b4,0,none⟩)),(8,.pointer (some ⟨b8,0,none⟩)),(20,.pointer (some ⟨b20,0,none⟩)),(121,.int .i64 (C:Int)),(122,.int .i64 (t.1:Int))])
        (fun t w'=>t.1≤C∧Ext w9 w'∧Blk w' b20 89 (encC ⟨⟨some ⟨bn,0,none⟩,1,1⟩,z,per,o,.nil,⟨t.2.1,t.1,t.2.2⟩⟩)∧Own w' w9.heap.size 3 1 encI t.2.1 t.1 t.2.2 (List.replicate t.1 (-1))) (fun t=>C-t.1) (0,none,0)
        ⟨rfl,rfl,rfl,rfl,rfl,trivial⟩ ⟨by omega,hw,hb20,Own.nil_ _ _ _ _ _ _⟩ ?_
       clear hw hb20
       rintro ⟨k,A,c⟩ w12 ⟨hk,hw,hb20,hA⟩
       simp only at hk hb20 hA ⊢
       by_cases hkC:k<C
       ·repeat' (first|(first|refine CW.seq ?_|refine CW.region ?_|refine CW.block ?_|refine CW.condd_t rfl (by omega) ?_|refine CW.skip ?_)|(refine Post.seq ?_)|refine SW.nil ?_|refine SW.pure rfl rfl ?_|(show SW _ _ _ _ (⟨_,Op.fieldAddr _ _ _,_,_,_,none⟩::_) _ _;refine SW.st (st_field rfl) rfl ?_)|(show SW _ _ _ _ (⟨_,Op.load _ _,_,_,_,none⟩::_) _ _;refine SW.st (st_load rfl (hb20.cell (i:=5) (v := .slice A k c) rfl)) rfl ?_))
        refine SW.build1 rfl rfl rfl rfl rfl fun b w1 hXX hb hB => ?_
        (replace hw:=Ext.trans hw hXX;replace hb20:=hb20.ext hXX;replace hA:=hA.ext hXX)
        refine SW.append hA (Blk.sl1 (enc:=encI) hB) hw.size rfl rfl rfl (by omega) (by omega) fun A2 c2 w5 hO1 hg => ?_
        have hG:=hA.gr hg
        replace hw:=ext_grown hw hg (Nat.le_refl _) hA.row_ge
        (replace hb20:=hb20.grT hG rfl)
        repeat' ((show SW _ _ _ _ (⟨_,Op.fieldAddr _ _ _,_,_,_,none⟩::_) _ _;refine SW.st (st_field rfl) rfl ?_))
        refine SW.storeB (i:=5) hb20 rfl rfl rfl rfl fun w6 hb20' hg => ?_
        have hG:=hb20.gr hg
        replace hw:=hw.own hb20b hg
        (replace hO1:=hO1.grT hG rfl)
        repeat' (first|(refine CW.region ?_)|(first|refine Post.seq ?_|refine Post.blk ?_)|refine SW.nil ?_|refine SW.pure rfl rfl ?_|(show SW _ _ _ _ (⟨_,Op.binOp _ _ _ _ _,_,_,_,none⟩::_) _ _;refine SW.st (st_add rfl rfl (by omega) (by omega)) rfl ?_))
        refine Post.again (k+1,A2,c2) ⟨rfl,rfl,rfl,rfl,rfl,trivial⟩ (by simp only;omega) ⟨by simp only;omega,hw,hb20',?_⟩
        simp only
        rw [List.replicate_succ']
        exact hO1
       ·obtain rfl:k=C:=by omega
        have hwN:=hw
        replace hw:=hwP
        (replace hw:=Ext.trans hw hwN;replace hb4:=hb4.ext hwN;replace hb6:=hb6.ext hwN;replace hb8:=hb8.ext hwN;replace hX:=hX.ext hwN;replace hY:=hY.ext hwN;replace hC:=hC.ext hwN;replace hN:=hN.ext hwN)
        replace hA:=hA.low hwP.size
        have hb20w:w.heap.size≤b20:=Nat.le_trans hwP.size hb20b
        repeat' (first|(first|refine CW.seq ?_|refine CW.region ?_|refine CW.condd_f rfl (by omega) ?_|refine CW.exit ?_)|(first|refine Post.seq ?_|refine Post.seq_exit ?_|refine Post.hit ?_|refine Post.again_exit ?_)|refine SW.nil ?_|refine SW.pure rfl rfl ?_|(show SW _ _ _ _ (⟨_,Op.fieldAddr _ _ _,_,_,_,none⟩::_) _ _;refine SW.st (st_field rfl) rfl ?_)|(show SW _ _ _ _ (⟨_,Op.load _ _,_,_,_,none⟩::_) _ _;first|refine SW.st (st_load rfl (hb4.cell (i:=6) (v := .slice q.Caches.A q.Caches.n q.Caches.c) rfl)) rfl ?_|refine SW.st (st_loads rfl rfl ((fun _ _=>hb20.cell))) rfl ?_))
        refine SW.build1 rfl rfl rfl rfl rfl fun b w13 hXX hb hB => ?_
        (replace hw:=Ext.trans hw hXX;replace hb4:=hb4.ext hXX;replace hb8:=hb8.ext hXX;replace hX:=hX.ext hXX;replace hY:=hY.ext hXX;replace hC:=hC.ext hXX;replace hN:=hN.ext hXX;replace hA:=hA.ext hXX)
        refine SW.append hC.row (Blk.sl1 (enc:=encC) (x:=⟨⟨some ⟨bn,0,none⟩,1,1⟩,z,per,o,.nil,⟨A,k,c⟩⟩) hB) hw.size rfl rfl rfl (by omega) (by omega) fun A2 c2 w14 hO1 hg => ?_
        have hG:=hC.row.gr hg
        replace hw:=ext_grown hw hg (Nat.le_refl _) hC.row.row_ge
        (replace hb4:=hb4.grT hG rfl;replace hb8:=hb8.grT hG rfl;replace hX:=hX.grT hG rfl;replace hY:=hY.grT hG rfl;replace hN:=hN.grT hG rfl;replace hA:=hA.grT hG rfl)
        have hE:=hC.each.mono fun _ _ h=>h.grT hG rfl
        repeat' ((show SW _ _ _ _ (⟨_,Op.fieldAddr _ _ _,_,_,_,none⟩::_) _ _;refine SW.st (st_field rfl) rfl ?_))
        refine SW.storeB (i:=6) hb4 rfl rfl rfl rfl fun w15 hb4' hg => ?_
        have hG:=hb4.gr hg
        replace hw:=hw.own hb4w hg
        replace hb8:=hb8.grown hg (by simpa using fun e=>hne48 e.symm)
        (replace hX:=hX.grT hG rfl;replace hY:=hY.grT hG rfl;replace hN:=hN.grT hG rfl;replace hA:=hA.grT hG rfl;replace hO1:=hO1.grT hG rfl)
        replace hE:=hE.mono fun _ _ h=>h.grT hG rfl
        repeat' (first|(first|refine CW.seq ?_|refine CW.region ?_)|(refine Post.seq ?_)|refine SW.nil ?_|(show SW _ _ _ _ (⟨_,Op.load _ _,_,_,_,none⟩::_) _ _;refine SW.st (st_loads rfl rfl ((fun _ _=>hb4'.cell))) rfl ?_))
        refine SW.storeAgg hb8 rfl rfl rfl rfl (one_s ⟨q.Words,q.Heap,⟨A2,q.Caches.n+1,c2⟩⟩) fun w16 hR2 hg => ?_
        have hG:=hb8.gr hg
        replace hw:=hw.own hb8w hg
        (replace hX:=hX.grT hG rfl;replace hY:=hY.grT hG rfl;replace hN:=hN.grT hG rfl;replace hA:=hA.grT hG rfl;replace hO1:=hO1.grT hG rfl)
        replace hE:=hE.mono fun _ _ h=>h.grT hG rfl
        repeat' (first|(refine CW.ret ?_)|(refine Post.seq ?_)|refine SW.nil ?_|refine SW.pure rfl rfl ?_)
        refine Post.ret2c rfl rfl rfl hR2 rfl ⟨_,rfl,hw,_,.new hq hnA hsz ht (by rw [hz];exact hno) h19,⟨q.Words,q.Heap,⟨A2,q.Caches.n+1,c2⟩⟩,rfl,hX,hY,_,hO1,?_⟩
        rw [hz]
        refine hE.snoc ⟨rfl,?_,?_,hN,Own.nil_ _ _ _ _ _ _,?_⟩
        ·simp only [newCache,hLy]
        ·simp only [newCache,hLy]
        ·have e9:s.Heap.Cpus.toNat=k:=by omega
         simp only [newCache,e9]
         exact hA
     ·obtain ⟨i,hi,hiz,hib,hix⟩:=idxOf_first hany
      rw [hix]
      have hiz':s.Caches[i].Size=z:=by simpa [sizeN] using hiz
      have hin:i<q.Caches.n:=by omega
      have hir:i<zr.length:=by omega
      have hck:=hC.each.get i hir hi
      have hNi:=(hM.each i hi).names
      have hAc:=hC.row.sl.base
      have q1:=hck.names.sl.len
      have q2:=(hM.each i hi).names_len hM.heap (fun j h=>hM.each j h)
      have hp1:=posS_le s.Caches[i].Names n
      repeat' (first|(first|refine CW.seq ?_|refine CW.region ?_|refine CW.condd_t rfl (by omega) ?_)|(refine Post.seq ?_)|refine SW.nil ?_|refine SW.pure rfl rfl ?_|(show SW _ _ _ _ (⟨_,Op.fieldAddr _ _ _,_,_,_,none⟩::_) _ _;refine SW.st (st_field rfl) rfl ?_)|(show SW _ _ _ _ (⟨_,Op.nilCheck _,_,_,_,none⟩::_) _ _;refine SW.st (st_nilCheck rfl) rfl ?_)|(show SW _ _ _ _ (⟨_,Op.indexAddr _ _ _,_,_,_,none⟩::_) _ _;refine SW.st (st_indexN rfl rfl (by assumption) (by omega)) rfl ?_)|(show SW _ _ _ _ (⟨_,Op.load _ _,_,_,_,none⟩::_) _ _;first|refine SW.st (st_load rfl (hb4.cell (i:=6) (v := .slice q.Caches.A q.Caches.n q.Caches.c) rfl)) rfl ?_|refine SW.st (st_load rfl (hC.row.sl.fld hin (j:=0) (u := .slice zr[i].Names.A zr[i].Names.n zr[i].Names.c) rfl)) rfl ?_))
      refine SW.call rfl rfl (BinStr_ans _ _ _ _ n _ hck.names.sl hNi.sorted (by omega)) fun v w9 hXX hv => ?_
      obtain ⟨bb,rfl⟩:=hv
      (replace hw:=Ext.trans hw hXX;replace hb4:=hb4.ext hXX;replace hb8:=hb8.ext hXX;replace hX:=hX.ext hXX;replace hY:=hY.ext hXX;replace hC:=hC.ext hXX)
      repeat' (first|(first|refine CW.seq ?_|refine CW.region ?_)|(refine Post.seq ?_)|refine SW.nil ?_|refine SW.pure rfl rfl ?_|(show SW _ _ _ _ (⟨_,Op.fieldAddr _ _ _,_,_,_,none⟩::_) _ _;refine SW.st (st_field rfl) rfl ?_)|(show SW _ _ _ _ (⟨_,Op.nilCheck _,_,_,_,none⟩::_) _ _;refine SW.st (st_nilCheck rfl) rfl ?_)|(show SW _ _ _ _ (⟨_,Op.load _ _,_,_,_,none⟩::_) _ _;refine SW.st (st_load rfl (hC.row.sl.fld hin (j:=0) (u := .slice zr[i].Names.A zr[i].Names.n zr[i].Names.c) rfl)) rfl ?_))
      refine SW.build1 (vs:=[.string n]) rfl rfl rfl rfl rfl fun bn w10 hXX hbn hBn => ?_
      have hlt:=(hC.each.get i hir hi).names.lt_size
      have hneb:ownB zr[i].Names.A zr[i].Names.c≠some bn:=fun e=>by have:=hlt _ e;omega
      (replace hw:=Ext.trans hw hXX;replace hb4:=hb4.ext hXX;replace hb8:=hb8.ext hXX;replace hX:=hX.ext hXX;replace hY:=hY.ext hXX;replace hC:=hC.ext hXX)
      have hN:=(hC.each.get i hir hi).names
      refine SW.callX rfl rfl (InsertByteArray_ans _ _ _ w.heap.size s.Caches[i].Names _ hN (posS s.Caches[i].Names n) (by omega) n bn hBn hneb (by omega) hw.size) fun v w11 hv => ?_
      obtain ⟨A2,c2,rfl,hO2,hg,hpos⟩:=hv
      have hG:=hN.gr hg
      replace hw:=ext_grown hw hg (Nat.le_refl _) hN.row_ge
      have hrow:=hC.row.grT hG rfl
      have hE:=All2.setAt (R':=OwnC w11 w.heap.size) (i:=i) hC.each (x:=⟨⟨A2,zr[i].Names.n+1,c2⟩,zr[i].Size,zr[i].Per,zr[i].Order,zr[i].Slabs,zr[i].Active⟩) (y:=withName s.Caches[i] n)
       ⟨(hC.each.get i hir hi).size,(hC.each.get i hir hi).per,(hC.each.get i hir hi).order,hO2,(hC.each.get i hir hi).slabs.grT hG rfl,(hC.each.get i hir hi).active.grT hG rfl⟩
       (fun j h1 h2 hji ho=>⟨ho.size,ho.per,ho.order,ho.names.grown hg (apart_ne ((hSp.ne hir h1 hji).imp (·.names) (·.names))),ho.slabs.grT hG rfl,ho.active.grT hG rfl⟩)
      (replace hb4:=hb4.grT hG rfl;replace hb8:=hb8.grT hG rfl;replace hX:=hX.grT hG rfl;replace hY:=hY.grT hG rfl)
      clear hC
      repeat' (first|(show SW _ _ _ _ (⟨_,Op.fieldAddr _ _ _,_,_,_,none⟩::_) _ _;refine SW.st (st_field rfl) rfl ?_)|(show SW _ _ _ _ (⟨_,Op.nilCheck _,_,_,_,none⟩::_) _ _;refine SW.st (st_nilCheck rfl) rfl ?_))
      refine SW.storeO i 0 ⟨⟨A2,zr[i].Names.n+1,c2⟩,zr[i].Size,zr[i].Per,zr[i].Order,zr[i].Slabs,zr[i].Active⟩ hrow rfl rfl rfl hin (by decide) rfl rfl fun w12 hrow' hg6 => ?_
      have hG6:=hrow.gr hg6
      replace hw:=ext_grown hw hg6 (Nat.le_refl _) hrow.row_ge
      (replace hb4:=hb4.grT hG6 rfl;replace hb8:=hb8.grT hG6 rfl;replace hX:=hX.grT hG6 rfl;replace hY:=hY.grT hG6 rfl)
      replace hE:=hE.mono fun _ _ h=>h.grT hG6 rfl
      repeat' (first|(first|refine CW.seq ?_|refine CW.region ?_)|(refine Post.seq ?_)|refine SW.nil ?_|(show SW _ _ _ _ (⟨_,Op.load _ _,_,_,_,none⟩::_) _ _;refine SW.st (st_loads rfl rfl ((fun _ _=>hb4.cell))) rfl ?_))
      refine SW.storeAgg hb8 rfl rfl rfl rfl (one_s q) fun w13 hR2 hg => ?_
      have hG:=hb8.gr hg
      replace hw:=hw.own hb8w hg
      (replace hX:=hX.grT hG rfl;replace hY:=hY.grT hG rfl;replace hrow':=hrow'.grT hG rfl)
      replace hE:=hE.mono fun _ _ h=>h.grT hG rfl
      repeat' (first|(refine CW.ret ?_)|(first|refine Post.seq ?_|refine Post.seq_ret ?_)|refine SW.nil ?_|refine SW.pure rfl rfl ?_)
      refine Post.ret2c rfl rfl rfl hR2 rfl ⟨_,rfl,hw,_,.old hq hnA hsz ht hi (by rw [hz];exact hiz') (fun j hj hji => ?_),q,rfl,hX,hY,_,hrow',hE⟩
      rw [hz]
      simpa [sizeN] using hib j hj hji
    ·repeat' (first|(first|refine CW.seq ?_|refine CW.region ?_|refine CW.condd_f rfl (by omega) ?_|refine CW.condn_f rfl (by omega) ?_|refine CW.condt rfl ?_|refine CW.skip ?_)|(refine Post.seq ?_)|refine SW.nil ?_|(show SW _ _ _ _ (⟨_,_,_,_,_,some _⟩::_) _ _;first|refine SW.want_f rfl rfl (by with_reducible rfl) ?_|refine SW.splitd_f rfl rfl rfl (by omega) ?_|refine SW.want rfl rfl ?_)|refine SW.pure rfl rfl ?_|(show SW _ _ _ _ (⟨_,Op.build _ _,_,_,_,none⟩::_) _ _;refine SW.st (st_build rfl rfl) rfl ?_)|(show SW _ _ _ _ (⟨_,Op.binOp _ _ _ _ _,_,_,_,none⟩::_) _ _;refine SW.st (st_sub rfl rfl (by omega) (by omega)) rfl ?_)|(show SW _ _ _ _ (⟨_,Op.load _ _,_,_,_,none⟩::_) _ _;first|refine SW.st (st_loads rfl rfl ((fun _ _=>hb4.cell))) rfl ?_|refine SW.st (st_load rfl (h6c _ _ hb6)) rfl ?_)|(show SW _ _ _ _ (⟨_,Op.call ⟨.value (.func _),_,_⟩,_,_,_,none⟩::_) _ _;first|(refine SW.call rfl rfl (c1 _ hw) ?_;intro v w1 hw1 hv;subst hv;replace hw:=Ext.trans hw hw1;replace hb4:=hb4.ext hw1;replace hb6:=hb6.ext hw1;replace hb8:=hb8.ext hw1;clear hw1)|(refine SW.call rfl rfl (c2 _) ?_;intro v w1 hw1 hv;subst hv;replace hw:=Ext.trans hw hw1;replace hb4:=hb4.ext hw1;replace hb6:=hb6.ext hw1;replace hb8:=hb8.ext hw1;clear hw1)|(refine SW.call rfl rfl (c3 _ hw) ?_;intro v w1 hw1 hv;subst hv;replace hw:=Ext.trans hw hw1;replace hb4:=hb4.ext hw1;replace hb6:=hb6.ext hw1;replace hb8:=hb8.ext hw1;clear hw1))|(refine SW.st ((st_andA rfl rfl (by omega)).eq (congrArg (Value.int .i64) hgv)) rfl ?_))
     all_goals first|(exfalso;omega)|skip
     refine SW.storeAgg hb8 rfl rfl rfl rfl (one_s .zero) fun w5 hR2 hg => ?_
     replace hw:=hw.own hb8w hg
     repeat' (first|(refine CW.ret ?_)|(first|refine Post.seq ?_|refine Post.seq_ret ?_)|refine SW.nil ?_|refine SW.pure rfl rfl ?_)
     exact Post.ret2c rfl rfl rfl hR2 rfl ⟨_,rfl,hw,_,.twice hq hnA hsz ht,SysOut.zero 5 _ _⟩
   ·rcases (show size<1∨(1≤size∧64<size) by omega) with g|g
    all_goals
     repeat' (first|(first|refine CW.seq ?_|refine CW.region ?_|refine CW.condtr rfl (by with_reducible rfl) ?_|refine CW.condd_t rfl (by omega) ?_|refine CW.condn_f rfl (by omega) ?_|refine CW.skip ?_)|(refine Post.seq ?_)|refine SW.nil ?_|(show SW _ _ _ _ (⟨_,_,_,_,_,some _⟩::_) _ _;first|refine SW.want_f rfl rfl (by with_reducible rfl) ?_|refine SW.skip_f rfl rfl (by with_reducible rfl) rfl ?_|refine SW.splitd_t rfl rfl rfl (by omega) ?_|refine SW.splitd_f rfl rfl rfl (by omega) ?_|refine SW.want rfl rfl ?_)|refine SW.pure rfl rfl ?_|(show SW _ _ _ _ (⟨_,Op.build _ _,_,_,_,none⟩::_) _ _;refine SW.st (st_build rfl rfl) rfl ?_)|(show SW _ _ _ _ (⟨_,Op.binOp _ _ _ _ _,_,_,_,none⟩::_) _ _;refine SW.st (st_sub rfl rfl (by omega) (by omega)) rfl ?_)|(show SW _ _ _ _ (⟨_,Op.load _ _,_,_,_,none⟩::_) _ _;first|refine SW.st (st_loads rfl rfl ((fun _ _=>hb4.cell))) rfl ?_|refine SW.st (st_load rfl (h6c _ _ hb6)) rfl ?_)|(show SW _ _ _ _ (⟨_,Op.call ⟨.value (.func _),_,_⟩,_,_,_,none⟩::_) _ _;first|(refine SW.call rfl rfl (c1 _ hw) ?_;intro v w1 hw1 hv;subst hv;replace hw:=Ext.trans hw hw1;replace hb4:=hb4.ext hw1;replace hb6:=hb6.ext hw1;replace hb8:=hb8.ext hw1;clear hw1)|(refine SW.call rfl rfl (c2 _) ?_;intro v w1 hw1 hv;subst hv;replace hw:=Ext.trans hw hw1;replace hb4:=hb4.ext hw1;replace hb6:=hb6.ext hw1;replace hb8:=hb8.ext hw1;clear hw1))|(refine SW.st ((st_andA rfl rfl (by omega)).eq (congrArg (Value.int .i64) hgv)) rfl ?_))
     all_goals first|(exfalso;omega)|skip
     refine SW.storeAgg hb8 rfl rfl rfl rfl (one_s .zero) fun w5 hR2 hg => ?_
     replace hw:=hw.own hb8w hg
     repeat' (first|(refine CW.ret ?_)|(first|refine Post.seq ?_|refine Post.seq_ret ?_)|refine SW.nil ?_|refine SW.pure rfl rfl ?_)
     exact Post.ret2c rfl rfl rfl hR2 rfl ⟨_,rfl,hw,_,.range hq hnA hsz,SysOut.zero 1 _ _⟩
  ·have hnA : ¬ (nameB n=true∧alignOk align):=by rw [hp];exact hal
   rcases (show p=false∨(p=true∧align<1)∨(p=true∧1≤align∧8<align)∨(p=true∧(1≤align∧align≤8)∧gv≠0) by
    cases p
    ·exact .inl rfl
    ·right
     by_cases a1:align<1
     ·exact .inl ⟨rfl,a1⟩
     ·by_cases a2 : 8<align
      ·exact .inr (.inl ⟨rfl,by omega,a2⟩)
      ·exact .inr (.inr ⟨rfl,by omega,fun h=>hal ⟨rfl,(hga (by omega)).1 h⟩⟩)) with rfl|⟨rfl,g⟩|⟨rfl,g⟩|⟨rfl,g,g0⟩
   all_goals
    repeat' (first|(first|refine CW.seq ?_|refine CW.region ?_|refine CW.condtr rfl (by with_reducible rfl) ?_|refine CW.condn_t rfl (by omega) ?_|refine CW.condn_f rfl (by omega) ?_|refine CW.skip ?_)|(refine Post.seq ?_)|refine SW.nil ?_|(show SW _ _ _ _ (⟨_,_,_,_,_,some _⟩::_) _ _;first|refine SW.want_f rfl rfl (by with_reducible rfl) ?_|refine SW.skip_f rfl rfl (by with_reducible rfl) rfl ?_|refine SW.splitd_t rfl rfl rfl (by omega) ?_|refine SW.splitd_f rfl rfl rfl (by omega) ?_|refine SW.want rfl rfl ?_|refine SW.skip rfl rfl rfl rfl ?_)|refine SW.pure rfl rfl ?_|(show SW _ _ _ _ (⟨_,Op.build _ _,_,_,_,none⟩::_) _ _;refine SW.st (st_build rfl rfl) rfl ?_)|(show SW _ _ _ _ (⟨_,Op.binOp _ _ _ _ _,_,_,_,none⟩::_) _ _;refine SW.st (st_sub rfl rfl (by omega) (by omega)) rfl ?_)|(show SW _ _ _ _ (⟨_,Op.load _ _,_,_,_,none⟩::_) _ _;refine SW.st (st_loads rfl rfl ((fun _ _=>hb4.cell))) rfl ?_)|(show SW _ _ _ _ (⟨_,Op.call ⟨.value (.func _),_,_⟩,_,_,_,none⟩::_) _ _;first|(refine SW.call rfl rfl (c1 _ hw) ?_;intro v w1 hw1 hv;subst hv;replace hw:=Ext.trans hw hw1;replace hb4:=hb4.ext hw1;replace hb6:=hb6.ext hw1;replace hb8:=hb8.ext hw1;clear hw1)|(refine SW.call rfl rfl (c2 _) ?_;intro v w1 hw1 hv;subst hv;replace hw:=Ext.trans hw hw1;replace hb4:=hb4.ext hw1;replace hb6:=hb6.ext hw1;replace hb8:=hb8.ext hw1;clear hw1))|(refine SW.st ((st_andA rfl rfl (by omega)).eq (congrArg (Value.int .i64) hgv)) rfl ?_))
    all_goals first|(exfalso;omega)|skip
    refine SW.storeAgg hb8 rfl rfl rfl rfl (one_s .zero) fun w5 hR2 hg => ?_
    replace hw:=hw.own hb8w hg
    repeat' (first|(refine CW.ret ?_)|(first|refine Post.seq ?_|refine Post.seq_ret ?_)|refine SW.nil ?_|refine SW.pure rfl rfl ?_)
    exact Post.ret2c rfl rfl rfl hR2 rfl ⟨_,rfl,hw,_,.form hq hnA,SysOut.zero 3 _ _⟩
end Go.Proofs.YtbidkghlpijecaaGreatDoor
