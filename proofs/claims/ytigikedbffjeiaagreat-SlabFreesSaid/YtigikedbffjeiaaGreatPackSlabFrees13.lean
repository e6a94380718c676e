/-
  Texts of the claim SlabFrees, part 13: what its theorem leans on.
-/
import Derived.Test.YtigikedbffjeiaaGreatPackSlabFrees4
import Derived.Test.YtigikedbffjeiaaGreatPackSlabFrees12
import Derived.Test.YtigikedbffjeiaaGreatPackSlabFrees10
import Derived.Test.YtigikedbffjeiaaGreatPackSlabFrees7
set_option linter.unusedVariables false
set_option linter.unusedSimpArgs false
namespace Go.Proofs.YtigikedbffjeiaaGreat
open Go.RowKit
theorem apart_ne2 {a b:Sli} (h:apart a b∨apart b a) : ownB b.A b.c=none∨ownB b.A b.c≠ownB a.A a.c:=by
 cases e:ownB b.A b.c with
 | none=>exact .inl rfl
 | some g =>
  right
  intro e2
  rcases h with h|h
  ·exact h g e2.symm e
  ·exact h g e e2.symm
structure OwnHB (w:World) (lo hi:Nat) (r:HRow) (h:Heap) : Prop where
 cpus:r.Cpus=h.Cpus
 mins:Own w lo 3 1 encI r.Mins.A r.Mins.n r.Mins.c h.Mins
 live:Own w lo 94 3 encBk r.Live.A r.Live.n r.Live.c h.Live
 parts:∃ zs ls,OwnZs w lo r.Zones zs h.Zones∧OwnLs w lo r.Lists ls h.Lists∧(∀ g,ownB r.Mins.A r.Mins.c=some g→g<hi)∧(∀ u∈zs,∀ g,ownB u.Types.A u.Types.c=some g→g<hi)∧(∀ u∈ls,∀ g,ownB u.Pages.A u.Pages.c=some g→g<hi)
section
variable {w w':World} {lo hi t g:Nat} {r:HRow} {h:Heap}
theorem OwnH.between (a:OwnH w lo r h) : OwnHB w lo w.heap.size r h:=by
 obtain ⟨zs,hz⟩:=a.zones
 obtain ⟨ls,hl⟩:=a.lists
 refine ⟨a.cpus,a.mins,a.live,zs,ls,hz,hl,a.mins.lt_size,fun u hu g e => ?_,fun u hu g e => ?_⟩
 ·obtain ⟨j,hj,rfl⟩:=List.getElem_of_mem hu
  exact (hz.each.get j hj (by rw [← hz.each.len];exact hj)).types.lt_size g e
 ·obtain ⟨j,hj,rfl⟩:=List.getElem_of_mem hu
  exact (hl.each.get j hj (by rw [← hl.each.len];exact hj)).pages.lt_size g e
theorem OwnHB.own (a:OwnHB w lo hi r h) : OwnH w lo r h:=by
 obtain ⟨zs,ls,hz,hl,_⟩:=a.parts
 exact ⟨a.cpus,a.mins,a.live,⟨zs,hz⟩,⟨ls,hl⟩⟩
theorem OwnHB.ext (a:OwnHB w lo hi r h) (hx:Ext w w') : OwnHB w' lo hi r h:=by
 obtain ⟨zs,ls,hz,hl,hb⟩:=a.parts
 exact ⟨a.cpus,a.mins.ext hx,a.live.ext hx,zs,ls,hz.ext hx,hl.ext hx,hb⟩
theorem OwnHB.grT (a:OwnHB w lo hi r h) (hG:GrT w w' t) (hne:(Nat.beq t 3 || (Nat.beq t 94 || (Nat.beq t 72 || Nat.beq t 75)))=false) : OwnHB w' lo hi r h:=by
 obtain ⟨zs,ls,hz,hl,hb⟩:=a.parts
 simp only [Bool.or_eq_false_iff] at hne
 obtain ⟨h1,h2,h3,h4⟩:=hne
 exact ⟨a.cpus,a.mins.grT hG h1,a.live.grT hG h2,zs,ls,hz.grT hG (by simp [h1,h2,h3]),hl.grT hG (by simp [h1,h4]),hb⟩
theorem OwnHB.atInt (a:OwnHB w lo hi r h) (hg:w.grownBy w' (some g)) (hG:GrT w w' 3) (hb:g<lo∨hi≤g) : OwnHB w' lo hi r h:=by
 obtain ⟨zs,ls,hz,hl,b1,b2,b3⟩:=a.parts
 have key:∀ k,lo≤k→k<hi→(some g:Option Nat)≠some k:=fun k h1 h2 e=>by cases e;omega
 refine ⟨a.cpus,a.mins.apart hg fun k e=>key k (a.mins.row_ge k e) (b1 k e),a.live.grT hG rfl,zs,ls,⟨hz.row.grT hG rfl,⟨hz.each.len,fun j h1 h2 => ?_⟩⟩,⟨hl.row.grT hG rfl,⟨hl.each.len,fun j h1 h2 => ?_⟩⟩,b1,b2,b3⟩
 ·have hj:=hz.each.get j h1 h2
  exact ⟨hj.from_,hj.to_,hj.free.grT hG rfl,hj.types.apart hg fun k e=>key k (hj.types.row_ge k e) (b2 _ (List.getElem_mem h1) k e)⟩
 ·have hj:=hl.each.get j h1 h2
  exact ⟨hj.cpu,hj.zone,hj.ty,hj.pages.apart hg fun k e=>key k (hj.pages.row_ge k e) (b3 _ (List.getElem_mem h1) k e)⟩
end
structure SXR (w:World) (lo:Nat) (r:SRow) (s:KSystem) (cs0 cs:List CRow) : Prop where
 words:Own w lo 3 1 encI r.Words.A r.Words.n r.Words.c s.Words
 heap:OwnH w lo r.Heap s.Heap
 row:Own w lo 44 6 encC r.Caches.A r.Caches.n r.Caches.c cs0
 each:All2 (OwnC w lo) cs s.Caches
 pair:cs.Pairwise CApart
abbrev SX (w:World) (lo:Nat) (r:SRow) (s:KSystem) (cs:List CRow) : Prop:=SXR w lo r s cs cs
structure SI (w:World) (lo:Nat) (r:SRow) (s:KSystem) (cs:List CRow) : Prop where
 ints:∃ m1 m2,lo≤m1∧m1≤m2∧(∀ g,ownB r.Words.A r.Words.c=some g→g<m1)∧OwnHB w m1 m2 r.Heap s.Heap∧All2 (OwnC w m2) cs s.Caches
theorem pair_set {cs:List CRow} (h:cs.Pairwise CApart) {i:Nat} {u:CRow} (hu:∀ (j:Nat) (hj:j<cs.length),j≠i→CApart u cs[j]∧CApart cs[j] u) : (cs.set i u).Pairwise CApart:=by
 rw [List.pairwise_iff_getElem] at h ⊢
 intro a b ha hb hab
 rw [List.length_set] at ha hb
 rw [List.getElem_set,List.getElem_set]
 split
 ·split
  ·omega
  ·exact (hu b hb (by omega)).1
 ·split
  ·exact (hu a ha (by omega)).2
  ·exact h a b ha hb hab
theorem apart_symm {a b:Sli} (h:apart a b) : apart b a:=fun k h1 h2=>h k h2 h1
theorem CApart.symm {u v:CRow} (h:CApart u v) : CApart v u:=⟨apart_symm h.names,apart_symm h.slabs,apart_symm h.active⟩
theorem pair_get {cs:List CRow} (h:cs.Pairwise CApart) {i j:Nat} (hi:i<cs.length) (hj:j<cs.length) (hij:j≠i) : CApart cs[i] cs[j]:=by
 have hp:=List.pairwise_iff_getElem.1 h
 rcases Nat.lt_or_ge i j with g|g
 ·exact hp i j hi hj g
 ·exact (hp j i hj hi (by omega)).symm
section
variable {w w':World} {lo t:Nat} {r:SRow} {s:KSystem} {cs0 cs:List CRow}
theorem SXR.ext (h:SXR w lo r s cs0 cs) (hx:Ext w w') : SXR w' lo r s cs0 cs:=⟨h.words.ext hx,h.heap.ext hx,h.row.ext hx,h.each.mono fun _ _ h=>h.ext hx,h.pair⟩
theorem SXR.low {lo':Nat} (h:SXR w lo r s cs0 cs) (hl:lo'≤lo) : SXR w lo' r s cs0 cs:=⟨h.words.low hl,h.heap.low hl,h.row.low hl,h.each.mono fun _ _ h=>h.low hl,h.pair⟩
theorem SXR.grT (h:SXR w lo r s cs0 cs) (hG:GrT w w' t) (hne:(Nat.beq t 44 || (Nat.beq t 9 || (Nat.beq t 46 || (Nat.beq t 3 || (Nat.beq t 94 || (Nat.beq t 72 || Nat.beq t 75))))))=false) : SXR w' lo r s cs0 cs:=by
 simp only [Bool.or_eq_false_iff] at hne
 obtain ⟨h1,h2,h3,h4,h5,h6,h7⟩:=hne
 exact ⟨h.words.grT hG h4,h.heap.grT hG (by simp [h4,h5,h6,h7]),h.row.grT hG h1,h.each.mono fun _ _ h=>h.grT hG (by simp [h2,h3,h4]),h.pair⟩
theorem SXR.len (h:SX w lo r s cs) : cs.length=r.Caches.n∧s.Caches.length=r.Caches.n:=⟨h.row.len,by rw [← h.each.len,h.row.len]⟩
theorem SXR.ownS (h:SX w lo r s cs) : OwnS w lo r s:=⟨h.words,h.heap,⟨cs,h.row,h.each⟩⟩
theorem SI.ext (h:SI w lo r s cs) (hx:Ext w w') : SI w' lo r s cs:=by
 obtain ⟨m1,m2,h1,h2,h3,h4,h5⟩:=h.ints
 exact ⟨m1,m2,h1,h2,h3,h4.ext hx,h5.mono fun _ _ h=>h.ext hx⟩
theorem SI.low {lo':Nat} (h:SI w lo r s cs) (hl:lo'≤lo) : SI w lo' r s cs:=by
 obtain ⟨m1,m2,h1,h2,h3,h4,h5⟩:=h.ints
 exact ⟨m1,m2,Nat.le_trans hl h1,h2,h3,h4,h5⟩
theorem SI.grT (h:SI w lo r s cs) (hG:GrT w w' t) (hne:(Nat.beq t 9 || (Nat.beq t 46 || (Nat.beq t 3 || (Nat.beq t 94 || (Nat.beq t 72 || Nat.beq t 75)))))=false) : SI w' lo r s cs:=by
 simp only [Bool.or_eq_false_iff] at hne
 obtain ⟨h2,h3,h4,h5,h6,h7⟩:=hne
 obtain ⟨m1,m2,g1,g2,g3,g4,g5⟩:=h.ints
 exact ⟨m1,m2,g1,g2,g3,g4.grT hG (by simp [h4,h5,h6,h7]),g5.mono fun _ _ h=>h.grT hG (by simp [h2,h3,h4])⟩
theorem SXR.slabs {i n':Nat} {l':List Slab} (h:SX w lo r s cs) (hi:i<cs.length) (hi':i<s.Caches.length) (hO:Own w' lo 46 3 encSb cs[i].Slabs.A n' cs[i].Slabs.c l') (hg:w.grownBy w' (ownB cs[i].Slabs.A cs[i].Slabs.c)) :
  SXR w' lo r ⟨s.Words,s.Heap,s.Caches.set i ⟨s.Caches[i].Names,s.Caches[i].Size,s.Caches[i].Per,s.Caches[i].Order,l',s.Caches[i].Active⟩⟩ cs (cs.set i ⟨cs[i].Names,cs[i].Size,cs[i].Per,cs[i].Order,⟨cs[i].Slabs.A,n',cs[i].Slabs.c⟩,cs[i].Active⟩):=by
 have hc:=h.each.get i hi hi'
 have hG:=hc.slabs.gr hg
 refine ⟨h.words.grT hG rfl,h.heap.grT hG rfl,h.row.grT hG rfl,?_,?_⟩
 ·exact All2.setAt h.each ⟨hc.size,hc.per,hc.order,hc.names.grT hG rfl,hO,hc.active.grT hG rfl⟩ fun j h1 h2 hji ho=>⟨ho.size,ho.per,ho.order,ho.names.grT hG rfl,ho.slabs.grown hg (apart_ne2 (.inl (pair_get h.pair hi h1 hji).slabs)),ho.active.grT hG rfl⟩
 ·refine pair_set h.pair fun j hj hji => ?_
  have hp:=pair_get h.pair hi hj hji
  exact ⟨⟨hp.names,hp.slabs,hp.active⟩,⟨apart_symm hp.names,apart_symm hp.slabs,apart_symm hp.active⟩⟩
theorem SXR.newSlabs {i n' c':Nat} {A':Option Addr} {l':List Slab} (h:SX w lo r s cs) (hlo:lo≤w.heap.size) (hi:i<cs.length) (hi':i<s.Caches.length) (hx:Ext w w') (hO:Own w' w.heap.size 46 3 encSb A' n' c' l') :
  SXR w' lo r ⟨s.Words,s.Heap,s.Caches.set i ⟨s.Caches[i].Names,s.Caches[i].Size,s.Caches[i].Per,s.Caches[i].Order,l',s.Caches[i].Active⟩⟩ cs (cs.set i ⟨cs[i].Names,cs[i].Size,cs[i].Per,cs[i].Order,⟨A',n',c'⟩,cs[i].Active⟩):=by
 have hc:=(h.each.get i hi hi').ext hx
 refine ⟨h.words.ext hx,h.heap.ext hx,h.row.ext hx,?_,?_⟩
 ·exact All2.setAt h.each ⟨hc.size,hc.per,hc.order,hc.names,hO.low hlo,hc.active⟩ fun j h1 h2 hji ho=>ho.ext hx
 ·refine pair_set h.pair fun j hj hji => ?_
  have hp:=pair_get h.pair hi hj hji
  have ha:apart cs[j].Slabs ⟨A',n',c'⟩:=apart_new (h.each.get j hj (by rw [← h.each.len];exact hj)).slabs hO.row_ge
  exact ⟨⟨hp.names,apart_symm ha,hp.active⟩,⟨apart_symm hp.names,ha,apart_symm hp.active⟩⟩
theorem SXR.rowSet {i:Nat} {u:CRow} (h:SXR w lo r s cs0 (cs0.set i u)) (hO:Own w' lo 44 6 encC r.Caches.A r.Caches.n r.Caches.c (cs0.set i u)) (hg:w.grownBy w' (ownB r.Caches.A r.Caches.c)) : SX w' lo r s (cs0.set i u):=by
 have hG:=h.row.gr hg
 exact ⟨h.words.grT hG rfl,h.heap.grT hG rfl,hO,h.each.mono fun _ _ h=>h.grT hG rfl,h.pair⟩
theorem SXR.setWords {l':List Int} (h:SX w lo r s cs) (hI:SI w lo r s cs) (hO:Own w' lo 3 1 encI r.Words.A r.Words.n r.Words.c l') (hg:w.grownBy w' (ownB r.Words.A r.Words.c)) : SX w' lo r ⟨l',s.Heap,s.Caches⟩ cs:=by
 obtain ⟨m1,m2,h1,h2,h3,h4,h5⟩:=hI.ints
 have hG:=h.words.gr hg
 have hh:OwnHB w' m1 m2 r.Heap s.Heap:=by
  cases e:ownB r.Words.A r.Words.c with
  | none=>rw [e] at hg;exact h4.grT (⟨none,hg,fun k hk=>by cases hk⟩ : GrT w w' 30) rfl
  | some g=>rw [e] at hg;exact h4.atInt hg hG (.inl (h3 g e))
 refine ⟨hO,hh.own.low h1,h.row.grT hG rfl,⟨h.each.len,fun j hj hj' => ?_⟩,h.pair⟩
 have ho:=h.each.get j hj hj'
 exact ⟨ho.size,ho.per,ho.order,ho.names.grT hG rfl,ho.slabs.grT hG rfl,ho.active.apart hg fun g e e2=>by
  have:=h3 g e2;have:=(h5.get j hj hj').active.row_ge g e;omega⟩
end
open Go.RowKit
set_option maxHeartbeats 4000000 in
theorem HeapCopy_ans (r:HRow) (h:Heap) (w:World) (hr:RdH w r h) (hs:h.small) :
  Ans Tryz.prog 15 [.agg (encH r).toArray] w fun v w' => ∃ s,v = .agg (encH s).toArray∧OwnH w' w.heap.size s h:=by
 refine ans_of Tryz.func15 rfl Tryz.ntmps15 rfl ?_
 refine CW.seq (CW.region (SW.box rfl rfl fun b1 w1 hw hb1b hb1 => ?_))
 refine SW.alloc rfl fun b2 w2 hw2 hb2b hb2 => ?_
 have hb2w:w.heap.size≤b2:=Nat.le_trans hw.size hb2b
 have hne2:b2≠b1:=by have:=hb1.lt;omega
 (replace hw:=Ext.trans hw hw2;replace hb1:=hb1.ext hw2)
 obtain ⟨zs,hz⟩:=hr.zones
 obtain ⟨ls,hl⟩:=hr.lists
 have hml:=hr.mins.len
 have hvl:=hr.live.len
 have s1:=hs.mins
 have s2:=hs.live
 have s3:=hs.zones
 have s4:=hs.lists
 obtain ⟨z1,z2⟩:=hz.len
 obtain ⟨l1,l2⟩:=hl.len
 repeat' (first|(refine CW.seq ?_)|(refine Post.seq ?_)|refine SW.nil ?_)
 obtain ⟨K,hK⟩ : ∃ K:Env→World→Prop,K=fun L' w' => ∃ X c1 Y d1 b3,subEnv L' [(1,.pointer (some ⟨b1,0,none⟩)),(2,.pointer (some ⟨b2,0,none⟩)),(3,.pointer (some ⟨b3,0,none⟩))]∧Ext w w'∧Blk w' b1 27 (encH r)∧Blk w' b2 27 (encH .zero) ∧
  Blk w' b3 27 (encH ⟨.nil,⟨X,r.Mins.n,c1⟩,r.Cpus,.nil,⟨Y,r.Live.n,d1⟩⟩)∧Own w' w.heap.size 3 1 encI X r.Mins.n c1 h.Mins∧Own w' w.heap.size 94 3 encBk Y r.Live.n d1 h.Live∧w.heap.size≤b3∧b1≠b3∧b2≠b3:=⟨_,rfl⟩
 refine CW.cut K ?_ ?_
 ·refine CW.any 10 mixed (rb_tail (by kernel_rfl)) rfl fun w1 hw1 hRB => ?_
  replace hw:=Ext.trans hw hw1;replace hb1:=hb1.ext hw1;replace hb2:=hb2.ext hw1;clear hw1
  refine SA.take 0 hRB rfl (by kernel_rfl) (by kernel_rfl) rfl ?_
  repeat ((show SW _ _ _ _ (⟨_,Op.fieldAddr _ _ _,_,_,_,none⟩::_) _ _;refine SW.st (st_field rfl) rfl ?_))
  refine SW.tknil ?_
  refine SA.take 1 hRB rfl (by kernel_rfl) (by kernel_rfl) rfl ?_
  repeat ((show SW _ _ _ _ (⟨_,Op.load _ _,_,_,_,none⟩::_) _ _;refine SW.st (st_load rfl (hb1.cell rfl)) rfl ?_))
  refine SW.tknil ?_
  refine SA.take 3 hRB rfl (by kernel_rfl) (by kernel_rfl) rfl ?_
  repeat ((show SW _ _ _ _ (⟨_,Op.fieldAddr _ _ _,_,_,_,none⟩::_) _ _;refine SW.st (st_field rfl) rfl ?_))
  refine SW.tknil ?_
  refine SA.take 4 hRB rfl (by kernel_rfl) (by kernel_rfl) rfl ?_
  repeat ((show SW _ _ _ _ (⟨_,Op.load _ _,_,_,_,none⟩::_) _ _;refine SW.st (st_load rfl (hb1.cell rfl)) rfl ?_))
  refine SW.tknil ?_
  refine SA.take 5 hRB rfl (by kernel_rfl) (by kernel_rfl) rfl ?_
  repeat ((show SW _ _ _ _ (⟨_,Op.fieldAddr _ _ _,_,_,_,none⟩::_) _ _;refine SW.st (st_field rfl) rfl ?_))
  refine SW.tknil ?_
  refine SA.take 6 hRB rfl (by kernel_rfl) (by kernel_rfl) rfl ?_
  repeat ((show SW _ _ _ _ (⟨_,Op.load _ _,_,_,_,none⟩::_) _ _;refine SW.st (st_load rfl (hb1.cell rfl)) rfl ?_))
  refine SW.tknil ?_
  refine SA.two 2 9 rfl rfl (by kernel_rfl) rfl rfl ?_ ?_
  ·refine SW.call rfl rfl (words_ans _ _ _ _ _ (hr.mins.ext hw) (by omega)) fun v w4 hXX hv => ?_
   obtain ⟨X,c4,rfl,hX⟩:=hv
   replace hX:=hX.low hw.size
   replace hw:=Ext.trans hw hXX
   replace hb1:=hb1.ext hXX
   replace hb2:=hb2.ext hXX
   try replace hb3:=hb3.ext hXX
   refine SW.nil (Post.sa hXX ?_)
   refine SA.two 7 9 rfl rfl (by kernel_rfl) rfl rfl ?_ ?_
   ·refine SW.call rfl rfl (blocks_ans _ _ _ _ _ (hr.live.ext hw) (by omega)) fun v w4 hXX hv => ?_
    obtain ⟨Y,d4,rfl,hY⟩:=hv
    replace hY:=hY.low hw.size
    replace hX:=hX.ext hXX
    replace hw:=Ext.trans hw hXX
    replace hb1:=hb1.ext hXX
    replace hb2:=hb2.ext hXX
    try replace hb3:=hb3.ext hXX
    refine SW.nil (Post.sa hXX ?_)
    refine SA.take 8 hRB rfl (by kernel_rfl) (by kernel_rfl) rfl ?_
    repeat ((show SW _ _ _ _ (⟨_,Op.build _ _,_,_,_,none⟩::_) _ _;refine SW.st (st_build rfl rfl) rfl ?_))
    refine SW.tknil ?_
    refine SA.one 9 rfl (by kernel_rfl) rfl ?_
    refine SW.alloc rfl fun b3 w4 hXX hb3b hb3 => ?_
    have hb3w:w.heap.size≤b3:=Nat.le_trans hw.size hb3b
    have hne3:b1≠b3:=by have:=hb1.lt;omega
    have hne4:b2≠b3:=by have:=hb2.lt;omega
    replace hw:=Ext.trans hw hXX
    replace hb1:=hb1.ext hXX
    replace hb2:=hb2.ext hXX
    try replace hX:=hX.ext hXX
    try replace hY:=hY.ext hXX
    refine SW.nil (Post.sa hXX ?_)
    refine SA.done (by kernel_rfl) ?_
    skip
    refine SW.storeAgg hb3 rfl rfl rfl rfl (one_h ⟨.nil,⟨X,r.Mins.n,c4⟩,r.Cpus,.nil,⟨Y,r.Live.n,d4⟩⟩) fun w5 hR2 hg => ?_
    have hG:=hb3.gr hg
    replace hw:=hw.own hb3w hg
    (replace hX:=hX.grT hG rfl;replace hY:=hY.grT hG rfl)
    replace hb1:=hb1.grown hg (by simpa using hne3)
    replace hb2:=hb2.grown hg (by simpa using hne4)
    repeat' (first|(refine Post.np ?_)|refine SW.nil ?_)
    exact Post.cut (K:=K) (by rw [hK];exact ⟨X,c4,Y,d4,b3,⟨rfl,rfl,rfl,trivial⟩,hw,hb1,hb2,hR2,hX,hY,hb3w,hne3,hne4⟩)
   ·refine SW.alloc rfl fun b3 w4 hXX hb3b hb3 => ?_
    have hb3w:w.heap.size≤b3:=Nat.le_trans hw.size hb3b
    have hne3:b1≠b3:=by have:=hb1.lt;omega
    have hne4:b2≠b3:=by have:=hb2.lt;omega
    replace hw:=Ext.trans hw hXX
    replace hb1:=hb1.ext hXX
    replace hb2:=hb2.ext hXX
    try replace hX:=hX.ext hXX
    try replace hY:=hY.ext hXX
    refine SW.nil (Post.sa hXX ?_)
    refine SA.one 7 rfl (by kernel_rfl) rfl ?_
    refine SW.call rfl rfl (blocks_ans _ _ _ _ _ (hr.live.ext hw) (by omega)) fun v w4 hXX hv => ?_
    obtain ⟨Y,d4,rfl,hY⟩:=hv
    replace hY:=hY.low hw.size
    replace hX:=hX.ext hXX
    replace hw:=Ext.trans hw hXX
    replace hb1:=hb1.ext hXX
    replace hb2:=hb2.ext hXX
    try replace hb3:=hb3.ext hXX
    refine SW.nil (Post.sa hXX ?_)
    refine SA.take 8 hRB rfl (by kernel_rfl) (by kernel_rfl) rfl ?_
    repeat ((show SW _ _ _ _ (⟨_,Op.build _ _,_,_,_,none⟩::_) _ _;refine SW.st (st_build rfl rfl) rfl ?_))
    refine SW.tknil ?_
    refine SA.done (by kernel_rfl) ?_
    skip
    refine SW.storeAgg hb3 rfl rfl rfl rfl (one_h ⟨.nil,⟨X,r.Mins.n,c4⟩,r.Cpus,.nil,⟨Y,r.Live.n,d4⟩⟩) fun w5 hR2 hg => ?_
    have hG:=hb3.gr hg
    replace hw:=hw.own hb3w hg
    (replace hX:=hX.grT hG rfl;replace hY:=hY.grT hG rfl)
    replace hb1:=hb1.grown hg (by simpa using hne3)
    replace hb2:=hb2.grown hg (by simpa using hne4)
    repeat' (first|(refine Post.np ?_)|refine SW.nil ?_)
    exact Post.cut (K:=K) (by rw [hK];exact ⟨X,c4,Y,d4,b3,⟨rfl,rfl,rfl,trivial⟩,hw,hb1,hb2,hR2,hX,hY,hb3w,hne3,hne4⟩)
  ·refine SW.alloc rfl fun b3 w4 hXX hb3b hb3 => ?_
   have hb3w:w.heap.size≤b3:=Nat.le_trans hw.size hb3b
   have hne3:b1≠b3:=by have:=hb1.lt;omega
   have hne4:b2≠b3:=by have:=hb2.lt;omega
   replace hw:=Ext.trans hw hXX
   replace hb1:=hb1.ext hXX
   replace hb2:=hb2.ext hXX
   try replace hX:=hX.ext hXX
   try replace hY:=hY.ext hXX
   refine SW.nil (Post.sa hXX ?_)
   refine SA.one 2 rfl (by kernel_rfl) rfl ?_
   refine SW.call rfl rfl (words_ans _ _ _ _ _ (hr.mins.ext hw) (by omega)) fun v w4 hXX hv => ?_
   obtain ⟨X,c4,rfl,hX⟩:=hv
   replace hX:=hX.low hw.size
   replace hw:=Ext.trans hw hXX
   replace hb1:=hb1.ext hXX
   replace hb2:=hb2.ext hXX
   try replace hb3:=hb3.ext hXX
   refine SW.nil (Post.sa hXX ?_)
   refine SA.one 7 rfl (by kernel_rfl) rfl ?_
   refine SW.call rfl rfl (blocks_ans _ _ _ _ _ (hr.live.ext hw) (by omega)) fun v w4 hXX hv => ?_
   obtain ⟨Y,d4,rfl,hY⟩:=hv
   replace hY:=hY.low hw.size
   replace hX:=hX.ext hXX
   replace hw:=Ext.trans hw hXX
   replace hb1:=hb1.ext hXX
   replace hb2:=hb2.ext hXX
   try replace hb3:=hb3.ext hXX
   refine SW.nil (Post.sa hXX ?_)
   refine SA.take 8 hRB rfl (by kernel_rfl) (by kernel_rfl) rfl ?_
   repeat ((show SW _ _ _ _ (⟨_,Op.build _ _,_,_,_,none⟩::_) _ _;refine SW.st (st_build rfl rfl) rfl ?_))
   refine SW.tknil ?_
   refine SA.done (by kernel_rfl) ?_
   skip
   refine SW.storeAgg hb3 rfl rfl rfl rfl (one_h ⟨.nil,⟨X,r.Mins.n,c4⟩,r.Cpus,.nil,⟨Y,r.Live.n,d4⟩⟩) fun w5 hR2 hg => ?_
   have hG:=hb3.gr hg
   replace hw:=hw.own hb3w hg
   (replace hX:=hX.grT hG rfl;replace hY:=hY.grT hG rfl)
   replace hb1:=hb1.grown hg (by simpa using hne3)
   replace hb2:=hb2.grown hg (by simpa using hne4)
   repeat' (first|(refine Post.np ?_)|refine SW.nil ?_)
   exact Post.cut (K:=K) (by rw [hK];exact ⟨X,c4,Y,d4,b3,⟨rfl,rfl,rfl,trivial⟩,hw,hb1,hb2,hR2,hX,hY,hb3w,hne3,hne4⟩)
 ·clear hb1 hb2 hw
  subst hK
  rintro L' w' ⟨X,c4,Y,d4,b3,hsub,hw,hb1,hb2,hb3,hX,hY,hb3w,hne3,hne4⟩
  refine Post.sub hsub ?_
  repeat' (first|(first|refine CW.seq ?_|refine CW.region ?_|refine CW.block ?_)|(refine Post.seq ?_)|refine SW.nil ?_|refine SW.pure rfl rfl ?_)
  refine CW.loop (fun s:Nat×Option Addr×Nat×List ZRow=>[(1,.pointer (some ⟨b1,0,none⟩)),(2,.pointer (some ⟨b2,0,none⟩)),(3,.pointer (some ⟨b3,0,none⟩)),(4,.int .i64 (s.1:Int))])
   (fun s w'=>s.1≤r.Zones.n∧Ext w w'∧Blk w' b1 27 (encH r)∧Blk w' b2 27 (encH .zero)∧Blk w' b3 27 (encH ⟨⟨s.2.1,s.1,s.2.2.1⟩,⟨X,r.Mins.n,c4⟩,r.Cpus,.nil,⟨Y,r.Live.n,d4⟩⟩)∧Own w' w.heap.size 3 1 encI X r.Mins.n c4 h.Mins∧Own w' w.heap.size 94 3 encBk Y r.Live.n d4 h.Live ∧
    OwnZs w' w.heap.size ⟨s.2.1,s.1,s.2.2.1⟩ s.2.2.2 (h.Zones.take s.1)) (fun s=>r.Zones.n-s.1) (0,none,0,[]) ⟨rfl,rfl,rfl,rfl,trivial⟩ ⟨by omega,hw,hb1,hb2,hb3,hX,hY,OwnZs.nil _ _⟩ ?_
  clear hb1 hb2 hb3 hX hY hw hsub
  rintro ⟨k,A,c,zr⟩ w' ⟨hk,hw,hb1,hb2,hb3,hX,hY,hO⟩
  simp only at hk hb3 hO ⊢
  have hA:=hz.row.base
  by_cases hkn:k<r.Zones.n
  ·have hzk:=hz.each.get k (by omega) (by omega)
   have hin:h.Zones[k]'(by omega)∈h.Zones:=List.getElem_mem _
   have q:=hs.free _ hin
   have q1:=hzk.free.len
   have q2:=hzk.types.len
   repeat' (first|(first|refine CW.seq ?_|refine CW.region ?_|refine CW.block ?_|refine CW.condd_t rfl (by omega) ?_|refine CW.skip ?_)|(refine Post.seq ?_)|refine SW.nil ?_|refine SW.pure rfl rfl ?_|(show SW _ _ _ _ (⟨_,Op.fieldAddr _ _ _,_,_,_,none⟩::_) _ _;refine SW.st (st_field rfl) rfl ?_)|(show SW _ _ _ _ (⟨_,Op.indexAddr _ _ _,_,_,_,none⟩::_) _ _;refine SW.st (st_indexN rfl rfl (by assumption) (by omega)) rfl ?_)|(show SW _ _ _ _ (⟨_,Op.call ⟨.builtin .len,_,_⟩,_,_,_,none⟩::_) _ _;refine SW.st (st_len rfl) rfl ?_)|(show SW _ _ _ _ (⟨_,Op.load _ _,_,_,_,none⟩::_) _ _;first|refine SW.st (st_load rfl (hb1.cell rfl)) rfl ?_|refine SW.st (st_loadsx hw rfl rfl ((hz.row.all hkn))) rfl ?_))
   refine SW.call rfl rfl (ZoneCopy_ans _ _ _ (hzk.ext hw) (by omega) (by omega)) fun v w4 hXX hv => ?_
   obtain ⟨s,rfl,hs'⟩:=hv
   replace hs':=hs'.low hw.size
   (replace hw:=Ext.trans hw hXX;replace hb1:=hb1.ext hXX;replace hb2:=hb2.ext hXX;replace hb3:=hb3.ext hXX;replace hX:=hX.ext hXX;replace hY:=hY.ext hXX;replace hO:=hO.ext hXX)
   refine SW.alloc rfl fun b5 w1 hw1 hb5b hb5 => ?_
   skip
   refine SW.storeAgg hb5 rfl rfl rfl rfl (one_z s) fun w2 hb5' hg => ?_
   have hXX:=hw1.own hb5b hg
   have hb5w:w.heap.size≤b5:=Nat.le_trans hw.size hb5b
   replace hw:=Ext.trans hw hXX
   replace hb1:=hb1.ext hXX
   replace hb2:=hb2.ext hXX
   replace hb3:=hb3.ext hXX
   replace hX:=hX.ext hXX
   replace hY:=hY.ext hXX
   replace hO:=hO.ext hXX
   replace hs':=hs'.ext hXX
   replace hb5:=hb5'
   clear hb5' hw1 hg hXX
   repeat' (first|(refine CW.region ?_)|(refine Post.seq ?_)|refine SW.nil ?_|(show SW _ _ _ _ (⟨_,Op.fieldAddr _ _ _,_,_,_,none⟩::_) _ _;refine SW.st (st_field rfl) rfl ?_)|(show SW _ _ _ _ (⟨_,Op.load _ _,_,_,_,none⟩::_) _ _;first|refine SW.st (st_load rfl (hb3.cell rfl)) rfl ?_|refine SW.st (st_loads rfl rfl ((fun _ _=>hb5.cell))) rfl ?_))
   refine SW.build1 rfl rfl rfl rfl rfl fun b w4 hXX hb hB => ?_
   (replace hw:=Ext.trans hw hXX;replace hb1:=hb1.ext hXX;replace hb2:=hb2.ext hXX;replace hb3:=hb3.ext hXX;replace hb5:=hb5.ext hXX;replace hX:=hX.ext hXX;replace hY:=hY.ext hXX;replace hO:=hO.ext hXX;replace hs':=hs'.ext hXX)
   refine SW.append hO.row (Blk.sl1 (enc:=encZ) hB) hw.size rfl rfl rfl (by simp only;omega) (by simp only;omega) fun A2 c2 w5 hO1 hg => ?_
   have hG:=hO.row.gr hg
   replace hw:=ext_grown hw hg (Nat.le_refl _) hO.row.row_ge
   (replace hb1:=hb1.grT hG rfl;replace hb2:=hb2.grT hG rfl;replace hb3:=hb3.grT hG rfl;replace hX:=hX.grT hG rfl;replace hY:=hY.grT hG rfl;replace hs':=hs'.grT hG rfl)
   have hE:=hO.each.mono fun _ _ h=>h.grT hG rfl
   repeat' ((show SW _ _ _ _ (⟨_,Op.fieldAddr _ _ _,_,_,_,none⟩::_) _ _;refine SW.st (st_field rfl) rfl ?_))
   refine SW.storeB (i:=0) hb3 rfl rfl rfl rfl fun w6 hb3' hg => ?_
   have hG:=hb3.gr hg
   replace hw:=hw.own hb3w hg
   replace hb1:=hb1.grown hg (by simpa using hne3)
   replace hb2:=hb2.grown hg (by simpa using hne4)
   (replace hX:=hX.grT hG rfl;replace hY:=hY.grT hG rfl;replace hs':=hs'.grT hG rfl;replace hO1:=hO1.grT hG rfl)
   replace hE:=hE.mono fun _ _ h=>h.grT hG rfl
   repeat' (first|(refine CW.region ?_)|(first|refine Post.seq ?_|refine Post.blk ?_)|refine SW.nil ?_|refine SW.pure rfl rfl ?_|(show SW _ _ _ _ (⟨_,Op.binOp _ _ _ _ _,_,_,_,none⟩::_) _ _;refine SW.st (st_add rfl rfl (by omega) (by omega)) rfl ?_))
   refine Post.again (k+1,A2,c2,zr++[s]) ⟨rfl,rfl,rfl,rfl,trivial⟩ (by simp only;omega) ⟨by simp only;omega,hw,hb1,hb2,hb3',hX,hY,hO1,?_⟩
   rw [List.take_succ_eq_append_getElem (by omega)]
   exact hE.snoc hs'
  ·obtain rfl:k=r.Zones.n:=by omega
   rw [List.take_of_length_le (by omega)] at hO
   repeat' (first|(first|refine CW.seq ?_|refine CW.region ?_|refine CW.block ?_|refine CW.condd_f rfl (by omega) ?_|refine CW.exit ?_)|(first|refine Post.seq ?_|refine Post.seq_exit ?_|refine Post.hit ?_|refine Post.again_exit ?_)|refine SW.nil ?_|refine SW.pure rfl rfl ?_|(show SW _ _ _ _ (⟨_,Op.fieldAddr _ _ _,_,_,_,none⟩::_) _ _;refine SW.st (st_field rfl) rfl ?_)|(show SW _ _ _ _ (⟨_,Op.call ⟨.builtin .len,_,_⟩,_,_,_,none⟩::_) _ _;refine SW.st (st_len rfl) rfl ?_)|(show SW _ _ _ _ (⟨_,Op.load _ _,_,_,_,none⟩::_) _ _;refine SW.st (st_load rfl (hb1.cell rfl)) rfl ?_))
   refine CW.loop (fun s:Nat×Option Addr×Nat×List LRow=>[(1,.pointer (some ⟨b1,0,none⟩)),(2,.pointer (some ⟨b2,0,none⟩)),(3,.pointer (some ⟨b3,0,none⟩)),(6,.int .i64 (s.1:Int))])
    (fun s w'=>s.1≤r.Lists.n∧Ext w w'∧Blk w' b1 27 (encH r)∧Blk w' b2 27 (encH .zero)∧Blk w' b3 27 (encH ⟨⟨A,r.Zones.n,c⟩,⟨X,r.Mins.n,c4⟩,r.Cpus,⟨s.2.1,s.1,s.2.2.1⟩,⟨Y,r.Live.n,d4⟩⟩)∧Own w' w.heap.size 3 1 encI X r.Mins.n c4 h.Mins∧Own w' w.heap.size 94 3 encBk Y r.Live.n d4 h.Live ∧
     OwnZs w' w.heap.size ⟨A,r.Zones.n,c⟩ zr h.Zones∧OwnLs w' w.heap.size ⟨s.2.1,s.1,s.2.2.1⟩ s.2.2.2 (h.Lists.take s.1)) (fun s=>r.Lists.n-s.1) (0,none,0,[]) ⟨rfl,rfl,rfl,rfl,trivial⟩ ⟨by omega,hw,hb1,hb2,hb3,hX,hY,hO,OwnLs.nil _ _⟩ ?_
   clear hb1 hb2 hb3 hX hY hw hO
   rintro ⟨k,B,d,lr⟩ w' ⟨hk,hw,hb1,hb2,hb3,hX,hY,hO,hP⟩
   simp only at hk hb3 hP ⊢
   have hA:=hl.row.base
   by_cases hkn:k<r.Lists.n
   ·have hlk:=hl.each.get k (by omega) (by omega)
    have hin:h.Lists[k]'(by omega)∈h.Lists:=List.getElem_mem _
    have q:=hs.pages _ hin
    have q1:=hlk.pages.len
    repeat' (first|(first|refine CW.seq ?_|refine CW.region ?_|refine CW.block ?_|refine CW.condd_t rfl (by omega) ?_|refine CW.skip ?_)|(refine Post.seq ?_)|refine SW.nil ?_|refine SW.pure rfl rfl ?_|(show SW _ _ _ _ (⟨_,Op.fieldAddr _ _ _,_,_,_,none⟩::_) _ _;refine SW.st (st_field rfl) rfl ?_)|(show SW _ _ _ _ (⟨_,Op.indexAddr _ _ _,_,_,_,none⟩::_) _ _;refine SW.st (st_indexN rfl rfl (by assumption) (by omega)) rfl ?_)|(show SW _ _ _ _ (⟨_,Op.call ⟨.builtin .len,_,_⟩,_,_,_,none⟩::_) _ _;refine SW.st (st_len rfl) rfl ?_)|(show SW _ _ _ _ (⟨_,Op.load _ _,_,_,_,none⟩::_) _ _;first|refine SW.st (st_load rfl (hb1.cell rfl)) rfl ?_|refine SW.st (st_loadsx hw rfl rfl ((hl.row.all hkn))) rfl ?_))
    have hlt7:=hP.row.lt_size
    refine SW.alloc rfl fun b7 w1 hw1 hb7b hb7 => ?_
    skip
    refine SW.storeAgg hb7 rfl rfl rfl rfl (one_l _) fun w2 hb7' hg => ?_
    have hXX:=hw1.own hb7b hg
    have hb7w:w.heap.size≤b7:=Nat.le_trans hw.size hb7b
    replace hw:=Ext.trans hw hXX
    replace hb1:=hb1.ext hXX
    replace hb2:=hb2.ext hXX
    replace hb3:=hb3.ext hXX
    replace hX:=hX.ext hXX
    replace hY:=hY.ext hXX
    replace hO:=hO.ext hXX
    replace hP:=hP.ext hXX
    replace hb7:=hb7'
    clear hb7' hw1 hg hXX
    repeat' (first|(first|refine CW.seq ?_|refine CW.region ?_)|(refine Post.seq ?_)|refine SW.nil ?_|(show SW _ _ _ _ (⟨_,Op.fieldAddr _ _ _,_,_,_,none⟩::_) _ _;refine SW.st (st_field rfl) rfl ?_)|(show SW _ _ _ _ (⟨_,Op.load _ _,_,_,_,none⟩::_) _ _;refine SW.st (st_load rfl (hb7.cell rfl)) rfl ?_))
    refine SW.call rfl rfl (words_ans _ _ _ _ _ (hlk.pages.ext hw) (by omega)) fun v w4 hXX hv => ?_
    obtain ⟨W,e4,rfl,hW⟩:=hv
    replace hW:=hW.low hw.size
    (replace hw:=Ext.trans hw hXX;replace hb1:=hb1.ext hXX;replace hb2:=hb2.ext hXX;replace hb3:=hb3.ext hXX;replace hb7:=hb7.ext hXX;replace hX:=hX.ext hXX;replace hY:=hY.ext hXX;replace hO:=hO.ext hXX;replace hP:=hP.ext hXX)
    repeat' ((show SW _ _ _ _ (⟨_,Op.fieldAddr _ _ _,_,_,_,none⟩::_) _ _;refine SW.st (st_field rfl) rfl ?_))
    refine SW.storeB (i:=3) hb7 rfl rfl rfl rfl fun w5 hb7' hg => ?_
    have hG:=hb7.gr hg
    replace hw:=hw.own hb7w hg
    (replace hb1:=hb1.grT hG rfl;replace hb2:=hb2.grT hG rfl;replace hb3:=hb3.grT hG rfl;replace hX:=hX.grT hG rfl;replace hY:=hY.grT hG rfl;replace hO:=hO.grT hG rfl;replace hW:=hW.grT hG rfl)
    replace hP:OwnLs w5 w.heap.size ⟨B,k,d⟩ lr (h.Lists.take k):=⟨hP.row.grown hg (.inr (fun e=>by have:=hlt7 _ e;omega)),hP.each.mono fun _ _ h=>h.grT hG rfl⟩
    repeat' (first|(refine CW.region ?_)|(refine Post.seq ?_)|refine SW.nil ?_|(show SW _ _ _ _ (⟨_,Op.fieldAddr _ _ _,_,_,_,none⟩::_) _ _;refine SW.st (st_field rfl) rfl ?_)|(show SW _ _ _ _ (⟨_,Op.load _ _,_,_,_,none⟩::_) _ _;first|refine SW.st (st_load rfl (hb3.cell rfl)) rfl ?_|refine SW.st (st_loads rfl rfl ((fun _ _=>hb7'.cell))) rfl ?_))
    refine SW.build1 rfl rfl rfl rfl rfl fun b w6 hXX hb hB => ?_
    (replace hw:=Ext.trans hw hXX;replace hb1:=hb1.ext hXX;replace hb2:=hb2.ext hXX;replace hb3:=hb3.ext hXX;replace hX:=hX.ext hXX;replace hY:=hY.ext hXX;replace hO:=hO.ext hXX;replace hP:=hP.ext hXX;replace hW:=hW.ext hXX)
    refine SW.append hP.row (Blk.sl1 (enc:=encL) (x:=⟨ls[k].Cpu,ls[k].Zone,ls[k].Ty,⟨W,_,e4⟩⟩) hB) hw.size rfl rfl rfl (by simp only;omega) (by simp only;omega) fun A2 c2 w7 hP1 hg => ?_
    have hG:=hP.row.gr hg
    replace hw:=ext_grown hw hg (Nat.le_refl _) hP.row.row_ge
    (replace hb1:=hb1.grT hG rfl;replace hb2:=hb2.grT hG rfl;replace hb3:=hb3.grT hG rfl;replace hX:=hX.grT hG rfl;replace hY:=hY.grT hG rfl;replace hO:=hO.grT hG rfl;replace hW:=hW.grT hG rfl)
    have hE:=hP.each.mono fun _ _ h=>h.grT hG rfl
    repeat' ((show SW _ _ _ _ (⟨_,Op.fieldAddr _ _ _,_,_,_,none⟩::_) _ _;refine SW.st (st_field rfl) rfl ?_))
    refine SW.storeB (i:=3) hb3 rfl rfl rfl rfl fun w8 hb3' hg => ?_
    have hG:=hb3.gr hg
    replace hw:=hw.own hb3w hg
    replace hb1:=hb1.grown hg (by simpa using hne3)
    replace hb2:=hb2.grown hg (by simpa using hne4)
    (replace hX:=hX.grT hG rfl;replace hY:=hY.grT hG rfl;replace hO:=hO.grT hG rfl;replace hP1:=hP1.grT hG rfl;replace hW:=hW.grT hG rfl)
    replace hE:=hE.mono fun _ _ h=>h.grT hG rfl
    repeat' (first|(refine CW.region ?_)|(first|refine Post.seq ?_|refine Post.blk ?_)|refine SW.nil ?_|refine SW.pure rfl rfl ?_|(show SW _ _ _ _ (⟨_,Op.binOp _ _ _ _ _,_,_,_,none⟩::_) _ _;refine SW.st (st_add rfl rfl (by omega) (by omega)) rfl ?_))
    refine Post.again (k+1,A2,c2,lr++[⟨ls[k].Cpu,ls[k].Zone,ls[k].Ty,⟨W,_,e4⟩⟩]) ⟨rfl,rfl,rfl,rfl,trivial⟩ (by simp only;omega) ⟨by simp only;omega,hw,hb1,hb2,hb3',hX,hY,hO,hP1,?_⟩
    rw [List.take_succ_eq_append_getElem (by omega)]
    exact hE.snoc ⟨hlk.cpu,hlk.zone,hlk.ty,hW⟩
   ·obtain rfl:k=r.Lists.n:=by omega
    rw [List.take_of_length_le (by omega)] at hP
    repeat' (first|(first|refine CW.seq ?_|refine CW.region ?_|refine CW.condd_f rfl (by omega) ?_|refine CW.exit ?_)|(first|refine Post.seq ?_|refine Post.seq_exit ?_|refine Post.hit ?_|refine Post.again_exit ?_)|refine SW.nil ?_|refine SW.pure rfl rfl ?_|(show SW _ _ _ _ (⟨_,Op.fieldAddr _ _ _,_,_,_,none⟩::_) _ _;refine SW.st (st_field rfl) rfl ?_)|(show SW _ _ _ _ (⟨_,Op.call ⟨.builtin .len,_,_⟩,_,_,_,none⟩::_) _ _;refine SW.st (st_len rfl) rfl ?_)|(show SW _ _ _ _ (⟨_,Op.load _ _,_,_,_,none⟩::_) _ _;first|refine SW.st (st_load rfl (hb1.cell rfl)) rfl ?_|refine SW.st (st_loads rfl rfl ((fun _ _=>hb3.cell))) rfl ?_))
    refine SW.storeAgg hb2 rfl rfl rfl rfl (one_h _) fun w5 hR2 hg => ?_
    have hG:=hb2.gr hg
    replace hw:=hw.own hb2w hg
    (replace hX:=hX.grT hG rfl;replace hY:=hY.grT hG rfl;replace hO:=hO.grT hG rfl;replace hP:=hP.grT hG rfl)
    repeat' (first|(refine CW.ret ?_)|(refine Post.seq ?_)|refine SW.nil ?_)
    exact Post.ret1c rfl rfl hR2 rfl ⟨_,rfl,hw,⟨_,_,r.Cpus,_,_⟩,rfl,hr.cpus,hX,hY,⟨zr,hO⟩,⟨lr,hP⟩⟩
open Go.RowKit
set_option maxHeartbeats 4000000 in
theorem SystemCopyX_ans (r:SRow) (s:KSystem) (w:World) (hr:RdS w r s) (hs:s.small) :
  Ans Tryz.prog 6 [.agg (encSys r).toArray] w fun v w' => ∃ q zr,v = .agg (encSys q).toArray∧SX w' w.heap.size q s zr∧SI w' w.heap.size q s zr:=by
 refine ans_of Tryz.func6 rfl Tryz.ntmps6 rfl ?_
 refine CW.seq (CW.region (SW.box rfl rfl fun b1 w1 hw hb1b hb1 => ?_))
 refine SW.alloc rfl fun b2 w2 hw2 hb2b hb2 => ?_
 have hb2w:w.heap.size≤b2:=Nat.le_trans hw.size hb2b
 have hne2:b2≠b1:=by have:=hb1.lt;omega
 (replace hw:=Ext.trans hw hw2;replace hb1:=hb1.ext hw2)
 obtain ⟨cs,hc⟩:=hr.caches
 have hwl:=hr.words.len
 have s1:=hs.words
 have s3:=hs.caches
 obtain ⟨c1,c2⟩:=hc.len
 repeat' (first|(refine CW.seq ?_)|(refine Post.seq ?_)|refine SW.nil ?_)
 obtain ⟨K,hK⟩ : ∃ K:Env→World→Prop,K=fun L' w' => ∃ X c1 G b3 m1 m2,subEnv L' [(1,.pointer (some ⟨b1,0,none⟩)),(2,.pointer (some ⟨b2,0,none⟩)),(3,.pointer (some ⟨b3,0,none⟩))]∧Ext w w'∧Blk w' b1 30 (encSys r)∧Blk w' b2 30 (encSys .zero) ∧
  Blk w' b3 30 (encSys ⟨⟨X,r.Words.n,c1⟩,G,.nil⟩)∧Own w' w.heap.size 3 1 encI X r.Words.n c1 s.Words∧OwnHB w' m1 m2 G s.Heap∧(w.heap.size≤m1∧m1≤m2∧m2≤w'.heap.size ∧ ∀ g,ownB X c1=some g→g<m1)∧w.heap.size≤b3∧b1≠b3∧b2≠b3:=⟨_,rfl⟩
 refine CW.cut K ?_ ?_
 ·refine CW.any 8 mixed (rb_tail (by kernel_rfl)) rfl fun w1 hw1 hRB => ?_
  replace hw:=Ext.trans hw hw1;replace hb1:=hb1.ext hw1;replace hb2:=hb2.ext hw1;clear hw1
  refine SA.take 0 hRB rfl (by kernel_rfl) (by kernel_rfl) rfl ?_
  repeat ((show SW _ _ _ _ (⟨_,Op.fieldAddr _ _ _,_,_,_,none⟩::_) _ _;refine SW.st (st_field rfl) rfl ?_))
  refine SW.tknil ?_
  refine SA.take 1 hRB rfl (by kernel_rfl) (by kernel_rfl) rfl ?_
  repeat ((show SW _ _ _ _ (⟨_,Op.load _ _,_,_,_,none⟩::_) _ _;refine SW.st (st_load rfl (hb1.cell rfl)) rfl ?_))
  refine SW.tknil ?_
  refine SA.take 3 hRB rfl (by kernel_rfl) (by kernel_rfl) rfl ?_
  repeat ((show SW _ _ _ _ (⟨_,Op.fieldAddr _ _ _,_,_,_,none⟩::_) _ _;refine SW.st (st_field rfl) rfl ?_))
  refine SW.tknil ?_
  refine SA.take 4 hRB rfl (by kernel_rfl) (by kernel_rfl) rfl ?_
  repeat ((show SW _ _ _ _ (⟨_,Op.load _ _,_,_,_,none⟩::_) _ _;refine SW.st (st_loads rfl rfl ((heapIn hb1))) rfl ?_))
  refine SW.tknil ?_
  refine SA.two 2 7 rfl rfl (by kernel_rfl) rfl rfl ?_ ?_
  ·refine SW.call rfl rfl (words_ans _ _ _ _ _ (hr.words.ext hw) (by omega)) fun v w4 hXX hv => ?_
   obtain ⟨X,c4,rfl,hX⟩:=hv
   replace hX:=hX.low hw.size
   replace hw:=Ext.trans hw hXX
   replace hb1:=hb1.ext hXX
   replace hb2:=hb2.ext hXX
   try replace hb3:=hb3.ext hXX
   refine SW.nil (Post.sa hXX ?_)
   refine SA.two 5 7 rfl rfl (by kernel_rfl) rfl rfl ?_ ?_
   ·refine SW.call rfl rfl (HeapCopy_ans _ _ _ (hr.heap.ext hw) hs.heap) fun v w4 hXX hv => ?_
    obtain ⟨G,rfl,hY⟩:=hv
    have hYB:∃ m1 m2,w.heap.size≤m1∧m1≤m2∧m2≤w4.heap.size∧(∀ g,ownB X c4=some g→g<m1)∧OwnHB w4 m1 m2 G s.Heap:=⟨_,_,hw.size,hXX.size,Nat.le_refl _,hX.lt_size,hY.between⟩
    clear hY
    obtain ⟨m1,m2,hm1,hm12,hm2,hXm,hY⟩:=hYB
    replace hX:=hX.ext hXX
    replace hw:=Ext.trans hw hXX
    replace hb1:=hb1.ext hXX
    replace hb2:=hb2.ext hXX
    try replace hb3:=hb3.ext hXX
    refine SW.nil (Post.sa hXX ?_)
    refine SA.take 6 hRB rfl (by kernel_rfl) (by kernel_rfl) rfl ?_
    repeat ((show SW _ _ _ _ (⟨_,Op.build _ _,_,_,_,none⟩::_) _ _;refine SW.st (st_build rfl rfl) rfl ?_))
    refine SW.tknil ?_
    refine SA.one 7 rfl (by kernel_rfl) rfl ?_
    refine SW.alloc rfl fun b3 w4 hXX hb3b hb3 => ?_
    have hb3w:w.heap.size≤b3:=Nat.le_trans hw.size hb3b
    try replace hm2:=Nat.le_trans hm2 hXX.size
    have hne3:b1≠b3:=by have:=hb1.lt;omega
    have hne4:b2≠b3:=by have:=hb2.lt;omega
    replace hw:=Ext.trans hw hXX
    replace hb1:=hb1.ext hXX
    replace hb2:=hb2.ext hXX
    try replace hX:=hX.ext hXX
    try replace hY:=hY.ext hXX
    refine SW.nil (Post.sa hXX ?_)
    refine SA.done (by kernel_rfl) ?_
    skip
    refine SW.storeAgg hb3 rfl rfl rfl rfl (one_s ⟨⟨X,r.Words.n,c4⟩,G,.nil⟩) fun w5 hR2 hg => ?_
    have hG:=hb3.gr hg
    have hm3:=Nat.le_trans hm2 hg.size
    replace hw:=hw.own hb3w hg
    (replace hX:=hX.grT hG rfl;replace hY:=hY.grT hG rfl)
    replace hb1:=hb1.grown hg (by simpa using hne3)
    replace hb2:=hb2.grown hg (by simpa using hne4)
    repeat' (first|(refine Post.np ?_)|refine SW.nil ?_)
    exact Post.cut (K:=K) (by rw [hK];exact ⟨X,c4,G,b3,m1,m2,⟨rfl,rfl,rfl,trivial⟩,hw,hb1,hb2,hR2,hX,hY,⟨hm1,hm12,hm3,hXm⟩,hb3w,hne3,hne4⟩)
   ·refine SW.alloc rfl fun b3 w4 hXX hb3b hb3 => ?_
    have hb3w:w.heap.size≤b3:=Nat.le_trans hw.size hb3b
    try replace hm2:=Nat.le_trans hm2 hXX.size
    have hne3:b1≠b3:=by have:=hb1.lt;omega
    have hne4:b2≠b3:=by have:=hb2.lt;omega
    replace hw:=Ext.trans hw hXX
    replace hb1:=hb1.ext hXX
    replace hb2:=hb2.ext hXX
    try replace hX:=hX.ext hXX
    try replace hY:=hY.ext hXX
    refine SW.nil (Post.sa hXX ?_)
    refine SA.one 5 rfl (by kernel_rfl) rfl ?_
    refine SW.call rfl rfl (HeapCopy_ans _ _ _ (hr.heap.ext hw) hs.heap) fun v w4 hXX hv => ?_
    obtain ⟨G,rfl,hY⟩:=hv
    have hYB:∃ m1 m2,w.heap.size≤m1∧m1≤m2∧m2≤w4.heap.size∧(∀ g,ownB X c4=some g→g<m1)∧OwnHB w4 m1 m2 G s.Heap:=⟨_,_,hw.size,hXX.size,Nat.le_refl _,hX.lt_size,hY.between⟩
    clear hY
    obtain ⟨m1,m2,hm1,hm12,hm2,hXm,hY⟩:=hYB
    replace hX:=hX.ext hXX
    replace hw:=Ext.trans hw hXX
    replace hb1:=hb1.ext hXX
    replace hb2:=hb2.ext hXX
    try replace hb3:=hb3.ext hXX
    refine SW.nil (Post.sa hXX ?_)
    refine SA.take 6 hRB rfl (by kernel_rfl) (by kernel_rfl) rfl ?_
    repeat ((show SW _ _ _ _ (⟨_,Op.build _ _,_,_,_,none⟩::_) _ _;refine SW.st (st_build rfl rfl) rfl ?_))
    refine SW.tknil ?_
    refine SA.done (by kernel_rfl) ?_
    skip
    refine SW.storeAgg hb3 rfl rfl rfl rfl (one_s ⟨⟨X,r.Words.n,c4⟩,G,.nil⟩) fun w5 hR2 hg => ?_
    have hG:=hb3.gr hg
    have hm3:=Nat.le_trans hm2 hg.size
    replace hw:=hw.own hb3w hg
    (replace hX:=hX.grT hG rfl;replace hY:=hY.grT hG rfl)
    replace hb1:=hb1.grown hg (by simpa using hne3)
    replace hb2:=hb2.grown hg (by simpa using hne4)
    repeat' (first|(refine Post.np ?_)|refine SW.nil ?_)
    exact Post.cut (K:=K) (by rw [hK];exact ⟨X,c4,G,b3,m1,m2,⟨rfl,rfl,rfl,trivial⟩,hw,hb1,hb2,hR2,hX,hY,⟨hm1,hm12,hm3,hXm⟩,hb3w,hne3,hne4⟩)
  ·refine SW.alloc rfl fun b3 w4 hXX hb3b hb3 => ?_
   have hb3w:w.heap.size≤b3:=Nat.le_trans hw.size hb3b
   try replace hm2:=Nat.le_trans hm2 hXX.size
   have hne3:b1≠b3:=by have:=hb1.lt;omega
   have hne4:b2≠b3:=by have:=hb2.lt;omega
   replace hw:=Ext.trans hw hXX
   replace hb1:=hb1.ext hXX
   replace hb2:=hb2.ext hXX
   try replace hX:=hX.ext hXX
   try replace hY:=hY.ext hXX
   refine SW.nil (Post.sa hXX ?_)
   refine SA.one 2 rfl (by kernel_rfl) rfl ?_
   refine SW.call rfl rfl (words_ans _ _ _ _ _ (hr.words.ext hw) (by omega)) fun v w4 hXX hv => ?_
   obtain ⟨X,c4,rfl,hX⟩:=hv
   replace hX:=hX.low hw.size
   replace hw:=Ext.trans hw hXX
   replace hb1:=hb1.ext hXX
   replace hb2:=hb2.ext hXX
   try replace hb3:=hb3.ext hXX
   refine SW.nil (Post.sa hXX ?_)
   refine SA.one 5 rfl (by kernel_rfl) rfl ?_
   refine SW.call rfl rfl (HeapCopy_ans _ _ _ (hr.heap.ext hw) hs.heap) fun v w4 hXX hv => ?_
   obtain ⟨G,rfl,hY⟩:=hv
   have hYB:∃ m1 m2,w.heap.size≤m1∧m1≤m2∧m2≤w4.heap.size∧(∀ g,ownB X c4=some g→g<m1)∧OwnHB w4 m1 m2 G s.Heap:=⟨_,_,hw.size,hXX.size,Nat.le_refl _,hX.lt_size,hY.between⟩
   clear hY
   obtain ⟨m1,m2,hm1,hm12,hm2,hXm,hY⟩:=hYB
   replace hX:=hX.ext hXX
   replace hw:=Ext.trans hw hXX
   replace hb1:=hb1.ext hXX
   replace hb2:=hb2.ext hXX
   try replace hb3:=hb3.ext hXX
   refine SW.nil (Post.sa hXX ?_)
   refine SA.take 6 hRB rfl (by kernel_rfl) (by kernel_rfl) rfl ?_
   repeat ((show SW _ _ _ _ (⟨_,Op.build _ _,_,_,_,none⟩::_) _ _;refine SW.st (st_build rfl rfl) rfl ?_))
   refine SW.tknil ?_
   refine SA.done (by kernel_rfl) ?_
   skip
   refine SW.storeAgg hb3 rfl rfl rfl rfl (one_s ⟨⟨X,r.Words.n,c4⟩,G,.nil⟩) fun w5 hR2 hg => ?_
   have hG:=hb3.gr hg
   have hm3:=Nat.le_trans hm2 hg.size
   replace hw:=hw.own hb3w hg
   (replace hX:=hX.grT hG rfl;replace hY:=hY.grT hG rfl)
   replace hb1:=hb1.grown hg (by simpa using hne3)
   replace hb2:=hb2.grown hg (by simpa using hne4)
   repeat' (first|(refine Post.np ?_)|refine SW.nil ?_)
   exact Post.cut (K:=K) (by rw [hK];exact ⟨X,c4,G,b3,m1,m2,⟨rfl,rfl,rfl,trivial⟩,hw,hb1,hb2,hR2,hX,hY,⟨hm1,hm12,hm3,hXm⟩,hb3w,hne3,hne4⟩)
 ·clear hb1 hb2 hw
  subst hK
  rintro L' w' ⟨X,c4,G,b3,m1,m2,hsub,hw,hb1,hb2,hb3,hX,hY,⟨hm1,hm12,hm3,hXm⟩,hb3w,hne3,hne4⟩
  refine Post.sub hsub ?_
  repeat' (first|(first|refine CW.seq ?_|refine CW.region ?_|refine CW.block ?_)|(refine Post.seq ?_)|refine SW.nil ?_|refine SW.pure rfl rfl ?_)
  refine CW.loop (fun s:Nat×Option Addr×Nat×List CRow=>[(1,.pointer (some ⟨b1,0,none⟩)),(2,.pointer (some ⟨b2,0,none⟩)),(3,.pointer (some ⟨b3,0,none⟩)),(4,.int .i64 (s.1:Int))])
   (fun t w'=>t.1≤r.Caches.n∧m2≤w'.heap.size∧Ext w w'∧Blk w' b1 30 (encSys r)∧Blk w' b2 30 (encSys .zero)∧Blk w' b3 30 (encSys ⟨⟨X,r.Words.n,c4⟩,G,⟨t.2.1,t.1,t.2.2.1⟩⟩)∧Own w' w.heap.size 3 1 encI X r.Words.n c4 s.Words∧OwnHB w' m1 m2 G s.Heap ∧
    OwnCs w' m2 ⟨t.2.1,t.1,t.2.2.1⟩ t.2.2.2 (s.Caches.take t.1)∧SepC ⟨X,r.Words.n,c4⟩ t.2.2.2) (fun t=>r.Caches.n-t.1) (0,none,0,[]) ⟨rfl,rfl,rfl,rfl,trivial⟩ ⟨by omega,hm3,hw,hb1,hb2,hb3,hX,hY,OwnCs.nil _ _,SepC.nil _⟩ ?_
  clear hb1 hb2 hb3 hX hY hw hsub
  rintro ⟨k,A,c,zr⟩ w' ⟨hk,hm3,hw,hb1,hb2,hb3,hX,hY,hO,hSp⟩
  simp only at hk hb3 hO hSp ⊢
  have hA:=hc.row.base
  by_cases hkn:k<r.Caches.n
  ·have hkc:k<cs.length:=by omega
   have hks:k<s.Caches.length:=by omega
   have hck:=hc.each.get k hkc hks
   have q:=hs.each _ (List.getElem_mem hks)
   have q1:=hck.names.len
   have q2:=hck.slabs.len
   have q3:=hck.active.len
   have q4:=q.names
   have q5:=q.slabs
   have q6:=q.active
   have hlt5:=hO.row.lt_size
   repeat' (first|(first|refine CW.seq ?_|refine CW.region ?_|refine CW.block ?_|refine CW.condd_t rfl (by omega) ?_|refine CW.skip ?_)|(refine Post.seq ?_)|refine SW.nil ?_|refine SW.pure rfl rfl ?_|(show SW _ _ _ _ (⟨_,Op.fieldAddr _ _ _,_,_,_,none⟩::_) _ _;refine SW.st (st_field rfl) rfl ?_)|(show SW _ _ _ _ (⟨_,Op.indexAddr _ _ _,_,_,_,none⟩::_) _ _;refine SW.st (st_indexN rfl rfl (by assumption) (by omega)) rfl ?_)|(show SW _ _ _ _ (⟨_,Op.call ⟨.builtin .len,_,_⟩,_,_,_,none⟩::_) _ _;refine SW.st (st_len rfl) rfl ?_)|(show SW _ _ _ _ (⟨_,Op.load _ _,_,_,_,none⟩::_) _ _;first|refine SW.st (st_load rfl (hb1.cell rfl)) rfl ?_|refine SW.st (st_loadsx hw rfl rfl ((hc.row.all hkn))) rfl ?_))
   refine SW.alloc rfl fun b5 w1 hw1 hb5b hb5 => ?_
   skip
   refine SW.storeAgg hb5 rfl rfl rfl rfl (one_c _) fun w2 hb5' hg => ?_
   have hXX:=hw1.own hb5b hg
   have hb5w:w.heap.size≤b5:=Nat.le_trans hw.size hb5b
   replace hw:=Ext.trans hw hXX
   replace hb1:=hb1.ext hXX
   replace hb2:=hb2.ext hXX
   replace hb3:=hb3.ext hXX
   replace hX:=hX.ext hXX
   replace hY:=hY.ext hXX
   replace hO:=hO.ext hXX
   replace hb5:=hb5'
   clear hb5' hw1 hg hXX
   have hm5:m2≤b5:=Nat.le_trans hm3 hb5b
   repeat' (first|(first|refine CW.seq ?_|refine CW.region ?_|refine CW.block ?_)|(refine Post.seq ?_)|refine SW.nil ?_|refine SW.pure rfl rfl ?_)
   have hwA:Ext w w2:=hw
   refine CW.loop (fun t:Nat×Option Addr×Nat=>[(1,.pointer (some ⟨b1,0,none⟩)),(2,.pointer (some ⟨b2,0,none⟩)),(3,.pointer (some ⟨b3,0,none⟩)),(4,.int .i64 (k:Int)),(5,.pointer (some ⟨b5,0,none⟩)),(6,.slice t.2.1 t.1 t.2.2),(7,.int .i64 (t.1:Int))])
    (fun t w'=>t.1≤cs[k].Names.n∧Ext w2 w'∧Own w' w2.heap.size 9 1 encStr t.2.1 t.1 t.2.2 (s.Caches[k].Names.take t.1)) (fun t=>cs[k].Names.n-t.1) (0,none,0) ⟨rfl,rfl,rfl,rfl,rfl,rfl,rfl,trivial⟩ ⟨by omega,Ext.refl _,by simpa using Own.nil_ _ _ _ _ _ _⟩ ?_
   clear hw
   rintro ⟨j,B,d⟩ w3 ⟨hj,hw,hB⟩
   simp only at hj hB ⊢
   have hA1:=hck.names.base
   by_cases hjn:j<cs[k].Names.n
   ·repeat' (first|(first|refine CW.seq ?_|refine CW.region ?_|refine CW.block ?_|refine CW.condd_t rfl (by omega) ?_|refine CW.skip ?_)|(refine Post.seq ?_)|refine SW.nil ?_|refine SW.pure rfl rfl ?_|(show SW _ _ _ _ (⟨_,Op.fieldAddr _ _ _,_,_,_,none⟩::_) _ _;refine SW.st (st_field rfl) rfl ?_)|(show SW _ _ _ _ (⟨_,Op.indexAddr _ _ _,_,_,_,none⟩::_) _ _;refine SW.st (st_indexN rfl rfl (by assumption) (by omega)) rfl ?_)|(show SW _ _ _ _ (⟨_,Op.call ⟨.builtin .len,_,_⟩,_,_,_,none⟩::_) _ _;refine SW.st (st_len rfl) rfl ?_)|(show SW _ _ _ _ (⟨_,Op.load _ _,_,_,_,none⟩::_) _ _;first|refine SW.st (st_loadx hw rfl (hb5.cell (i:=0) (v := .slice cs[k].Names.A cs[k].Names.n cs[k].Names.c) rfl)) rfl ?_|refine SW.st (st_loadx hw rfl ((hck.names.ext hwA).one hjn rfl)) rfl ?_))
    refine SW.build1 rfl rfl rfl rfl rfl fun b w1 hw1 hb hBb => ?_
    replace hw:=Ext.trans hw hw1
    replace hB:=hB.ext hw1
    refine SW.append hB (Blk.sl1 (enc:=encStr) hBb) hw.size rfl rfl rfl (by omega) (by omega) fun A2 c2 w4 hO1 hg => ?_
    replace hw:=ext_grown hw hg (Nat.le_refl _) hB.row_ge
    repeat' (first|(refine CW.region ?_)|(first|refine Post.seq ?_|refine Post.blk ?_)|refine SW.nil ?_|refine SW.pure rfl rfl ?_|(show SW _ _ _ _ (⟨_,Op.binOp _ _ _ _ _,_,_,_,none⟩::_) _ _;refine SW.st (st_add rfl rfl (by omega) (by omega)) rfl ?_))
    refine Post.again (j+1,A2,c2) ⟨rfl,rfl,rfl,rfl,rfl,rfl,rfl,trivial⟩ (by simp only;omega) ⟨by simp only;omega,hw,?_⟩
    rw [List.take_succ_eq_append_getElem (by omega)]
    exact hO1
   ·obtain rfl:j=cs[k].Names.n:=by omega
    rw [List.take_of_length_le (by omega)] at hB
    repeat' (first|(first|refine CW.seq ?_|refine CW.region ?_|refine CW.block ?_|refine CW.condd_f rfl (by omega) ?_|refine CW.exit ?_)|(first|refine Post.seq ?_|refine Post.seq_exit ?_|refine Post.hit ?_|refine Post.again_exit ?_)|refine SW.nil ?_|refine SW.pure rfl rfl ?_|(show SW _ _ _ _ (⟨_,Op.fieldAddr _ _ _,_,_,_,none⟩::_) _ _;refine SW.st (st_field rfl) rfl ?_)|(show SW _ _ _ _ (⟨_,Op.call ⟨.builtin .len,_,_⟩,_,_,_,none⟩::_) _ _;refine SW.st (st_len rfl) rfl ?_)|(show SW _ _ _ _ (⟨_,Op.load _ _,_,_,_,none⟩::_) _ _;refine SW.st (st_loadx hw rfl (hb5.cell (i:=0) (v := .slice cs[k].Names.A cs[k].Names.n cs[k].Names.c) rfl)) rfl ?_))
    have hwN:=hw
    have hn1:=hO.apN (b:=⟨B,cs[k].Names.n,d⟩) hB.row_ge
    replace hB:=hB.low (Nat.le_trans hm5 (Nat.le_of_lt hb5.lt))
    replace hw:=hwA
    (replace hw:=Ext.trans hw hwN;replace hb1:=hb1.ext hwN;replace hb2:=hb2.ext hwN;replace hb3:=hb3.ext hwN;replace hb5:=hb5.ext hwN;replace hX:=hX.ext hwN;replace hY:=hY.ext hwN;replace hO:=hO.ext hwN)
    have hwB:Ext w w3:=hw
    refine CW.loop (fun t:Nat×Option Addr×Nat=>[(1,.pointer (some ⟨b1,0,none⟩)),(2,.pointer (some ⟨b2,0,none⟩)),(3,.pointer (some ⟨b3,0,none⟩)),(4,.int .i64 (k:Int)),(5,.pointer (some ⟨b5,0,none⟩)),(6,.slice B cs[k].Names.n d),(8,.slice t.2.1 t.1 t.2.2),(9,.int .i64 (t.1:Int))])
     (fun t w'=>t.1≤cs[k].Slabs.n∧Ext w3 w'∧Own w' w3.heap.size 46 3 encSb t.2.1 t.1 t.2.2 (s.Caches[k].Slabs.take t.1)) (fun t=>cs[k].Slabs.n-t.1) (0,none,0) ⟨rfl,rfl,rfl,rfl,rfl,rfl,rfl,rfl,trivial⟩ ⟨by omega,Ext.refl _,by simpa using Own.nil_ _ _ _ _ _ _⟩ ?_
    clear hw hwN
    rintro ⟨j,M,m⟩ w4 ⟨hj,hw,hM⟩
    simp only at hj hM ⊢
    have hA2:=hck.slabs.base
    by_cases hjn:j<cs[k].Slabs.n
    ·repeat' (first|(first|refine CW.seq ?_|refine CW.region ?_|refine CW.block ?_|refine CW.condd_t rfl (by omega) ?_|refine CW.skip ?_)|(refine Post.seq ?_)|refine SW.nil ?_|refine SW.pure rfl rfl ?_|(show SW _ _ _ _ (⟨_,Op.fieldAddr _ _ _,_,_,_,none⟩::_) _ _;refine SW.st (st_field rfl) rfl ?_)|(show SW _ _ _ _ (⟨_,Op.indexAddr _ _ _,_,_,_,none⟩::_) _ _;refine SW.st (st_indexN rfl rfl (by assumption) (by omega)) rfl ?_)|(show SW _ _ _ _ (⟨_,Op.call ⟨.builtin .len,_,_⟩,_,_,_,none⟩::_) _ _;refine SW.st (st_len rfl) rfl ?_)|(show SW _ _ _ _ (⟨_,Op.load _ _,_,_,_,none⟩::_) _ _;first|refine SW.st (st_loadx hw rfl (hb5.cell (i:=4) (v := .slice cs[k].Slabs.A cs[k].Slabs.n cs[k].Slabs.c) rfl)) rfl ?_|refine SW.st (st_loadsx hw rfl rfl (((hck.slabs.ext hwB).all hjn))) rfl ?_))
     refine SW.build1 rfl rfl rfl rfl rfl fun b w1 hw1 hb hBb => ?_
     replace hw:=Ext.trans hw hw1
     replace hM:=hM.ext hw1
     refine SW.append hM (Blk.sl1 (enc:=encSb) hBb) hw.size rfl rfl rfl (by omega) (by omega) fun A2 c2 w5 hO1 hg => ?_
     replace hw:=ext_grown hw hg (Nat.le_refl _) hM.row_ge
     repeat' (first|(refine CW.region ?_)|(first|refine Post.seq ?_|refine Post.blk ?_)|refine SW.nil ?_|refine SW.pure rfl rfl ?_|(show SW _ _ _ _ (⟨_,Op.binOp _ _ _ _ _,_,_,_,none⟩::_) _ _;refine SW.st (st_add rfl rfl (by omega) (by omega)) rfl ?_))
     refine Post.again (j+1,A2,c2) ⟨rfl,rfl,rfl,rfl,rfl,rfl,rfl,rfl,trivial⟩ (by simp only;omega) ⟨by simp only;omega,hw,?_⟩
     rw [List.take_succ_eq_append_getElem (by omega)]
     exact hO1
    ·obtain rfl:j=cs[k].Slabs.n:=by omega
     rw [List.take_of_length_le (by omega)] at hM
     repeat' (first|(first|refine CW.seq ?_|refine CW.region ?_|refine CW.condd_f rfl (by omega) ?_|refine CW.exit ?_)|(first|refine Post.seq ?_|refine Post.seq_exit ?_|refine Post.hit ?_|refine Post.again_exit ?_)|refine SW.nil ?_|refine SW.pure rfl rfl ?_|(show SW _ _ _ _ (⟨_,Op.fieldAddr _ _ _,_,_,_,none⟩::_) _ _;refine SW.st (st_field rfl) rfl ?_)|(show SW _ _ _ _ (⟨_,Op.call ⟨.builtin .len,_,_⟩,_,_,_,none⟩::_) _ _;refine SW.st (st_len rfl) rfl ?_)|(show SW _ _ _ _ (⟨_,Op.load _ _,_,_,_,none⟩::_) _ _;refine SW.st (st_loadx hw rfl (hb5.cell (i:=4) (v := .slice cs[k].Slabs.A cs[k].Slabs.n cs[k].Slabs.c) rfl)) rfl ?_))
     have hwN:=hw
     have hm1':=hO.apS (b:=⟨M,cs[k].Slabs.n,m⟩) hM.row_ge
     replace hM:=hM.low (Nat.le_trans hm5 (Nat.le_of_lt hb5.lt))
     replace hw:=hwB
     (replace hw:=Ext.trans hw hwN;replace hb1:=hb1.ext hwN;replace hb2:=hb2.ext hwN;replace hb3:=hb3.ext hwN;replace hb5:=hb5.ext hwN;replace hX:=hX.ext hwN;replace hY:=hY.ext hwN;replace hO:=hO.ext hwN;replace hB:=hB.ext hwN)
     refine SW.storeB (i:=0) hb5 rfl rfl rfl rfl fun w6 hb5' hg => ?_
     have hG:=hb5.gr hg
     replace hw:=hw.own hb5w hg
     replace hO:=hO.blk hb5 hg hlt5 hb5b
     (replace hb1:=hb1.grT hG rfl;replace hb2:=hb2.grT hG rfl;replace hb3:=hb3.grT hG rfl;replace hX:=hX.grT hG rfl;replace hY:=hY.grT hG rfl;replace hB:=hB.grT hG rfl;replace hM:=hM.grT hG rfl)
     replace hb5:=hb5'
     clear hb5' hg hG
     repeat' (first|(first|refine CW.seq ?_|refine CW.region ?_)|(refine Post.seq ?_)|refine SW.nil ?_|refine SW.pure rfl rfl ?_|(show SW _ _ _ _ (⟨_,Op.fieldAddr _ _ _,_,_,_,none⟩::_) _ _;refine SW.st (st_field rfl) rfl ?_))
     refine SW.storeB (i:=4) hb5 rfl rfl rfl rfl fun w6 hb5' hg => ?_
     have hG:=hb5.gr hg
     replace hw:=hw.own hb5w hg
     replace hO:=hO.blk hb5 hg hlt5 hb5b
     (replace hb1:=hb1.grT hG rfl;replace hb2:=hb2.grT hG rfl;replace hb3:=hb3.grT hG rfl;replace hX:=hX.grT hG rfl;replace hY:=hY.grT hG rfl;replace hB:=hB.grT hG rfl;replace hM:=hM.grT hG rfl)
     replace hb5:=hb5'
     clear hb5' hg hG
     repeat' (first|(first|refine CW.seq ?_|refine CW.region ?_)|(refine Post.seq ?_)|refine SW.nil ?_|(show SW _ _ _ _ (⟨_,Op.fieldAddr _ _ _,_,_,_,none⟩::_) _ _;refine SW.st (st_field rfl) rfl ?_)|(show SW _ _ _ _ (⟨_,Op.load _ _,_,_,_,none⟩::_) _ _;refine SW.st (st_load rfl (hb5.cell (i:=5) (v := .slice cs[k].Active.A cs[k].Active.n cs[k].Active.c) rfl)) rfl ?_))
     refine SW.call rfl rfl (words_ans _ _ _ _ _ (hck.active.ext hw) (by omega)) fun v w7 hXX hv => ?_
     obtain ⟨Q,q7,rfl,hQ⟩:=hv
     have hq1:=hO.apA (b:=⟨Q,cs[k].Active.n,q7⟩) hQ.row_ge
     have hq2:=apart_new (a:=⟨X,r.Words.n,c4⟩) (b:=⟨Q,cs[k].Active.n,q7⟩) hX hQ.row_ge
     replace hQ:=hQ.low (Nat.le_trans hm5 (Nat.le_of_lt hb5.lt))
     (replace hw:=Ext.trans hw hXX;replace hb1:=hb1.ext hXX;replace hb2:=hb2.ext hXX;replace hb3:=hb3.ext hXX;replace hb5:=hb5.ext hXX;replace hX:=hX.ext hXX;replace hY:=hY.ext hXX;replace hO:=hO.ext hXX;replace hB:=hB.ext hXX;replace hM:=hM.ext hXX)
     repeat' ((show SW _ _ _ _ (⟨_,Op.fieldAddr _ _ _,_,_,_,none⟩::_) _ _;refine SW.st (st_field rfl) rfl ?_))
     refine SW.storeB (i:=5) hb5 rfl rfl rfl rfl fun w6 hb5' hg => ?_
     have hG:=hb5.gr hg
     replace hw:=hw.own hb5w hg
     replace hO:=hO.blk hb5 hg hlt5 hb5b
     (replace hb1:=hb1.grT hG rfl;replace hb2:=hb2.grT hG rfl;replace hb3:=hb3.grT hG rfl;replace hX:=hX.grT hG rfl;replace hY:=hY.grT hG rfl;replace hB:=hB.grT hG rfl;replace hM:=hM.grT hG rfl;replace hQ:=hQ.grT hG rfl)
     replace hb5:=hb5'
     clear hb5' hg hG
     repeat' (first|(refine CW.region ?_)|(refine Post.seq ?_)|refine SW.nil ?_|(show SW _ _ _ _ (⟨_,Op.fieldAddr _ _ _,_,_,_,none⟩::_) _ _;refine SW.st (st_field rfl) rfl ?_)|(show SW _ _ _ _ (⟨_,Op.load _ _,_,_,_,none⟩::_) _ _;first|refine SW.st (st_load rfl (hb3.cell rfl)) rfl ?_|refine SW.st (st_loads rfl rfl ((fun _ _=>hb5.cell))) rfl ?_))
     refine SW.build1 rfl rfl rfl rfl rfl fun b w6 hXX hb hBb => ?_
     (replace hw:=Ext.trans hw hXX;replace hb1:=hb1.ext hXX;replace hb2:=hb2.ext hXX;replace hb3:=hb3.ext hXX;replace hX:=hX.ext hXX;replace hY:=hY.ext hXX;replace hO:=hO.ext hXX;replace hB:=hB.ext hXX;replace hM:=hM.ext hXX;replace hQ:=hQ.ext hXX)
     refine SW.append hO.row (Blk.sl1 (enc:=encC) (x:=⟨⟨B,_,d⟩,cs[k].Size,cs[k].Per,cs[k].Order,⟨M,_,m⟩,⟨Q,_,q7⟩⟩) hBb) (Nat.le_trans hm5 (Nat.le_trans (Nat.le_of_lt hb5.lt) hXX.size)) rfl rfl rfl (by simp only;omega) (by simp only;omega) fun A2 c2 w5 hO1 hg => ?_
     have hG:=hO.row.gr hg
     have hm6:=Nat.le_trans (Nat.le_trans hm5 (Nat.le_trans (Nat.le_of_lt hb5.lt) hXX.size)) hg.size
     replace hw:=ext_grown hw hg (Nat.le_trans hm1 hm12) hO.row.row_ge
     (replace hb1:=hb1.grT hG rfl;replace hb2:=hb2.grT hG rfl;replace hb3:=hb3.grT hG rfl;replace hX:=hX.grT hG rfl;replace hY:=hY.grT hG rfl;replace hB:=hB.grT hG rfl;replace hM:=hM.grT hG rfl;replace hQ:=hQ.grT hG rfl)
     have hE:=hO.each.mono fun _ _ h=>h.grT hG rfl
     repeat' ((show SW _ _ _ _ (⟨_,Op.fieldAddr _ _ _,_,_,_,none⟩::_) _ _;refine SW.st (st_field rfl) rfl ?_))
     refine SW.storeB (i:=6) hb3 rfl rfl rfl rfl fun w6 hb3' hg => ?_
     have hG:=hb3.gr hg
     replace hw:=hw.own hb3w hg
     replace hb1:=hb1.grown hg (by simpa using hne3)
     replace hb2:=hb2.grown hg (by simpa using hne4)
     (replace hX:=hX.grT hG rfl;replace hY:=hY.grT hG rfl;replace hB:=hB.grT hG rfl;replace hM:=hM.grT hG rfl;replace hQ:=hQ.grT hG rfl;replace hO1:=hO1.grT hG rfl)
     replace hE:=hE.mono fun _ _ h=>h.grT hG rfl
     repeat' (first|(refine CW.region ?_)|(first|refine Post.seq ?_|refine Post.blk ?_)|refine SW.nil ?_|refine SW.pure rfl rfl ?_|(show SW _ _ _ _ (⟨_,Op.binOp _ _ _ _ _,_,_,_,none⟩::_) _ _;refine SW.st (st_add rfl rfl (by omega) (by omega)) rfl ?_))
     refine Post.again (k+1,A2,c2,zr++[⟨⟨B,_,d⟩,cs[k].Size,cs[k].Per,cs[k].Order,⟨M,_,m⟩,⟨Q,_,q7⟩⟩]) ⟨rfl,rfl,rfl,rfl,trivial⟩ (by simp only;omega) ⟨by simp only;omega,Nat.le_trans hm6 hg.size,hw,hb1,hb2,hb3',hX,hY,⟨hO1,?_⟩,hSp.snoc (fun u hu=>⟨hn1 u hu,hm1' u hu,hq1 u hu⟩) hq2⟩
     rw [List.take_succ_eq_append_getElem (by omega)]
     exact hE.snoc ⟨hck.size,hck.per,hck.order,hB,hM,hQ⟩
  ·obtain rfl:k=r.Caches.n:=by omega
   rw [List.take_of_length_le (by omega)] at hO
   repeat' (first|(first|refine CW.seq ?_|refine CW.region ?_|refine CW.condd_f rfl (by omega) ?_|refine CW.exit ?_)|(first|refine Post.seq ?_|refine Post.seq_exit ?_|refine Post.hit ?_|refine Post.again_exit ?_)|refine SW.nil ?_|refine SW.pure rfl rfl ?_|(show SW _ _ _ _ (⟨_,Op.fieldAddr _ _ _,_,_,_,none⟩::_) _ _;refine SW.st (st_field rfl) rfl ?_)|(show SW _ _ _ _ (⟨_,Op.call ⟨.builtin .len,_,_⟩,_,_,_,none⟩::_) _ _;refine SW.st (st_len rfl) rfl ?_)|(show SW _ _ _ _ (⟨_,Op.load _ _,_,_,_,none⟩::_) _ _;first|refine SW.st (st_load rfl (hb1.cell rfl)) rfl ?_|refine SW.st (st_loads rfl rfl ((fun _ _=>hb3.cell))) rfl ?_))
   refine SW.storeAgg hb2 rfl rfl rfl rfl (one_s _) fun w5 hR2 hg => ?_
   have hG:=hb2.gr hg
   replace hw:=hw.own hb2w hg
   (replace hX:=hX.grT hG rfl;replace hY:=hY.grT hG rfl;replace hO:=hO.grT hG rfl)
   repeat' (first|(refine CW.ret ?_)|(refine Post.seq ?_)|refine SW.nil ?_)
   exact Post.ret1c rfl rfl hR2 rfl ⟨_,rfl,hw,⟨_,G,_⟩,zr,rfl,⟨hX,hY.own.low hm1,hO.row.low (Nat.le_trans hm1 hm12),hO.each.mono fun _ _ h=>h.low (Nat.le_trans hm1 hm12),hSp.pair⟩,⟨m1,m2,hm1,hm12,hXm,hY,hO.each⟩⟩
open Go.RowKit
set_option maxHeartbeats 4000000 in
theorem DeleteSlab_ans (A:Option Addr) (n c lo:Nat) (l:List Slab) (w:World) (hO:Own w lo 46 3 encSb A n c l) (i:Nat) (hi:i<n) (hn:n≤1000000000000000000) (hlo:lo≤w.heap.size) :
  AnsX Tryz.prog 47 [.slice A n c,.int .i64 (i:Int),.int .i64 ((i+1:Nat) : Int)] w fun v w'=>v = .slice A (n-1) c∧Own w' lo 46 3 encSb A (n-1) c (l.eraseIdx i)∧w.grownBy w' (ownB A c):=by
 refine ansx_of Tryz.func47 rfl Tryz.ntmps47 rfl ?_
 have hle:=hO.le
 have hll:=hO.len
 have hA:=hO.sl.base
 have hg0:w.grownBy w (ownB A c):=World.grownBy.refl _ _
 repeat' (first|(first|refine CW.seq ?_|refine CW.region ?_|refine CW.condd_f rfl (by omega) ?_|refine CW.skip ?_)|(refine Post.seq ?_)|refine SW.nil ?_|refine SW.pure rfl rfl ?_|(show SW _ _ _ _ (⟨_,Op.call ⟨.builtin .len,_,_⟩,_,_,_,none⟩::_) _ _;refine SW.st (st_len rfl) rfl ?_)|(refine SW.st (st_slice3 (i:=i) (j:=i+1) (k:=n) rfl rfl rfl rfl (by omega) (by omega) (by omega)) rfl ?_))
 all_goals first|(exfalso;omega)|skip
 have hw:=Ext.refl w
 have e0:i+(n-(i+1))=n-1:=by omega
 have el:l.take i++l.drop (i+1)=l.eraseIdx i:=by rw [List.eraseIdx_eq_take_drop_succ]
 refine CW.any 6 mixed (rb_tail (by kernel_rfl)) rfl fun w1 hw1 hRB => ?_
 replace hw:=Ext.trans hw hw1;replace hO:=hO.ext hw1;clear hw1
 refine SA.take 0 hRB rfl (by kernel_rfl) (by kernel_rfl) rfl ?_
 repeat (refine SW.pure rfl rfl ?_)
 refine SW.tknil ?_
 refine SA.take 1 hRB rfl (by kernel_rfl) (by kernel_rfl) rfl ?_
 repeat (refine SW.pure rfl rfl ?_)
 refine SW.tknil ?_
 refine SA.take 2 hRB rfl (by kernel_rfl) (by kernel_rfl) rfl ?_
 repeat ((refine SW.st (st_sliceHi (k:=i) rfl rfl (by omega)) rfl ?_))
 refine SW.tknil ?_
 refine SA.take 3 hRB rfl (by kernel_rfl) (by kernel_rfl) rfl ?_
 repeat (refine SW.pure rfl rfl ?_)
 refine SW.tknil ?_
 refine SA.take 4 hRB rfl (by kernel_rfl) (by kernel_rfl) rfl ?_
 repeat (refine SW.pure rfl rfl ?_)
 refine SW.tknil ?_
 refine SA.take 5 hRB rfl (by kernel_rfl) (by kernel_rfl) rfl ?_
 repeat ((refine SW.st (st_sliceLo (k:=i+1) rfl rfl (by omega) (by omega)) rfl ?_))
 refine SW.tknil ?_
 refine SA.done (by kernel_rfl) ?_
 refine SW.appendIn (hO.pre (i:=i) (by omega)) (hO.sl.drop (i+1) c (by omega) (by omega)) (by omega) rfl rfl rfl fun w2 hO2 hg => ?_
 rw [e0,el] at hO2
 rw [e0]
 have hG1:=(hw.gr (ownB A c))
 repeat' (first|(first|refine CW.seq ?_|refine CW.region ?_)|(first|refine Post.seq ?_|refine Post.np ?_)|refine SW.nil ?_|refine SW.pure rfl rfl ?_|(show SW _ _ _ _ (⟨_,Op.call ⟨.builtin .len,_,_⟩,_,_,_,none⟩::_) _ _;refine SW.st (st_len rfl) rfl ?_)|(refine SW.st (st_sliceLH (i:=n-1) (j:=n) rfl rfl rfl (by omega) (by omega)) rfl ?_))
 obtain ⟨g,rest,rfl,h1,h2,h3,h4,h5,h6⟩:=hO2.opened (by omega)
 have hfl:((l.eraseIdx i).flatMap encSb).length=(n-1)*3:=by rw [length_flatMap_enc,hO2.len]
 refine SW.clear ((n-1)*3) h2 rfl (by rw [List.length_append,hfl];omega) (fun h0 => ?_) (by decide) fun w3 cs hcs hB hg3 => ?_
 ·rw [if_neg (by omega)];simp [addr_of]
 ·have e7:=lay_mid ((l.eraseIdx i).flatMap encSb) (rest.take ((n-(n-1))*3)) (rest.drop ((n-(n-1))*3)) cs (by rw [hcs];simp;omega) (o:=(n-1)*3) hfl.symm
  rw [List.append_assoc (List.flatMap _ _),List.take_append_drop] at e7
  rw [e7,List.append_assoc] at hB
  have hO3:=Own.closed (l:=l.eraseIdx i) hO2.len hB (by rw [List.length_append,hcs];simp;omega) h4 (by omega) h5 h1
  rw [← h6] at hg3
  have hgg:=grown_trans (grown_trans hG1 hg (.inl rfl)) hg3 (.inl rfl)
  repeat' (first|(first|refine CW.seq ?_|refine CW.region ?_|refine CW.ret ?_)|(refine Post.seq ?_)|refine SW.nil ?_|refine SW.pure rfl rfl ?_)
  exact Post.ret1 rfl rfl ⟨_,rfl,rfl,hO3,hgg⟩
end Go.Proofs.YtigikedbffjeiaaGreat
