/-
  Texts of the claim PagesAllocs, part 24: what its theorem leans on.
-/
import Derived.Test.YtfommgdbahemfaaDoorPackPagesAllocs17
import Derived.Test.YtfommgdbahemfaaDoorPackPagesAllocs22
import Derived.Test.YtfommgdbahemfaaDoorPackPagesAllocs18
import Derived.Test.YtfommgdbahemfaaDoorPackPagesAllocs13
import Derived.Test.YtfommgdbahemfaaDoorPackPagesAllocs23
set_option linter.unusedVariables false
set_option linter.unusedSimpArgs false
namespace Go.Proofs.YtfommgdbahemfaaDoor
open Go.RowKit
theorem back3_ans (k : HK) (p : HP) (s : Zone × Zone) (L : List PList) (bs : List Block) (b : Block) (wb w : World) (H : HS wb w k p s L) (hD : DInv s bs) (hN : NextB bs b) :
  AnsX Tryd.prog 92 [.pointer (some ⟨k.b, 0, none⟩), .int .i64 b.At, .int .i64 b.Order] w fun v w' => ∃ p', p'.li = p.li ∧ p'.ls = p.ls ∧ HS wb w' k p' (backP s b) L ∧ KpH w k p w' p' := by
 refine ansx_of Tryd.func92 rfl Tryd.ntmps92 rfl ?_
 have hw := Ext.refl w
 have H0 := H
 have eT := H.zs.z0.to_
 obtain ⟨q1, q2, q3, q4⟩ := may_fit H.zs.z0 hD.may0
 obtain ⟨p1, p2, p3, p4⟩ := may_fit H.zs.z1 hD.may1
 have hA := H.zs.row.sl.base
 have cz : ∀ w', Sl w' 4 encZ (some ⟨k.g, 0, none⟩) 2 [p.u0, p.u1] → Ans Tryd.prog 120 [.agg (encH (k.h p)).toArray, .int .i64 b.At] w' fun v _ => v = .int .i64 (if b.At < p.u0.To then 0 else 1) := fun w' h => zone2_ans (k.h p) p.u0 p.u1 b.At w' h
 by_cases hx : b.At < p.u0.To
 ·have eP : backP s b = zset s ((0 : Nat) : Int) (backV s.1 b.At b.Order).2 := by unfold backP; rw [if_pos (by omega)]; simp [zset]
  simp only [if_pos hx] at cz
  have k0 : 0 < 2 := by omega
  repeat' (first | (show CW _ _ _ _ _ _; first | refine CW.seq ?_ | refine CW.region ?_) | (show Post _ _ _ _ _; refine Post.seq ?_) | refine SW.nil ?_ | refine SW.pure rfl rfl ?_ | (show SW _ _ _ _ (⟨_, Op.nilCheck _, _, _, _, none⟩ :: _) _ _; refine SW.st (st_nilCheck rfl) rfl ?_) | (show SW _ _ _ _ (⟨_, Op.load _ _, _, _, _, none⟩ :: _) _ _; refine SW.st (st_loads rfl rfl ((fun _ _ => H.blk.cell))) rfl ?_) | (show SW _ _ _ _ (⟨_, Op.call ⟨.value (.func _), _, _⟩, _, _, _, none⟩ :: _) _ _; (refine SW.call rfl rfl (cz _ H.zs.row.sl) ?_; intro v w1 hw1 hv; subst hv; replace hw := Ext.trans hw hw1; replace H := H.ext hw1; clear hw1)))
  refine CW.anyF 19 19 (fun _ => True) mixed (by kernel_rfl) fun w1 hw1 hRB => ?_
  replace hw := Ext.trans hw hw1; replace H := H.ext hw1; clear hw1
  refine SF.take 0 [] [] hRB rfl (by kernel_rfl) (by kernel_rfl) (by kernel_rfl) ?_
  repeat (refine SW.pure rfl rfl ?_)
  refine SW.tknil ?_
  refine SF.take 1 [] [] hRB rfl (by kernel_rfl) (by kernel_rfl) (by kernel_rfl) ?_
  repeat ((show SW _ _ _ _ (⟨_, Op.nilCheck _, _, _, _, none⟩ :: _) _ _; refine SW.st (st_nilCheck rfl) rfl ?_))
  refine SW.tknil ?_
  refine SF.take 2 [] [] hRB rfl (by kernel_rfl) (by kernel_rfl) (by kernel_rfl) ?_
  repeat ((show SW _ _ _ _ (⟨_, Op.fieldAddr _ _ _, _, _, _, none⟩ :: _) _ _; refine SW.st (st_field rfl) rfl ?_))
  refine SW.tknil ?_
  refine SF.take 3 [] [] hRB rfl (by kernel_rfl) (by kernel_rfl) (by kernel_rfl) ?_
  repeat ((show SW _ _ _ _ (⟨_, Op.load _ _, _, _, _, none⟩ :: _) _ _; refine SW.st (st_load rfl (H.blk.cell rfl)) rfl ?_))
  refine SW.tknil ?_
  refine SF.take 4 [] [] hRB rfl (by kernel_rfl) (by kernel_rfl) (by kernel_rfl) ?_
  repeat (refine SW.pure rfl rfl ?_)
  refine SW.tknil ?_
  refine SF.take 5 [] [] hRB rfl (by kernel_rfl) (by kernel_rfl) (by kernel_rfl) ?_
  repeat (refine SW.pure rfl rfl ?_)
  refine SW.tknil ?_
  refine SF.take 6 [] [] hRB rfl (by kernel_rfl) (by kernel_rfl) (by kernel_rfl) ?_
  repeat ((show SW _ _ _ _ (⟨_, Op.nilCheck _, _, _, _, none⟩ :: _) _ _; refine SW.st (st_nilCheck rfl) rfl ?_))
  refine SW.tknil ?_
  refine SF.take 7 [] [] hRB rfl (by kernel_rfl) (by kernel_rfl) (by kernel_rfl) ?_
  repeat ((show SW _ _ _ _ (⟨_, Op.fieldAddr _ _ _, _, _, _, none⟩ :: _) _ _; refine SW.st (st_field rfl) rfl ?_))
  refine SW.tknil ?_
  refine SF.take 8 [] [] hRB rfl (by kernel_rfl) (by kernel_rfl) (by kernel_rfl) ?_
  repeat ((show SW _ _ _ _ (⟨_, Op.load _ _, _, _, _, none⟩ :: _) _ _; refine SW.st (st_load rfl (H.blk.cell rfl)) rfl ?_))
  refine SW.tknil ?_
  refine SF.take 9 [] [] hRB rfl (by kernel_rfl) (by kernel_rfl) (by kernel_rfl) ?_
  repeat (refine SW.pure rfl rfl ?_)
  refine SW.tknil ?_
  refine SF.take 10 [] [] hRB rfl (by kernel_rfl) (by kernel_rfl) (by kernel_rfl) ?_
  repeat ((show SW _ _ _ _ (⟨_, Op.indexAddr _ _ _, _, _, _, none⟩ :: _) _ _; refine SW.st (st_indexN rfl rfl (by assumption) (by omega)) rfl ?_))
  refine SW.tknil ?_
  refine SF.take 11 [] [] hRB rfl (by kernel_rfl) (by kernel_rfl) (by kernel_rfl) ?_
  repeat ((show SW _ _ _ _ (⟨_, Op.load _ _, _, _, _, none⟩ :: _) _ _; refine SW.st (st_loads rfl rfl ((H.zs.row.sl.all k0))) rfl ?_))
  refine SW.tknil ?_
  refine SF.take 12 [] [] hRB rfl (by kernel_rfl) (by kernel_rfl) (by kernel_rfl) ?_
  repeat (refine SW.pure rfl rfl ?_)
  refine SW.tknil ?_
  refine SF.take 13 [] [] hRB rfl (by kernel_rfl) (by kernel_rfl) (by kernel_rfl) ?_
  repeat (refine SW.pure rfl rfl ?_)
  refine SW.tknil ?_
  refine SF.one 14 rfl (by kernel_rfl) rfl ?_
  refine SW.call rfl rfl (Zback_ans p.u0 s.1 b.At b.Order _ H.zs.z0.rd q1 q2 ⟨by omega, by omega⟩ ⟨by omega, by omega⟩) fun v w4 hXX hv => ?_
  obtain ⟨u', rfl, hs'⟩ := hv
  replace hs' := hs'.low hw.size
  (replace hw := Ext.trans hw hXX; replace H := H.ext hXX)
  refine SW.nil (Post.sf hXX ?_)
  refine SF.take 15 [] [] hRB rfl (by kernel_rfl) (by kernel_rfl) (by kernel_rfl) ?_
  repeat (refine SW.pure rfl rfl ?_)
  refine SW.tknil ?_
  refine SF.take 16 [] [] hRB rfl (by kernel_rfl) (by kernel_rfl) (by kernel_rfl) ?_
  repeat (refine SW.pure rfl rfl ?_)
  refine SW.tknil ?_
  refine SF.takeX 17 hRB rfl (by kernel_rfl) (by kernel_rfl) rfl (fun _ => pureV_st rfl) rfl ?_
  refine SF.take 18 [] [] hRB rfl (by kernel_rfl) (by kernel_rfl) (by kernel_rfl) ?_
  repeat ((show SW _ _ _ _ (⟨_, Op.indexAddr _ _ _, _, _, _, none⟩ :: _) _ _; refine SW.st (st_indexN rfl rfl (by assumption) (by omega)) rfl ?_))
  refine SW.tknil ?_
  refine SF.last rfl (by kernel_rfl) (by kernel_rfl) ?_
  refine SW.storeElem (enc := encZ) 0 u' H.zs.row rfl rfl k0 fun w5 hO5 hg => ?_
  rw [H.zs.own] at hg
  have H5 := HS.setZ H0 H k0 hO5 hg hs'
  have hK : KpH w k p w5 (putU p 0 u') := ((KpH.refl w k p).ext hw).step hg (fun i e => by cases e; exact .inl (.inr (.inl rfl))) (fun i e => .inl (mine_putU.1 e))
  repeat' (first | (show Post _ _ _ _ _; refine Post.np ?_) | refine SW.nil ?_)
  exact Post.end0 rfl ⟨_, rfl, putU p 0 u', putU_li.1, putU_li.2, by rw [eP]; exact H5, hK⟩
 ·have eP : backP s b = zset s ((1 : Nat) : Int) (backV s.2 b.At b.Order).2 := by unfold backP; rw [if_neg (by omega)]; simp [zset]
  simp only [if_neg hx] at cz
  have k0 : 1 < 2 := by omega
  repeat' (first | (show CW _ _ _ _ _ _; first | refine CW.seq ?_ | refine CW.region ?_) | (show Post _ _ _ _ _; refine Post.seq ?_) | refine SW.nil ?_ | refine SW.pure rfl rfl ?_ | (show SW _ _ _ _ (⟨_, Op.nilCheck _, _, _, _, none⟩ :: _) _ _; refine SW.st (st_nilCheck rfl) rfl ?_) | (show SW _ _ _ _ (⟨_, Op.load _ _, _, _, _, none⟩ :: _) _ _; refine SW.st (st_loads rfl rfl ((fun _ _ => H.blk.cell))) rfl ?_) | (show SW _ _ _ _ (⟨_, Op.call ⟨.value (.func _), _, _⟩, _, _, _, none⟩ :: _) _ _; (refine SW.call rfl rfl (cz _ H.zs.row.sl) ?_; intro v w1 hw1 hv; subst hv; replace hw := Ext.trans hw hw1; replace H := H.ext hw1; clear hw1)))
  refine CW.anyF 19 19 (fun _ => True) mixed (by kernel_rfl) fun w1 hw1 hRB => ?_
  replace hw := Ext.trans hw hw1; replace H := H.ext hw1; clear hw1
  refine SF.take 0 [] [] hRB rfl (by kernel_rfl) (by kernel_rfl) (by kernel_rfl) ?_
  repeat (refine SW.pure rfl rfl ?_)
  refine SW.tknil ?_
  refine SF.take 1 [] [] hRB rfl (by kernel_rfl) (by kernel_rfl) (by kernel_rfl) ?_
  repeat ((show SW _ _ _ _ (⟨_, Op.nilCheck _, _, _, _, none⟩ :: _) _ _; refine SW.st (st_nilCheck rfl) rfl ?_))
  refine SW.tknil ?_
  refine SF.take 2 [] [] hRB rfl (by kernel_rfl) (by kernel_rfl) (by kernel_rfl) ?_
  repeat ((show SW _ _ _ _ (⟨_, Op.fieldAddr _ _ _, _, _, _, none⟩ :: _) _ _; refine SW.st (st_field rfl) rfl ?_))
  refine SW.tknil ?_
  refine SF.take 3 [] [] hRB rfl (by kernel_rfl) (by kernel_rfl) (by kernel_rfl) ?_
  repeat ((show SW _ _ _ _ (⟨_, Op.load _ _, _, _, _, none⟩ :: _) _ _; refine SW.st (st_load rfl (H.blk.cell rfl)) rfl ?_))
  refine SW.tknil ?_
  refine SF.take 4 [] [] hRB rfl (by kernel_rfl) (by kernel_rfl) (by kernel_rfl) ?_
  repeat (refine SW.pure rfl rfl ?_)
  refine SW.tknil ?_
  refine SF.take 5 [] [] hRB rfl (by kernel_rfl) (by kernel_rfl) (by kernel_rfl) ?_
  repeat (refine SW.pure rfl rfl ?_)
  refine SW.tknil ?_
  refine SF.take 6 [] [] hRB rfl (by kernel_rfl) (by kernel_rfl) (by kernel_rfl) ?_
  repeat ((show SW _ _ _ _ (⟨_, Op.nilCheck _, _, _, _, none⟩ :: _) _ _; refine SW.st (st_nilCheck rfl) rfl ?_))
  refine SW.tknil ?_
  refine SF.take 7 [] [] hRB rfl (by kernel_rfl) (by kernel_rfl) (by kernel_rfl) ?_
  repeat ((show SW _ _ _ _ (⟨_, Op.fieldAddr _ _ _, _, _, _, none⟩ :: _) _ _; refine SW.st (st_field rfl) rfl ?_))
  refine SW.tknil ?_
  refine SF.take 8 [] [] hRB rfl (by kernel_rfl) (by kernel_rfl) (by kernel_rfl) ?_
  repeat ((show SW _ _ _ _ (⟨_, Op.load _ _, _, _, _, none⟩ :: _) _ _; refine SW.st (st_load rfl (H.blk.cell rfl)) rfl ?_))
  refine SW.tknil ?_
  refine SF.take 9 [] [] hRB rfl (by kernel_rfl) (by kernel_rfl) (by kernel_rfl) ?_
  repeat (refine SW.pure rfl rfl ?_)
  refine SW.tknil ?_
  refine SF.take 10 [] [] hRB rfl (by kernel_rfl) (by kernel_rfl) (by kernel_rfl) ?_
  repeat ((show SW _ _ _ _ (⟨_, Op.indexAddr _ _ _, _, _, _, none⟩ :: _) _ _; refine SW.st (st_indexN rfl rfl (by assumption) (by omega)) rfl ?_))
  refine SW.tknil ?_
  refine SF.take 11 [] [] hRB rfl (by kernel_rfl) (by kernel_rfl) (by kernel_rfl) ?_
  repeat ((show SW _ _ _ _ (⟨_, Op.load _ _, _, _, _, none⟩ :: _) _ _; refine SW.st (st_loads rfl rfl ((H.zs.row.sl.all k0))) rfl ?_))
  refine SW.tknil ?_
  refine SF.take 12 [] [] hRB rfl (by kernel_rfl) (by kernel_rfl) (by kernel_rfl) ?_
  repeat (refine SW.pure rfl rfl ?_)
  refine SW.tknil ?_
  refine SF.take 13 [] [] hRB rfl (by kernel_rfl) (by kernel_rfl) (by kernel_rfl) ?_
  repeat (refine SW.pure rfl rfl ?_)
  refine SW.tknil ?_
  refine SF.one 14 rfl (by kernel_rfl) rfl ?_
  refine SW.call rfl rfl (Zback_ans p.u1 s.2 b.At b.Order _ H.zs.z1.rd p1 p2 ⟨by omega, by omega⟩ ⟨by omega, by omega⟩) fun v w4 hXX hv => ?_
  obtain ⟨u', rfl, hs'⟩ := hv
  replace hs' := hs'.low hw.size
  (replace hw := Ext.trans hw hXX; replace H := H.ext hXX)
  refine SW.nil (Post.sf hXX ?_)
  refine SF.take 15 [] [] hRB rfl (by kernel_rfl) (by kernel_rfl) (by kernel_rfl) ?_
  repeat (refine SW.pure rfl rfl ?_)
  refine SW.tknil ?_
  refine SF.take 16 [] [] hRB rfl (by kernel_rfl) (by kernel_rfl) (by kernel_rfl) ?_
  repeat (refine SW.pure rfl rfl ?_)
  refine SW.tknil ?_
  refine SF.takeX 17 hRB rfl (by kernel_rfl) (by kernel_rfl) rfl (fun _ => pureV_st rfl) rfl ?_
  refine SF.take 18 [] [] hRB rfl (by kernel_rfl) (by kernel_rfl) (by kernel_rfl) ?_
  repeat ((show SW _ _ _ _ (⟨_, Op.indexAddr _ _ _, _, _, _, none⟩ :: _) _ _; refine SW.st (st_indexN rfl rfl (by assumption) (by omega)) rfl ?_))
  refine SW.tknil ?_
  refine SF.last rfl (by kernel_rfl) (by kernel_rfl) ?_
  refine SW.storeElem (enc := encZ) 1 u' H.zs.row rfl rfl k0 fun w5 hO5 hg => ?_
  rw [H.zs.own] at hg
  have H5 := HS.setZ H0 H k0 hO5 hg hs'
  have hK : KpH w k p w5 (putU p 1 u') := ((KpH.refl w k p).ext hw).step hg (fun i e => by cases e; exact .inl (.inr (.inl rfl))) (fun i e => .inl (mine_putU.1 e))
  repeat' (first | (show Post _ _ _ _ _; refine Post.np ?_) | refine SW.nil ?_)
  exact Post.end0 rfl ⟨_, rfl, putU p 1 u', putU_li.1, putU_li.2, by rw [eP]; exact H5, hK⟩
theorem HS.drop {wb w w' : World} {k : HK} {p : HP} {s : Zone × Zone} {L : List PList} (h : HS wb w k p s L) (hb : Blk w' k.b 35 (encH (k.h ⟨p.u0, p.u1, .nil, []⟩))) (hg : w.grownBy w' (some k.b)) : HS wb w' k ⟨p.u0, p.u1, .nil, []⟩ s [] := by
 have hG := h.blk.gr hg
 exact ⟨hb, h.zs.grT hG rfl, h.mins.grT hG rfl, h.live.grT hG rfl, OwnLs.nil _ _, SepM.nil _ _, h.sf, h.blo, h.base.own h.blo hg⟩
theorem mine_drop {k : HK} {p : HP} {i : Nat} (h : Mine k ⟨p.u0, p.u1, .nil, []⟩ i) : Mine k p i := by
 rcases h with h | h | h | ⟨z, hz, h⟩
 ·exact .inl h
 ·exact .inr (.inl h)
 ·cases h
 ·simp at hz
set_option maxHeartbeats 2000000 in
theorem drain3_ans (k : HK) (p : HP) (h : Heap) (z0 z1 : Zone) (hd : DHeap h z0 z1) (hs : h.small) (wb w : World) (H : HS wb w k p (z0, z1) h.Lists) :
  AnsX Tryd.prog 46 [.pointer (some ⟨k.b, 0, none⟩)] w fun v w' => ∃ p', HS wb w' k p' (backAll (z0, z1) (pagesB h.Lists)) [] ∧ KpH w k p w' p' := by
 refine ansx_of Tryd.func46 rfl Tryd.ntmps46 rfl ?_
 have hw := Ext.refl w
 have hll := H.ls.rd.len
 have s4 := hs.lists
 have hA0 := H.ls.row.sl.base
 repeat' (first | (show CW _ _ _ _ _ _; first | refine CW.seq ?_ | refine CW.region ?_ | refine CW.block ?_) | (show Post _ _ _ _ _; refine Post.seq ?_) | refine SW.nil ?_ | refine SW.pure rfl rfl ?_ | (show SW _ _ _ _ (⟨_, Op.fieldAddr _ _ _, _, _, _, none⟩ :: _) _ _; refine SW.st (st_field rfl) rfl ?_) | (show SW _ _ _ _ (⟨_, Op.nilCheck _, _, _, _, none⟩ :: _) _ _; refine SW.st (st_nilCheck rfl) rfl ?_) | (show SW _ _ _ _ (⟨_, Op.call ⟨.builtin .len, _, _⟩, _, _, _, none⟩ :: _) _ _; refine SW.st (st_len rfl) rfl ?_) | (show SW _ _ _ _ (⟨_, Op.load _ _, _, _, _, none⟩ :: _) _ _; refine SW.st (st_load rfl (H.blk.cell rfl)) rfl ?_))
 refine CW.loop (fun t : Nat × HP => [(0, .pointer (some ⟨k.b, 0, none⟩)), (9, .slice p.li.A p.li.n p.li.c), (10, .int .i64 (p.li.n : Int)), (11, .int .i64 (t.1 : Int))])
  (fun t w' => t.1 ≤ p.li.n ∧ t.2.li = p.li ∧ t.2.ls = p.ls ∧ HS wb w' k t.2 (backTo h z0 z1 (cntB h.Lists t.1)) h.Lists ∧ KpH w k p w' t.2) (fun t => p.li.n - t.1) (0, p)
  ⟨rfl, rfl, rfl, rfl, trivial⟩ ⟨by omega, rfl, rfl, by simpa [backTo, cntB, pagesB, backAll] using H, KpH.refl _ _ _⟩ ?_
 clear hw H hA0
 rintro ⟨i, p1⟩ w ⟨hi, e1, e2, H, K0⟩
 simp only at hi e1 e2 H K0 ⊢
 have hw := Ext.refl w
 have hrow : Sl w 4 encL p.li.A p.li.n p.ls := by have := H.ls.row.sl; rwa [e1, e2] at this
 have hA := hrow.base
 by_cases hin : i < p.li.n
 ·have hil : i < h.Lists.length := by omega
  have hils : i < p.ls.length := by omega
  have hpl : h.Lists[i].Pages.length = (p.ls[i]'hils).Pages.n := by
   have := (H.ls.each.get i (by rw [e2]; exact hils) hil).pages.len
   simpa only [e2] using this
  have hsp := hs.pages _ (List.getElem_mem hil)
  obtain ⟨y, hy⟩ : ∃ y, p.ls[i]'hils = y := ⟨_, rfl⟩
  have hrow2 := hrow.all hin
  rw [hy] at hrow2 hpl
  repeat' (first | (show CW _ _ _ _ _ _; first | refine CW.seq ?_ | refine CW.region ?_ | refine CW.block ?_ | refine CW.condd_t rfl (by omega) ?_ | refine CW.skip ?_) | (show Post _ _ _ _ _; refine Post.seq ?_) | refine SW.nil ?_ | refine SW.pure rfl rfl ?_ | (show SW _ _ _ _ (⟨_, Op.indexAddr _ _ _, _, _, _, none⟩ :: _) _ _; refine SW.st (st_indexN rfl rfl (by assumption) (by omega)) rfl ?_) | (show SW _ _ _ _ (⟨_, Op.load _ _, _, _, _, none⟩ :: _) _ _; refine SW.st (st_loads rfl rfl hrow2) rfl ?_))
  refine SW.alloc rfl fun b3 w1 hw1 hb3b hb3 => ?_
  skip
  refine SW.storeAgg hb3 rfl rfl rfl rfl (Enc.one (enc := encL) _) fun w2 hb3' hg => ?_
  have hXX := hw1.own hb3b hg
  have hb3w : w.heap.size ≤ b3 := Nat.le_trans hw.size hb3b
  replace hw := Ext.trans hw hXX
  replace H := H.ext hXX
  replace K0 := K0.ext hXX
  replace hb3 := hb3'
  clear hb3' hw1 hg hXX
  have hPg : ∀ (w' : World) (q : HP) (s : Zone × Zone), q.ls = p.ls → HS wb w' k q s h.Lists → Own w' wb.heap.size 3 1 encI y.Pages.A y.Pages.n y.Pages.c h.Lists[i].Pages := fun w' q s eq hh => by
   have := (hh.ls.each.get i (by rw [eq]; exact hils) hil).pages
   simpa only [eq, hy] using this
  have hP := hPg _ p1 _ e2 H
  have hpA := hP.sl.base
  repeat' (first | (show CW _ _ _ _ _ _; first | refine CW.seq ?_ | refine CW.region ?_ | refine CW.block ?_) | (show Post _ _ _ _ _; refine Post.seq ?_) | refine SW.nil ?_ | refine SW.pure rfl rfl ?_ | (show SW _ _ _ _ (⟨_, Op.fieldAddr _ _ _, _, _, _, none⟩ :: _) _ _; refine SW.st (st_field rfl) rfl ?_) | (show SW _ _ _ _ (⟨_, Op.call ⟨.builtin .len, _, _⟩, _, _, _, none⟩ :: _) _ _; refine SW.st (st_len rfl) rfl ?_) | (show SW _ _ _ _ (⟨_, Op.load _ _, _, _, _, none⟩ :: _) _ _; refine SW.st (st_load rfl (hb3.cell rfl)) rfl ?_))
  refine CW.loop (fun t : Nat × HP => [(0, .pointer (some ⟨k.b, 0, none⟩)), (9, .slice p.li.A p.li.n p.li.c), (10, .int .i64 (p.li.n : Int)), (11, .int .i64 (i : Int)), (16, .slice y.Pages.A y.Pages.n y.Pages.c), (17, .int .i64 (y.Pages.n : Int)), (18, .int .i64 (t.1 : Int))])
   (fun t w' => t.1 ≤ y.Pages.n ∧ t.2.li = p.li ∧ t.2.ls = p.ls ∧ HS wb w' k t.2 (backTo h z0 z1 (cntB h.Lists i + t.1)) h.Lists ∧ KpH _ k p w' t.2) (fun t => y.Pages.n - t.1) (0, p1)
   ⟨rfl, rfl, rfl, rfl, rfl, rfl, rfl, trivial⟩ ⟨by omega, e1, e2, H, K0⟩ ?_
  clear hw H K0 hb3 hP hpA hrow hrow2 hb3b hb3w e1 e2 p1
  rintro ⟨j, p1⟩ w' ⟨hj, e1, e2, H, K0⟩
  simp only at hj e1 e2 H K0 ⊢
  have hw := Ext.refl w'
  have hP := hPg _ p1 _ e2 H
  have hpA := hP.sl.base
  by_cases hjn : j < y.Pages.n
  ·have hjl : j < h.Lists[i].Pages.length := by omega
   obtain ⟨hK, hKe⟩ := cnt_get hil hjl
   have hN := hd.next hK
   have hD := hd.inv (cntB h.Lists i + j) (by omega)
   have hT := backAll_take (z0, z1) (pagesB h.Lists) _ hK
   rw [hKe] at hN hT
   have hT' : backTo h z0 z1 (cntB h.Lists i + (j + 1)) = backP (backTo h z0 z1 (cntB h.Lists i + j)) (pageB h.Lists[i].Pages[j]) := hT
   repeat' (first | (show CW _ _ _ _ _ _; first | refine CW.seq ?_ | refine CW.region ?_ | refine CW.block ?_ | refine CW.condd_t rfl (by omega) ?_ | refine CW.skip ?_) | (show Post _ _ _ _ _; refine Post.seq ?_) | refine SW.nil ?_ | refine SW.pure rfl rfl ?_ | (show SW _ _ _ _ (⟨_, Op.indexAddr _ _ _, _, _, _, none⟩ :: _) _ _; refine SW.st (st_indexN rfl rfl (by assumption) (by omega)) rfl ?_) | (show SW _ _ _ _ (⟨_, Op.load _ _, _, _, _, none⟩ :: _) _ _; refine SW.st (st_load rfl (hP.sl.one hjn rfl)) rfl ?_))
   refine SW.callX rfl rfl (back3_ans k p1 _ h.Lists _ (pageB h.Lists[i].Pages[j]) wb _ H hD hN) fun v w5 hv => ?_
   obtain ⟨p2, e3, e4, H5, K5⟩ := hv
   repeat' (first | (show CW _ _ _ _ _ _; refine CW.region ?_) | (show Post _ _ _ _ _; first | refine Post.seq ?_ | refine Post.blk ?_) | refine SW.nil ?_ | refine SW.pure rfl rfl ?_ | (show SW _ _ _ _ (⟨_, Op.binOp _ _ _ _ _, _, _, _, none⟩ :: _) _ _; refine SW.st (st_add rfl rfl (by omega) (by omega)) rfl ?_))
   refine Post.again (j + 1, p2) ⟨rfl, rfl, rfl, rfl, rfl, rfl, rfl, trivial⟩ (by simp only; omega) ⟨by simp only; omega, e3.trans e1, e4.trans e2, ?_, K0.trans K5⟩
   simp only
   rw [hT']
   exact H5
  ·have ej : cntB h.Lists i + j = cntB h.Lists (i + 1) := by rw [cnt_succ hil]; omega
   rw [ej] at H
   repeat' (first | (show CW _ _ _ _ _ _; first | refine CW.seq ?_ | refine CW.region ?_ | refine CW.condd_f rfl (by omega) ?_ | refine CW.exit ?_) | (show Post _ _ _ _ _; first | refine Post.seq ?_ | refine Post.seq_exit ?_ | refine Post.hit ?_ | refine Post.blk ?_ | refine Post.again_exit ?_) | refine SW.nil ?_ | refine SW.pure rfl rfl ?_ | (show SW _ _ _ _ (⟨_, Op.binOp _ _ _ _ _, _, _, _, none⟩ :: _) _ _; refine SW.st (st_add rfl rfl (by omega) (by omega)) rfl ?_))
   exact Post.again (i + 1, p1) ⟨rfl, rfl, rfl, rfl, trivial⟩ (by simp only; omega) ⟨by simp only; omega, e1, e2, H, K0⟩
 ·have ei : i = h.Lists.length := by omega
  have eall : backTo h z0 z1 (cntB h.Lists i) = backAll (z0, z1) (pagesB h.Lists) := by
   rw [ei, cnt_all, backTo, List.take_of_length_le (Nat.le_refl _)]
  rw [eall] at H
  repeat' (first | (show CW _ _ _ _ _ _; first | refine CW.seq ?_ | refine CW.region ?_ | refine CW.condd_f rfl (by omega) ?_ | refine CW.exit ?_) | (show Post _ _ _ _ _; first | refine Post.seq ?_ | refine Post.seq_exit ?_ | refine Post.hit ?_ | refine Post.again_exit ?_) | refine SW.nil ?_ | refine SW.pure rfl rfl ?_ | (show SW _ _ _ _ (⟨_, Op.fieldAddr _ _ _, _, _, _, none⟩ :: _) _ _; refine SW.st (st_field rfl) rfl ?_) | (show SW _ _ _ _ (⟨_, Op.nilCheck _, _, _, _, none⟩ :: _) _ _; refine SW.st (st_nilCheck rfl) rfl ?_))
  refine SW.storeB (i := 3) H.blk rfl rfl rfl rfl fun w6 hb1' hg => ?_
  have H6 := H.drop hb1' hg
  have K6 := K0.step hg (fun i e => by cases e; exact .inl (.inl rfl)) (fun i e => .inl (mine_drop e))
  repeat' (refine SW.nil ?_)
  exact Post.end0 rfl ⟨_, rfl, _, H6, K6⟩
end Go.Proofs.YtfommgdbahemfaaDoor
set_option linter.unusedVariables false
namespace Go.Proofs.YtfommgdbahemfaaDoor
theorem FHeap.live_ne {h : Heap} {z0 z1 : Zone} (f : FHeap h z0 z1) {a : Int} {i : Nat} (ha : a = (i : Int)) (hc : covP (z0.Free ++ z1.Free ++ pagesB h.Lists) i = true) : ∀ b ∈ h.Live, b.At ≠ a := fun b hb e => by
 obtain ⟨l, m, e1⟩ := List.append_of_mem hb
 have hall := f.all
 rw [e1, ← List.append_assoc] at hall
 have hf := addAll_fitsL hall
 obtain ⟨j, hj, rfl⟩ := List.getElem_of_mem hb
 have hj1 := (f.live.each j hj).1
 have hp := pw_le hj1.1 hj1.2
 obtain ⟨_, _, ho⟩ := hf
 unfold covP at hc
 rw [List.any_eq_true] at hc
 obtain ⟨y, hy, hy2⟩ := hc
 unfold inB at hy2
 rw [Bool.and_eq_true, decide_eq_true_eq, decide_eq_true_eq] at hy2
 have : overB (z0.Free ++ z1.Free ++ pagesB h.Lists ++ l) h.Live[j].At h.Live[j].Order = true := by
  unfold overB
  rw [List.any_eq_true]
  refine ⟨y, List.mem_append_left _ hy, ?_⟩
  rw [Bool.and_eq_true, decide_eq_true_eq, decide_eq_true_eq]
  omega
 rw [ho] at this
 cases this
theorem zone_cov {z : Zone} (hz : ZoneMay z) {x : Block} (hx : x ∈ z.Free) : ∃ i : Nat, x.At = (i : Int) ∧ i < 256 ∧ covP z.Free i = true := by
 obtain ⟨j, hj, rfl⟩ := List.getElem_of_mem hx
 have h1 := (hz.blk j hj).1
 have h2 := hz.ok
 obtain ⟨o1, o2, o3, o4, o5⟩ := h2
 have hp := pw_le h1.1 h1.2.1
 obtain ⟨b1, b2, b3, b4, b5⟩ := h1
 refine ⟨z.Free[j].At.toNat, by omega, by omega, ?_⟩
 unfold covP
 rw [List.any_eq_true]
 refine ⟨_, hx, ?_⟩
 unfold inB
 rw [Bool.and_eq_true, decide_eq_true_eq, decide_eq_true_eq]
 omega
theorem free_once {h : Heap} {z0 z1 : Zone} (f : FHeap h z0 z1) {a : Int} (ha : freeAt (z0, z1) h.Lists a) : ∃ i : Nat, a = (i : Int) ∧ i < 256 ∧ covP (z0.Free ++ z1.Free ++ pagesB h.Lists) i = true := by
 rcases ha with ⟨x, hx, rfl⟩ | ⟨x, hx, rfl⟩ | ⟨l, hl, hp⟩
 ·obtain ⟨i, h1, h2, h3⟩ := zone_cov f.d.may0 hx
  exact ⟨i, h1, h2, by rw [covP_append, covP_append, h3]; rfl⟩
 ·obtain ⟨i, h1, h2, h3⟩ := zone_cov f.d.may1 hx
  exact ⟨i, h1, h2, by rw [covP_append, covP_append, h3]; simp⟩
 ·have hm : pageB a ∈ pagesB h.Lists := by
   unfold pagesB
   rw [List.mem_flatMap]
   exact ⟨l, hl, List.mem_map_of_mem hp⟩
  obtain ⟨j, hj, e⟩ := List.getElem_of_mem hm
  have hN := f.d.next hj
  rw [e] at hN
  have h1 := hN.at_
  simp only [pageB] at h1
  refine ⟨a.toNat, by omega, by omega, ?_⟩
  rw [covP_append]
  have : covP (pagesB h.Lists) a.toNat = true := by
   unfold covP
   rw [List.any_eq_true]
   refine ⟨_, hm, ?_⟩
   unfold inB
   rw [Bool.and_eq_true, decide_eq_true_eq, decide_eq_true_eq]
   have : pw 0 = 1 := by decide
   change a ≤ _ ∧ _ < a + pw 0
   omega
  rw [this]
  simp
theorem drained_inv {h : Heap} {z0 z1 : Zone} (d : DHeap h z0 z1) : DInv (backAll (z0, z1) (pagesB h.Lists)) (z0.Free ++ z1.Free ++ pagesB h.Lists) := by
 have := d.inv (pagesB h.Lists).length (Nat.le_refl _)
 rwa [List.take_length] at this
theorem free_twice {h : Heap} {z0 z1 : Zone} (f : FHeap h z0 z1) {a : Int} (ha : freeAt (backAll (z0, z1) (pagesB h.Lists)) [] a) : ∃ i : Nat, a = (i : Int) ∧ i < 256 ∧ covP (z0.Free ++ z1.Free ++ pagesB h.Lists) i = true := by
 have hD := drained_inv f.d
 rcases ha with ⟨x, hx, rfl⟩ | ⟨x, hx, rfl⟩ | ⟨l, hl, hp⟩
 ·obtain ⟨i, h1, h2, h3⟩ := zone_cov hD.may0 hx
  exact ⟨i, h1, h2, by rw [← hD.cov, h3]; rfl⟩
 ·obtain ⟨i, h1, h2, h3⟩ := zone_cov hD.may1 hx
  exact ⟨i, h1, h2, by rw [← hD.cov, h3]; simp⟩
 ·simp at hl
theorem live_len {h : Heap} {z0 z1 : Zone} (f : FHeap h z0 z1) : h.Live.length ≤ 256 := by
 have hu := live_lt f.live
 rw [List.pairwise_iff_getElem] at hu
 have key : ∀ (i : Nat) (hi : i < h.Live.length), (i : Int) ≤ h.Live[i].At := by
  intro i
  induction i with
  | zero => intro hi; have := (f.next hi).at_; exact this.1
  | succ i ih => intro hi; have h1 := ih (by omega); have h2 := hu i (i + 1) (by omega) hi (by omega); omega
 rcases Nat.lt_or_ge 256 h.Live.length with h1 | h1
 ·have h2 := key 256 h1
  have h3 := (f.next h1).at_
  omega
 ·exact h1
end Go.Proofs.YtfommgdbahemfaaDoor
set_option linter.unusedVariables false
namespace Go.Proofs.YtfommgdbahemfaaDoor
theorem All2.two {α β : Type} {R : α → β → Prop} {a b : α} {c d : β} (h1 : R a c) (h2 : R b d) : All2 R [a, b] [c, d] := All2.snoc (All2.snoc All2.nil h1) h2
end Go.Proofs.YtfommgdbahemfaaDoor
set_option linter.unusedVariables false
set_option linter.unusedSimpArgs false
namespace Go.Proofs.YtfommgdbahemfaaDoor
open Go.RowKit
theorem plive2_ans (r : HRow) (l : List Block) (a : Int) (w : World) (hl : Sl w 3 encBk r.Live.A r.Live.n l) (hu : l.Pairwise fun x y => x.At < y.At) (hb : ∀ b ∈ l, 0 ≤ b.At ∧ b.At ≤ 255) (hn : r.Live.n ≤ 1000000000000000000) (ha : 0 ≤ a ∧ a < 256) :
  Ans Tryd.prog 47 [.agg (encH r).toArray, .int .i64 a] w fun v _ => v = .tuple #[.int .i64 (lbOf l a : Int), .bool (foundA l a)] := by
 refine ans_of Tryd.func47 rfl Tryd.ntmps47 rfl ?_
 refine CW.seq (CW.region (SW.box rfl rfl fun b1 w1 hw hb1b hb1 => ?_))
 repeat' (first | (show CW _ _ _ _ _ _; first | refine CW.seq ?_ | refine CW.region ?_) | (show Post _ _ _ _ _; refine Post.seq ?_) | refine SW.nil ?_ | refine SW.pure rfl rfl ?_ | (show SW _ _ _ _ (⟨_, Op.fieldAddr _ _ _, _, _, _, none⟩ :: _) _ _; refine SW.st (st_field rfl) rfl ?_) | (show SW _ _ _ _ (⟨_, Op.load _ _, _, _, _, none⟩ :: _) _ _; refine SW.st (st_load rfl (hb1.cell (i := 4) (v := .slice r.Live.A r.Live.n r.Live.c) rfl)) rfl ?_))
 refine SW.call rfl rfl (BinaryBlock_ans _ _ _ _ a _ (hl.ext hw) _ (fun x hx w' _ => by
  have := cmpLive_ans x a w'
  have h := hb x hx
  rwa [wrap_in (by omega) (by omega)] at this) hu hn) fun v w2 hw2 hv => ?_
 subst hv
 replace hw := Ext.trans hw hw2
 repeat' (first | (show CW _ _ _ _ _ _; refine CW.ret ?_) | (show Post _ _ _ _ _; refine Post.seq ?_) | refine SW.nil ?_ | refine SW.pure rfl rfl ?_)
 exact Post.ret2 rfl rfl rfl ⟨_, rfl, hw, rfl⟩
def AllocOut (lo : Nat) (u : Heap × Int × Int) (v : Value) (w : World) : Prop := ∃ s : HRow, v = .tuple #[.agg (encH s).toArray, .int .i64 u.2.1, .int .i64 u.2.2] ∧ OwnH w lo s u.1
theorem AllocOut.zero (e : Int) (lo : Nat) (w : World) : AllocOut lo (.zero, 0, e) (.tuple #[.agg (encH .zero).toArray, .int .i64 0, .int .i64 e]) w := ⟨.zero, rfl, OwnH.zero w lo⟩
theorem HS.not_heap {wb w : World} {k : HK} {p : HP} {s : Zone × Zone} {L : List PList} {i : Nat} {cs : List Value} (h : HS wb w k p s L) (hB : Blk w i 35 cs) (hne : i ≠ k.b) : ¬ Mine k p i := fun hm => by
 rcases hm with e | e | e | ⟨y, hy, e⟩
 ·exact hne e
 ·exact h.zs.row.ne_blk hB rfl (by rw [h.zs.own, e])
 ·exact h.ls.row.ne_blk hB rfl e
 ·obtain ⟨l, _, hl⟩ := h.page hy
  exact hl.pages.ne_blk hB rfl e
theorem minOk_of {h : Heap} (hm : HeapMay h) : MinOk h.Mins (minsOf h 0) (minsOf h 1) := by
 obtain ⟨m0, m1, e, h0, h1⟩ := hm.mins
 unfold minsOf
 rw [e]
 exact ⟨rfl, h0, h1⟩
set_option maxHeartbeats 8000000 in
theorem Alloc_ans (r : HRow) (h : Heap) (cpu o f : Int) (w : World) (hr : RdH w r h) (hs : h.small) (hzn : ∀ z ∈ h.Zones, big64 z) (hO : OthW w) :
  Ans Tryd.prog 13 [.agg (encH r).toArray, .int .i64 cpu, .int .i64 o, .int .i64 f] w fun v w' => ∃ u, AllocR h cpu o f u ∧ AllocOut w.heap.size u v w' := by
 refine ans_of Tryd.func13 rfl Tryd.ntmps13 rfl ?_
 refine CW.seq (CW.region (SW.box rfl rfl fun b4 w1 hw hb4b hb4 => ?_))
 have hb4w := hb4b
 refine SW.alloc rfl fun b8 w2 hw2 hb8b hb8 => ?_
 have hb8w : w.heap.size ≤ b8 := Nat.le_trans hw.size hb8b
 have hne48 : b4 ≠ b8 := by have := hb4.lt; omega
 (replace hw := Ext.trans hw hw2; replace hb4 := hb4.ext hw2)
 have eC := hr.cpus
 obtain ⟨q, hq⟩ : ∃ q, heapB h = q := ⟨_, rfl⟩
 have c1 : ∀ w', Ext w w' → Ans Tryd.prog 42 [.agg (encH r).toArray] w' fun v _ => v = .int .i64 (if q then 0 else 8) := fun w' hx => by
  have := Pcheck_ans r h w' (hr.ext hx) hs hzn
  rwa [hq] at this
 cases q
 ·simp only [Bool.false_eq_true, if_false] at c1
  repeat' (first | (show CW _ _ _ _ _ _; first | refine CW.seq ?_ | refine CW.region ?_ | refine CW.condn_t rfl (by omega) ?_) | (show Post _ _ _ _ _; refine Post.seq ?_) | refine SW.nil ?_ | refine SW.pure rfl rfl ?_ | (show SW _ _ _ _ (⟨_, Op.build _ _, _, _, _, none⟩ :: _) _ _; refine SW.st (st_build rfl rfl) rfl ?_) | (show SW _ _ _ _ (⟨_, Op.load _ _, _, _, _, none⟩ :: _) _ _; refine SW.st (st_loads rfl rfl ((fun _ _ => hb4.cell))) rfl ?_) | (show SW _ _ _ _ (⟨_, Op.call ⟨.value (.func _), _, _⟩, _, _, _, none⟩ :: _) _ _; (refine SW.call rfl rfl (c1 _ hw) ?_; intro v w1 hw1 hv; subst hv; replace hw := Ext.trans hw hw1; replace hb4 := hb4.ext hw1; replace hb8 := hb8.ext hw1; clear hw1)))
  refine SW.storeAgg hb8 rfl rfl rfl rfl (one_h .zero) fun w5 hR2 hg => ?_
  replace hw := hw.own hb8w hg
  repeat' (first | (show CW _ _ _ _ _ _; refine CW.ret ?_) | (show Post _ _ _ _ _; first | refine Post.seq ?_ | refine Post.seq_ret ?_) | refine SW.nil ?_ | refine SW.pure rfl rfl ?_)
  exact Post.ret3c rfl rfl rfl rfl hR2 rfl ⟨_, rfl, hw, _, .bad hq, AllocOut.zero 8 _ _⟩
 ·simp only [if_true] at c1
  have hm := heapB_iff.1 hq
  obtain ⟨z0, z1, F⟩ := fheap_of hm
  by_cases hc : (0 ≤ cpu ∧ cpu < h.Cpus) ∧ 0 ≤ o ∧ o ≤ 4
  ·obtain ⟨q2, hq2⟩ : ∃ q2, decide (0 ≤ typeF f) = q2 := ⟨_, rfl⟩
   have c2 : ∀ w', Ans Tryd.prog 43 [.int .i64 f] w' fun v _ => v = .tuple #[.int .i64 (if 0 ≤ typeF f then typeF f else 0), .bool q2] := fun w' => by
    have := typeOf_ans f w'
    rwa [hq2] at this
   cases q2
   ·have ht := of_decide_eq_false hq2
    repeat' (first | (show CW _ _ _ _ _ _; first | refine CW.seq ?_ | refine CW.region ?_ | refine CW.condd_f rfl (by omega) ?_ | refine CW.condn_f rfl (by omega) ?_ | refine CW.condt rfl ?_ | refine CW.skip ?_) | (show Post _ _ _ _ _; refine Post.seq ?_) | refine SW.nil ?_ | (show SW _ _ _ _ (⟨_, _, _, _, _, some _⟩ :: _) _ _; first | refine SW.want_f rfl rfl (by with_reducible rfl) ?_ | refine SW.splitd_f rfl rfl rfl (by omega) ?_) | refine SW.pure rfl rfl ?_ | (show SW _ _ _ _ (⟨_, Op.fieldAddr _ _ _, _, _, _, none⟩ :: _) _ _; refine SW.st (st_field rfl) rfl ?_) | (show SW _ _ _ _ (⟨_, Op.build _ _, _, _, _, none⟩ :: _) _ _; refine SW.st (st_build rfl rfl) rfl ?_) | (show SW _ _ _ _ (⟨_, Op.load _ _, _, _, _, none⟩ :: _) _ _; first | refine SW.st (st_loads rfl rfl ((fun _ _ => hb4.cell))) rfl ?_ | refine SW.st (st_load rfl (hb4.cell (i := 2) (v := .int .i64 r.Cpus) rfl)) rfl ?_) | (show SW _ _ _ _ (⟨_, Op.call ⟨.value (.func _), _, _⟩, _, _, _, none⟩ :: _) _ _; first | (refine SW.call rfl rfl (c1 _ hw) ?_; intro v w1 hw1 hv; subst hv; replace hw := Ext.trans hw hw1; replace hb4 := hb4.ext hw1; replace hb8 := hb8.ext hw1; clear hw1) | (refine SW.call rfl rfl (c2 _) ?_; intro v w1 hw1 hv; subst hv; replace hw := Ext.trans hw hw1; replace hb4 := hb4.ext hw1; replace hb8 := hb8.ext hw1; clear hw1)))
    all_goals first | (exfalso; omega) | skip
    refine SW.storeAgg hb8 rfl rfl rfl rfl (one_h .zero) fun w5 hR2 hg => ?_
    replace hw := hw.own hb8w hg
    repeat' (first | (show CW _ _ _ _ _ _; refine CW.ret ?_) | (show Post _ _ _ _ _; first | refine Post.seq ?_ | refine Post.seq_ret ?_) | refine SW.nil ?_ | refine SW.pure rfl rfl ?_)
    exact Post.ret3c rfl rfl rfl rfl hR2 rfl ⟨_, rfl, hw, _, .form hq hc (by omega), AllocOut.zero 3 _ _⟩
   ·have ht := of_decide_eq_true hq2
    obtain ⟨hf, hty⟩ := typeF_ok ht
    obtain ⟨t, etf⟩ : ∃ t, typeF f = t := ⟨_, rfl⟩
    have ht' : 0 ≤ t := by rw [← etf]; exact ht
    simp only [etf, if_pos ht'] at c2
    repeat' (first | (show CW _ _ _ _ _ _; first | refine CW.seq ?_ | refine CW.region ?_ | refine CW.condd_f rfl (by omega) ?_ | refine CW.condn_f rfl (by omega) ?_ | refine CW.condf rfl ?_ | refine CW.skip ?_) | (show Post _ _ _ _ _; refine Post.seq ?_) | refine SW.nil ?_ | (show SW _ _ _ _ (⟨_, _, _, _, _, some _⟩ :: _) _ _; first | refine SW.want_f rfl rfl (by with_reducible rfl) ?_ | refine SW.splitd_f rfl rfl rfl (by omega) ?_) | refine SW.pure rfl rfl ?_ | (show SW _ _ _ _ (⟨_, Op.fieldAddr _ _ _, _, _, _, none⟩ :: _) _ _; refine SW.st (st_field rfl) rfl ?_) | (show SW _ _ _ _ (⟨_, Op.load _ _, _, _, _, none⟩ :: _) _ _; first | refine SW.st (st_loads rfl rfl ((fun _ _ => hb4.cell))) rfl ?_ | refine SW.st (st_load rfl (hb4.cell (i := 2) (v := .int .i64 r.Cpus) rfl)) rfl ?_) | (show SW _ _ _ _ (⟨_, Op.call ⟨.value (.func _), _, _⟩, _, _, _, none⟩ :: _) _ _; first | (refine SW.call rfl rfl (c1 _ hw) ?_; intro v w1 hw1 hv; subst hv; replace hw := Ext.trans hw hw1; replace hb4 := hb4.ext hw1; replace hb8 := hb8.ext hw1; clear hw1) | (refine SW.call rfl rfl (c2 _) ?_; intro v w1 hw1 hv; subst hv; replace hw := Ext.trans hw hw1; replace hb4 := hb4.ext hw1; replace hb8 := hb8.ext hw1; clear hw1)))
    all_goals first | (exfalso; omega) | skip
    clear c1 c2
    refine SW.call rfl rfl (HcopyS_ans r h _ (hr.ext hw) hs) fun v w4 hw4 hv => ?_
    obtain ⟨s, rfl, hOw⟩ := hv
    have hM := hOw.own.mins.low hw.size
    have hV := hOw.own.live.low hw.size
    have ecp := hOw.own.cpus
    obtain ⟨g, c, u0, u1, ls, eZ, hZ, hL, hSp, hSf⟩ := hOw.split F.d.zones
    have hZ : ZsOwn w4 w.heap.size g c u0 u1 (z0, z1) := ⟨hZ.row.low hw.size, hZ.z0.low hw.size, hZ.z1.low hw.size, Nat.le_trans hw.size hZ.glo, hZ.pos⟩
    replace hL := hL.low hw.size
    clear hOw
    (replace hw := Ext.trans hw hw4; replace hb4 := hb4.ext hw4; replace hb8 := hb8.ext hw4)
    obtain ⟨sz, m, cp, li, lv⟩ := s
    simp only at eZ hM hV hL hSp hSf ecp
    subst eZ
    refine SW.storeAgg hb4 rfl rfl rfl rfl (one_h ⟨⟨some ⟨g, 0, none⟩, 2, c⟩, m, cp, li, lv⟩) fun w5 hb4' hg => ?_
    have hG := hb4.gr hg
    replace hw := hw.own hb4w hg
    replace hb8 := hb8.grown hg (by simpa using Ne.symm hne48)
    (replace hZ := hZ.grT hG rfl; replace hM := hM.grT hG rfl; replace hV := hV.grT hG rfl; replace hL := hL.grT hG rfl)
    have H : HS w w5 ⟨b4, g, c, m, lv, cp, h.Mins, h.Live⟩ ⟨u0, u1, li, ls⟩ (z0, z1) h.Lists := ⟨hb4', hZ, hM, hV, hL, hSp, hSf, hb4w, hw⟩
    obtain ⟨k, hk⟩ : ∃ k : HK, k = ⟨b4, g, c, m, lv, cp, h.Mins, h.Live⟩ := ⟨_, rfl⟩
    obtain ⟨p0, hp0⟩ : ∃ p : HP, p = ⟨u0, u1, li, ls⟩ := ⟨_, rfl⟩
    rw [← hk, ← hp0] at H
    have ekb : k.b = b4 := by rw [hk]
    have ekV : k.V = h.Live := by rw [hk]
    have ekM : k.M = h.Mins := by rw [hk]
    have ekc : k.cp = h.Cpus := by rw [hk]; exact ecp
    clear hb4 hb4' hZ hM hV hL hSp hSf hG hg hk hp0 ecp
    subst ekb
    have hMn : MinOk k.M (minsOf h 0) (minsOf h 1) := by rw [ekM]; exact minOk_of hm
    have hv0 := F.d.start.vs
    have hn8 := H.not_heap hb8 (Ne.symm hne48)
    have hlt := live_lt F.live
    have hvb : ∀ b ∈ h.Live, 0 ≤ b.At ∧ b.At ≤ 255 := fun b hb => by
     obtain ⟨j, hj, rfl⟩ := List.getElem_of_mem hb
     have := (F.next hj).at_
     omega
    have hll := live_len F
    repeat' (first | (show CW _ _ _ _ _ _; first | refine CW.seq ?_ | refine CW.region ?_) | (show Post _ _ _ _ _; refine Post.seq ?_) | refine SW.nil ?_ | refine SW.pure rfl rfl ?_)
    refine SW.callX rfl rfl (attempt_ans k p0 (z0, z1) h.Lists _ _ cpu o t f w _ H hO hMn hv0 F.sorted F.lists F.count hc.2 hf) fun v w6 hv6 => ?_
    obtain ⟨q1, hA1, rfl, p1, H1, K1⟩ := hv6
    have hn81 := K1.not hn8 hb8.lt
    replace hb8 := K1.blk hb8 hn8
    clear H hw hn8
    have hw := H1.base
    cases q1 with
    | none =>
     simp only [trS, trL] at H1
     have hDv := drained_inv F.d
     repeat' (first | (show CW _ _ _ _ _ _; first | refine CW.seq ?_ | refine CW.region ?_ | refine CW.condt rfl ?_) | (show Post _ _ _ _ _; refine Post.seq ?_) | refine SW.nil ?_ | refine SW.pure rfl rfl ?_)
     refine SW.callX rfl rfl (drain3_ans k p1 h z0 z1 F.d hs w _ H1) fun v w7 hv7 => ?_
     obtain ⟨p2, H2, K2⟩ := hv7
     have hn82 := K2.not hn81 hb8.lt
     replace hb8 := K2.blk hb8 hn81
     clear H1 hw hn81
     have hw := H2.base
     repeat' (first | (show CW _ _ _ _ _ _; refine CW.region ?_) | (show Post _ _ _ _ _; refine Post.seq ?_) | refine SW.nil ?_ | refine SW.pure rfl rfl ?_)
     refine SW.callX rfl rfl (attempt_ans k p2 _ [] _ _ cpu o t f w _ H2 hO hMn hDv.vs List.Pairwise.nil (fun l hl => by simp at hl) (by simp) hc.2 hf) fun v w8 hv8 => ?_
     obtain ⟨q3, hA3, rfl, p3, H3, K3⟩ := hv8
     have hn83 := K3.not hn82 hb8.lt
     replace hb8 := K3.blk hb8 hn82
     clear H2 hw hn82
     have hw := H3.base
     cases q3 with
     | none =>
      repeat' (first | (show CW _ _ _ _ _ _; first | refine CW.seq ?_ | refine CW.region ?_ | refine CW.condt rfl ?_) | (show Post _ _ _ _ _; refine Post.seq ?_) | refine SW.nil ?_ | refine SW.pure rfl rfl ?_ | (show SW _ _ _ _ (⟨_, Op.build _ _, _, _, _, none⟩ :: _) _ _; refine SW.st (st_build rfl rfl) rfl ?_))
      refine SW.storeAgg hb8 rfl rfl rfl rfl (one_h .zero) fun w5 hR2 hg => ?_
      replace hw := hw.own hb8w hg
      repeat' (first | (show CW _ _ _ _ _ _; refine CW.ret ?_) | (show Post _ _ _ _ _; first | refine Post.seq ?_ | refine Post.seq_ret ?_) | refine SW.nil ?_ | refine SW.pure rfl rfl ?_)
      exact Post.ret3c rfl rfl rfl rfl hR2 rfl ⟨_, rfl, hw, _, .room hq hc ht F.d.zones (by rw [etf]; exact hA1) (by rw [etf]; exact hA3), AllocOut.zero 6 _ _⟩
     | some q3 =>
      obtain ⟨s3, L3, a⟩ := q3
      simp only [trS, trL] at H3
      obtain ⟨i, hai, hi2, hcov⟩ := free_twice F (hA3.found hDv.vs).2
      have hai : a = (i : Int) := hai
      have hAR : AllocR h cpu o f (heapOf h s3 L3 (liveWith h a o t), a, 0) := by
       have := AllocR.twice hq hc ht F.d.zones (by rw [etf]; exact hA1) (by rw [etf]; exact hA3)
       rw [etf] at this
       exact this
      have hvl := H3.live.len
      rw [ekV] at hvl
      obtain ⟨fd, hfd⟩ : ∃ fd, foundA h.Live a = fd := ⟨_, rfl⟩
      have c3 : ∀ w', Sl w' 3 encBk k.lv.A k.lv.n h.Live → Ans Tryd.prog 47 [.agg (encH (k.h p3)).toArray, .int .i64 a] w' fun v _ => v = .tuple #[.int .i64 (lbOf h.Live a : Int), .bool fd] := fun w' hh => by
       have := plive2_ans (k.h p3) h.Live a w' hh hlt hvb (by simp only; omega) ⟨by omega, by omega⟩
       rwa [hfd] at this
      have hV := H3.live
      rw [ekV] at hV
      have hb4 := H3.blk
      have hZ := H3.zs
      have hM := H3.mins
      have hL := H3.ls
      rw [ekM] at hM
      have hsf := H3.sf
      clear H3
      have hlv := hV.lt_size
      repeat' (first | (show CW _ _ _ _ _ _; first | refine CW.seq ?_ | refine CW.region ?_ | refine CW.condf rfl ?_ | refine CW.skip ?_) | (show Post _ _ _ _ _; refine Post.seq ?_) | refine SW.nil ?_ | refine SW.pure rfl rfl ?_ | (show SW _ _ _ _ (⟨_, Op.fieldAddr _ _ _, _, _, _, none⟩ :: _) _ _; refine SW.st (st_field rfl) rfl ?_) | (show SW _ _ _ _ (⟨_, Op.load _ _, _, _, _, none⟩ :: _) _ _; refine SW.st (st_loads rfl rfl ((fun _ _ => hb4.cell))) rfl ?_) | (show SW _ _ _ _ (⟨_, Op.call ⟨.value (.func _), _, _⟩, _, _, _, none⟩ :: _) _ _; (refine SW.call rfl rfl (c3 _ hV.sl) ?_; intro v w1 hw1 hv; subst hv; replace hw := Ext.trans hw hw1; replace hb4 := hb4.ext hw1; replace hb8 := hb8.ext hw1; replace hV := hV.ext hw1; replace hZ := hZ.ext hw1; replace hM := hM.ext hw1; replace hL := hL.ext hw1; clear hw1)))
      repeat' (first | refine SW.pure rfl rfl ?_ | (show SW _ _ _ _ (⟨_, Op.build _ _, _, _, _, none⟩ :: _) _ _; refine SW.st (st_build rfl rfl) rfl ?_) | (show SW _ _ _ _ (⟨_, Op.load _ _, _, _, _, none⟩ :: _) _ _; refine SW.st (st_load rfl (hb4.cell (i := 4) (v := .slice k.lv.A k.lv.n k.lv.c) rfl)) rfl ?_))
      refine SW.build1 rfl rfl rfl rfl rfl fun b w9 hXX hbb hB => ?_
      have hneb : ownB k.lv.A k.lv.c ≠ some b := fun e => by have := hV.lt_size _ e; omega
      (replace hw := Ext.trans hw hXX; replace hb4 := hb4.ext hXX; replace hb8 := hb8.ext hXX; replace hV := hV.ext hXX; replace hZ := hZ.ext hXX; replace hM := hM.ext hXX; replace hL := hL.ext hXX)
      skip
      have hlb : lbOf h.Live a ≤ h.Live.length := List.findIdx_le_length
      refine SW.callX rfl rfl (InsertBlock_ans k.lv.A k.lv.n k.lv.c w.heap.size h.Live _ hV (lbOf h.Live a) (by omega) ⟨a, o, t⟩ b hB hneb (by omega) hw.size) fun v w10 hv => ?_
      obtain ⟨A', c', rfl, hV', hg⟩ := hv
      have hG := hV.gr hg
      replace hw := ext_grown hw hg (Nat.le_refl _) hV.row_ge
      replace hZ := hZ.atLive hsf hg hG
      (replace hb4 := hb4.grT hG rfl; replace hb8 := hb8.grT hG rfl; replace hM := hM.grT hG rfl; replace hL := hL.grT hG rfl)
      repeat' ((show SW _ _ _ _ (⟨_, Op.fieldAddr _ _ _, _, _, _, none⟩ :: _) _ _; refine SW.st (st_field rfl) rfl ?_))
      refine SW.storeB (i := 4) hb4 rfl rfl rfl rfl fun w11 hb4' hg => ?_
      have hG := hb4.gr hg
      replace hw := hw.own hb4w hg
      replace hb8 := hb8.grown hg (by simpa using Ne.symm hne48)
      (replace hZ := hZ.grT hG rfl; replace hM := hM.grT hG rfl; replace hL := hL.grT hG rfl; replace hV' := hV'.grT hG rfl)
      replace hb4 : Blk w11 k.b 35 (encH ⟨⟨some ⟨k.g, 0, none⟩, 2, k.c⟩, k.m, k.cp, p3.li, ⟨A', k.lv.n + 1, c'⟩⟩) := hb4'
      repeat' (first | (show CW _ _ _ _ _ _; first | refine CW.seq ?_ | refine CW.region ?_) | (show Post _ _ _ _ _; refine Post.seq ?_) | refine SW.nil ?_ | refine SW.pure rfl rfl ?_ | (show SW _ _ _ _ (⟨_, Op.load _ _, _, _, _, none⟩ :: _) _ _; refine SW.st (st_loads rfl rfl ((fun _ _ => hb4.cell))) rfl ?_))
      refine SW.storeAgg hb8 rfl rfl rfl rfl (one_h ⟨⟨some ⟨k.g, 0, none⟩, 2, k.c⟩, k.m, k.cp, p3.li, ⟨A', k.lv.n + 1, c'⟩⟩) fun w12 hR2 hg => ?_
      have hG := hb8.gr hg
      replace hw := hw.own hb8w hg
      (replace hZ := hZ.grT hG rfl; replace hM := hM.grT hG rfl; replace hL := hL.grT hG rfl; replace hV' := hV'.grT hG rfl)
      repeat' (first | (show CW _ _ _ _ _ _; refine CW.ret ?_) | (show Post _ _ _ _ _; refine Post.seq ?_) | refine SW.nil ?_ | refine SW.pure rfl rfl ?_)
      exact Post.ret3c rfl rfl rfl rfl hR2 rfl ⟨_, rfl, hw, _, hAR, ⟨⟨some ⟨k.g, 0, none⟩, 2, k.c⟩, k.m, k.cp, p3.li, ⟨A', k.lv.n + 1, c'⟩⟩, rfl, ⟨ekc, hM, hV', ⟨[p3.u0, p3.u1], ⟨hZ.row, All2.two hZ.z0 hZ.z1⟩⟩, ⟨p3.ls, hL⟩⟩⟩
    | some q3 =>
     obtain ⟨s3, L3, a⟩ := q3
     simp only [trS, trL] at H1
     obtain ⟨i, hai, hi2, hcov⟩ := free_once F (hA1.found hv0).2
     have hai : a = (i : Int) := hai
     have hAR : AllocR h cpu o f (heapOf h s3 L3 (liveWith h a o t), a, 0) := by
      have := AllocR.once hq hc ht F.d.zones (by rw [etf]; exact hA1)
      rw [etf] at this
      exact this
     have H3 := H1
     have hn83 := hn81
     obtain ⟨p3, hp3⟩ : ∃ p3, p1 = p3 := ⟨_, rfl⟩
     rw [hp3] at H3 hn83
     clear H1 hn81
     have hvl := H3.live.len
     rw [ekV] at hvl
     obtain ⟨fd, hfd⟩ : ∃ fd, foundA h.Live a = fd := ⟨_, rfl⟩
     have c3 : ∀ w', Sl w' 3 encBk k.lv.A k.lv.n h.Live → Ans Tryd.prog 47 [.agg (encH (k.h p3)).toArray, .int .i64 a] w' fun v _ => v = .tuple #[.int .i64 (lbOf h.Live a : Int), .bool fd] := fun w' hh => by
      have := plive2_ans (k.h p3) h.Live a w' hh hlt hvb (by simp only; omega) ⟨by omega, by omega⟩
      rwa [hfd] at this
     have hV := H3.live
     rw [ekV] at hV
     have hb4 := H3.blk
     have hZ := H3.zs
     have hM := H3.mins
     have hL := H3.ls
     rw [ekM] at hM
     have hsf := H3.sf
     clear H3
     have hlv := hV.lt_size
     repeat' (first | (show CW _ _ _ _ _ _; first | refine CW.seq ?_ | refine CW.region ?_ | refine CW.condf rfl ?_ | refine CW.skip ?_) | (show Post _ _ _ _ _; refine Post.seq ?_) | refine SW.nil ?_ | refine SW.pure rfl rfl ?_ | (show SW _ _ _ _ (⟨_, Op.fieldAddr _ _ _, _, _, _, none⟩ :: _) _ _; refine SW.st (st_field rfl) rfl ?_) | (show SW _ _ _ _ (⟨_, Op.load _ _, _, _, _, none⟩ :: _) _ _; refine SW.st (st_loads rfl rfl ((fun _ _ => hb4.cell))) rfl ?_) | (show SW _ _ _ _ (⟨_, Op.call ⟨.value (.func _), _, _⟩, _, _, _, none⟩ :: _) _ _; (refine SW.call rfl rfl (c3 _ hV.sl) ?_; intro v w1 hw1 hv; subst hv; replace hw := Ext.trans hw hw1; replace hb4 := hb4.ext hw1; replace hb8 := hb8.ext hw1; replace hV := hV.ext hw1; replace hZ := hZ.ext hw1; replace hM := hM.ext hw1; replace hL := hL.ext hw1; clear hw1)))
     repeat' (first | refine SW.pure rfl rfl ?_ | (show SW _ _ _ _ (⟨_, Op.build _ _, _, _, _, none⟩ :: _) _ _; refine SW.st (st_build rfl rfl) rfl ?_) | (show SW _ _ _ _ (⟨_, Op.load _ _, _, _, _, none⟩ :: _) _ _; refine SW.st (st_load rfl (hb4.cell (i := 4) (v := .slice k.lv.A k.lv.n k.lv.c) rfl)) rfl ?_))
     refine SW.build1 rfl rfl rfl rfl rfl fun b w9 hXX hbb hB => ?_
     have hneb : ownB k.lv.A k.lv.c ≠ some b := fun e => by have := hV.lt_size _ e; omega
     (replace hw := Ext.trans hw hXX; replace hb4 := hb4.ext hXX; replace hb8 := hb8.ext hXX; replace hV := hV.ext hXX; replace hZ := hZ.ext hXX; replace hM := hM.ext hXX; replace hL := hL.ext hXX)
     skip
     have hlb : lbOf h.Live a ≤ h.Live.length := List.findIdx_le_length
     refine SW.callX rfl rfl (InsertBlock_ans k.lv.A k.lv.n k.lv.c w.heap.size h.Live _ hV (lbOf h.Live a) (by omega) ⟨a, o, t⟩ b hB hneb (by omega) hw.size) fun v w10 hv => ?_
     obtain ⟨A', c', rfl, hV', hg⟩ := hv
     have hG := hV.gr hg
     replace hw := ext_grown hw hg (Nat.le_refl _) hV.row_ge
     replace hZ := hZ.atLive hsf hg hG
     (replace hb4 := hb4.grT hG rfl; replace hb8 := hb8.grT hG rfl; replace hM := hM.grT hG rfl; replace hL := hL.grT hG rfl)
     repeat' ((show SW _ _ _ _ (⟨_, Op.fieldAddr _ _ _, _, _, _, none⟩ :: _) _ _; refine SW.st (st_field rfl) rfl ?_))
     refine SW.storeB (i := 4) hb4 rfl rfl rfl rfl fun w11 hb4' hg => ?_
     have hG := hb4.gr hg
     replace hw := hw.own hb4w hg
     replace hb8 := hb8.grown hg (by simpa using Ne.symm hne48)
     (replace hZ := hZ.grT hG rfl; replace hM := hM.grT hG rfl; replace hL := hL.grT hG rfl; replace hV' := hV'.grT hG rfl)
     replace hb4 : Blk w11 k.b 35 (encH ⟨⟨some ⟨k.g, 0, none⟩, 2, k.c⟩, k.m, k.cp, p3.li, ⟨A', k.lv.n + 1, c'⟩⟩) := hb4'
     repeat' (first | (show CW _ _ _ _ _ _; first | refine CW.seq ?_ | refine CW.region ?_) | (show Post _ _ _ _ _; refine Post.seq ?_) | refine SW.nil ?_ | refine SW.pure rfl rfl ?_ | (show SW _ _ _ _ (⟨_, Op.load _ _, _, _, _, none⟩ :: _) _ _; refine SW.st (st_loads rfl rfl ((fun _ _ => hb4.cell))) rfl ?_))
     refine SW.storeAgg hb8 rfl rfl rfl rfl (one_h ⟨⟨some ⟨k.g, 0, none⟩, 2, k.c⟩, k.m, k.cp, p3.li, ⟨A', k.lv.n + 1, c'⟩⟩) fun w12 hR2 hg => ?_
     have hG := hb8.gr hg
     replace hw := hw.own hb8w hg
     (replace hZ := hZ.grT hG rfl; replace hM := hM.grT hG rfl; replace hL := hL.grT hG rfl; replace hV' := hV'.grT hG rfl)
     repeat' (first | (show CW _ _ _ _ _ _; refine CW.ret ?_) | (show Post _ _ _ _ _; refine Post.seq ?_) | refine SW.nil ?_ | refine SW.pure rfl rfl ?_)
     exact Post.ret3c rfl rfl rfl rfl hR2 rfl ⟨_, rfl, hw, _, hAR, ⟨⟨some ⟨k.g, 0, none⟩, 2, k.c⟩, k.m, k.cp, p3.li, ⟨A', k.lv.n + 1, c'⟩⟩, rfl, ⟨ekc, hM, hV', ⟨[p3.u0, p3.u1], ⟨hZ.row, All2.two hZ.z0 hZ.z1⟩⟩, ⟨p3.ls, hL⟩⟩⟩
  ·repeat' (first | (show CW _ _ _ _ _ _; first | refine CW.seq ?_ | refine CW.region ?_ | refine CW.condtr rfl (by with_reducible rfl) ?_ | refine CW.condd_t rfl (by omega) ?_ | refine CW.condn_f rfl (by omega) ?_ | refine CW.skip ?_) | (show Post _ _ _ _ _; refine Post.seq ?_) | refine SW.nil ?_ | (show SW _ _ _ _ (⟨_, _, _, _, _, some _⟩ :: _) _ _; first | refine SW.want_f rfl rfl (by with_reducible rfl) ?_ | refine SW.skip_f rfl rfl (by with_reducible rfl) rfl ?_ | refine SW.splitd rfl rfl rfl (fun h => ?_) (fun h => ?_)) | refine SW.pure rfl rfl ?_ | (show SW _ _ _ _ (⟨_, Op.fieldAddr _ _ _, _, _, _, none⟩ :: _) _ _; refine SW.st (st_field rfl) rfl ?_) | (show SW _ _ _ _ (⟨_, Op.build _ _, _, _, _, none⟩ :: _) _ _; refine SW.st (st_build rfl rfl) rfl ?_) | (show SW _ _ _ _ (⟨_, Op.load _ _, _, _, _, none⟩ :: _) _ _; first | refine SW.st (st_loads rfl rfl ((fun _ _ => hb4.cell))) rfl ?_ | refine SW.st (st_load rfl (hb4.cell (i := 2) (v := .int .i64 r.Cpus) rfl)) rfl ?_) | (show SW _ _ _ _ (⟨_, Op.call ⟨.value (.func _), _, _⟩, _, _, _, none⟩ :: _) _ _; (refine SW.call rfl rfl (c1 _ hw) ?_; intro v w1 hw1 hv; subst hv; replace hw := Ext.trans hw hw1; replace hb4 := hb4.ext hw1; replace hb8 := hb8.ext hw1; clear hw1)))
   all_goals first | (exfalso; omega) | skip
   all_goals
    refine SW.storeAgg hb8 rfl rfl rfl rfl (one_h .zero) fun w5 hR2 hg => ?_
    replace hw := hw.own hb8w hg
    repeat' (first | (show CW _ _ _ _ _ _; refine CW.ret ?_) | (show Post _ _ _ _ _; first | refine Post.seq ?_ | refine Post.seq_ret ?_) | refine SW.nil ?_ | refine SW.pure rfl rfl ?_)
    exact Post.ret3c rfl rfl rfl rfl hR2 rfl ⟨_, rfl, hw, _, .range hq hc, AllocOut.zero 1 _ _⟩
end Go.Proofs.YtfommgdbahemfaaDoor
