/-
  Contracts: pages.zone, pages.back; zoneAt, returned of the reference.
-/
import Derived.Test.YtfdmgflboibdoaaI5
import Derived.Test.YtfdmgflboibdoaaH2
import Derived.Test.YtfdmgflboibdoaaBlE
import Derived.Test.YtfdmgflboibdoaaAnF
import Derived.Test.YtfdmgflboibdoaaPDrn
import Derived.Test.YtfdmgflboibdoaaM1
set_option linter.unusedVariables false
set_option linter.unusedSimpArgs false
namespace Go.Proofs.Ytfdmgflboibdoaa
open Go.RowKit

/-- the two zones of a heap that is the call's own -/
structure ZsOwn (w : World) (lo g c : Nat) (u0 u1 : ZRow) (s : Zone × Zone) : Prop where
  row : Own w lo 38 4 encZ (some ⟨g, 0, none⟩) 2 c [u0, u1]
  z0 : OwnZ w lo u0 s.1
  z1 : OwnZ w lo u1 s.2
  glo : lo ≤ g
  pos : 0 < c
section
variable {w w' : World} {lo lo' g c t : Nat} {u0 u1 : ZRow} {s : Zone × Zone}
theorem ZsOwn.ext (h : ZsOwn w lo g c u0 u1 s) (hx : Ext w w') : ZsOwn w' lo g c u0 u1 s := ⟨h.row.ext hx, h.z0.ext hx, h.z1.ext hx, h.glo, h.pos⟩
theorem ZsOwn.grT (h : ZsOwn w lo g c u0 u1 s) (hG : GrT w w' t) (hne : (Nat.beq t 38 || (Nat.beq t 3 || Nat.beq t 86)) = false) : ZsOwn w' lo g c u0 u1 s := by
  rw [Bool.or_eq_false_iff] at hne
  exact ⟨h.row.grT hG hne.1, h.z0.grT hG hne.2, h.z1.grT hG hne.2, h.glo, h.pos⟩
theorem ZsOwn.own (h : ZsOwn w lo g c u0 u1 s) : ownB (some (⟨g, 0, none⟩ : Addr)) c = some g := by simp [ownB, Nat.pos_iff_ne_zero.1 h.pos]
theorem ZsOwn.gr (h : ZsOwn w lo g c u0 u1 s) (hg : w.grownBy w' (some g)) : GrT w w' 38 := h.row.gr (by rw [h.own]; exact hg)
theorem may_fit {u : ZRow} {z : Zone} (h : OwnZ w lo u z) (hz : ZoneMay z) : (u.Free.n + 1) * 24 ≤ 140737488355328 ∧ u.Types.n * 8 ≤ 140737488355328 ∧ (0 ≤ u.From ∧ u.From ≤ 256) ∧ (0 ≤ u.To ∧ u.To ≤ 256) := by
  have e1 := h.free.sl.len
  have e2 := h.types.sl.len
  have e3 := h.from_
  have e4 := h.to_
  have hl := zone_len hz
  obtain ⟨o1, o2, o3, o4, o5⟩ := hz.ok
  refine ⟨Nat.le_trans (Nat.mul_le_mul_right 24 (show u.Free.n + 1 ≤ 258 by omega)) (by decide), by omega, by omega, by omega⟩
end

theorem zone2_ans (r : HRow) (u0 u1 : ZRow) (p : Int) (w : World) (hz : Sl w 4 encZ r.Zones.A r.Zones.n [u0, u1]) :
    Ans Try.prog 127 [.agg (encH r).toArray, .int .i64 p] w fun v _ => v = .int .i64 (if p < u0.To then 0 else 1) := by
  refine ans_of Try.func127 rfl Try.ntmps127 rfl ?_
  refine CW.seq (CW.region (SW.box rfl rfl fun b1 w1 hw hb1b hb1 => ?_))
  have hA := hz.base
  have hn : 2 = r.Zones.n := hz.len
  have h0 : 0 < r.Zones.n := by omega
  have f0 := hz.fld h0 (j := 1) (u := .int .i64 u0.To) rfl
  repeat' (first | (show CW _ _ _ _ _ _; first | refine CW.seq ?_ | refine CW.region ?_ | refine CW.condd rfl (fun h => ?_) (fun h => ?_) | refine CW.skip ?_ | refine CW.ret ?_) | (show Post _ _ _ _ _; first | refine Post.seq ?_ | refine Post.seq_ret ?_) | refine SW.nil ?_ | refine SW.pure rfl rfl ?_ | (show SW _ _ _ _ (⟨_, Op.fieldAddr _ _ _, _, _, _, none⟩ :: _) _ _; refine SW.st (st_field rfl) rfl ?_) | (show SW _ _ _ _ (⟨_, Op.indexAddr _ _ _, _, _, _, none⟩ :: _) _ _; refine SW.st (st_indexN rfl rfl (by assumption) (by omega)) rfl ?_) | (show SW _ _ _ _ (⟨_, Op.load _ _, _, _, _, none⟩ :: _) _ _; first | refine SW.st (st_load rfl (hb1.cell rfl)) rfl ?_ | refine SW.st (st_loadx hw rfl f0) rfl ?_))
  all_goals
    refine Post.ret1 rfl rfl ⟨_, rfl, hw, ?_⟩
    first | (rw [if_pos (by omega)]) | (rw [if_neg (by omega)])
theorem zoneAt2_ans (r : HRow) (u0 u1 : ZRow) (p : Int) (w : World) (hz : Sl w 4 encZ r.Zones.A r.Zones.n [u0, u1]) :
    Ans Try.prog 131 [.agg (encH r).toArray, .int .i64 p] w fun v _ => v = .int .i64 (if p < u1.From then 0 else 1) := by
  refine ans_of Try.func131 rfl Try.ntmps131 rfl ?_
  refine CW.seq (CW.region (SW.box rfl rfl fun b1 w1 hw hb1b hb1 => ?_))
  have hA := hz.base
  have hn : 2 = r.Zones.n := hz.len
  have h0 : 1 < r.Zones.n := by omega
  have f0 := hz.fld h0 (j := 0) (u := .int .i64 u1.From) rfl
  repeat' (first | (show CW _ _ _ _ _ _; first | refine CW.seq ?_ | refine CW.region ?_ | refine CW.condd rfl (fun h => ?_) (fun h => ?_) | refine CW.skip ?_ | refine CW.ret ?_) | (show Post _ _ _ _ _; first | refine Post.seq ?_ | refine Post.seq_ret ?_) | refine SW.nil ?_ | refine SW.pure rfl rfl ?_ | (show SW _ _ _ _ (⟨_, Op.fieldAddr _ _ _, _, _, _, none⟩ :: _) _ _; refine SW.st (st_field rfl) rfl ?_) | (show SW _ _ _ _ (⟨_, Op.indexAddr _ _ _, _, _, _, none⟩ :: _) _ _; refine SW.st (st_indexN rfl rfl (by assumption) (by omega)) rfl ?_) | (show SW _ _ _ _ (⟨_, Op.load _ _, _, _, _, none⟩ :: _) _ _; first | refine SW.st (st_load rfl (hb1.cell rfl)) rfl ?_ | refine SW.st (st_loadx hw rfl f0) rfl ?_))
  all_goals
    refine Post.ret1 rfl rfl ⟨_, rfl, hw, ?_⟩
    first | (rw [if_pos (by omega)]) | (rw [if_neg (by omega)])

def BackRes (w : World) (lo g c : Nat) (s : Zone × Zone) (b : Block) (w' : World) : Prop := w.grownBy w' (some g) ∧ ∃ u0 u1, ZsOwn w' lo g c u0 u1 (backP s b)

theorem back2_ans (m : Sli) (cp : Int) (li lv : Sli) (u0 u1 : ZRow) (s : Zone × Zone) (bs : List Block) (b : Block) (lo g c b1 : Nat) (w : World) (hb1 : Blk w b1 27 (encH ⟨⟨some ⟨g, 0, none⟩, 2, c⟩, m, cp, li, lv⟩)) (hZ : ZsOwn w lo g c u0 u1 s) (hlo : lo ≤ w.heap.size) (hD : DInv s bs) (hN : NextB bs b) :
    AnsX Try.prog 126 [.pointer (some ⟨b1, 0, none⟩), .int .i64 b.At, .int .i64 b.Order] w fun v w' => BackRes w lo g c s b w' := by
  refine ansx_of Try.func126 rfl Try.ntmps126 rfl ?_
  have hw := Ext.refl w
  have eT := hZ.z0.to_
  obtain ⟨q1, q2, q3, q4⟩ := may_fit hZ.z0 hD.may0
  obtain ⟨p1, p2, p3, p4⟩ := may_fit hZ.z1 hD.may1
  have hA := hZ.row.sl.base
  have cz : ∀ w', Sl w' 4 encZ (some ⟨g, 0, none⟩) 2 [u0, u1] → Ans Try.prog 127 [.agg (encH ⟨⟨some ⟨g, 0, none⟩, 2, c⟩, m, cp, li, lv⟩).toArray, .int .i64 b.At] w' fun v _ => v = .int .i64 (if b.At < u0.To then 0 else 1) := fun w' h => zone2_ans ⟨⟨some ⟨g, 0, none⟩, 2, c⟩, m, cp, li, lv⟩ u0 u1 b.At w' h
  by_cases hx : b.At < u0.To
  · have eP : backP s b = ((backV s.1 b.At b.Order).2, s.2) := by unfold backP; rw [if_pos (by omega)]
    simp only [if_pos hx] at cz
    have hz0 := hZ.row.sl
    have k0 : 0 < 2 := by omega
    repeat' (first | (show CW _ _ _ _ _ _; first | refine CW.seq ?_ | refine CW.region ?_) | (show Post _ _ _ _ _; refine Post.seq ?_) | refine SW.nil ?_ | refine SW.pure rfl rfl ?_ | (show SW _ _ _ _ (⟨_, Op.nilCheck _, _, _, _, none⟩ :: _) _ _; refine SW.st (st_nilCheck rfl) rfl ?_) | (show SW _ _ _ _ (⟨_, Op.load _ _, _, _, _, none⟩ :: _) _ _; refine SW.st (st_loads rfl rfl ((fun _ _ => hb1.cell))) rfl ?_) | (show SW _ _ _ _ (⟨_, Op.call ⟨.value (.func _), _, _⟩, _, _, _, none⟩ :: _) _ _; (refine SW.call rfl rfl (cz _ hZ.row.sl) ?_; intro v w1 hw1 hv; subst hv; replace hw := Ext.trans hw hw1; replace hb1 := hb1.ext hw1; replace hZ := hZ.ext hw1; clear hw1)))
    refine CW.anyF 19 mixed (by kernel_rfl) fun w1 hw1 hRB => ?_
    replace hw := Ext.trans hw hw1; replace hb1 := hb1.ext hw1; replace hZ := hZ.ext hw1; clear hw1
    refine SF.take 0 hRB rfl (by kernel_rfl) (by kernel_rfl) (by kernel_rfl) ?_
    repeat (refine SW.pure rfl rfl ?_)
    refine SW.tknil ?_
    refine SF.take 1 hRB rfl (by kernel_rfl) (by kernel_rfl) (by kernel_rfl) ?_
    repeat ((show SW _ _ _ _ (⟨_, Op.nilCheck _, _, _, _, none⟩ :: _) _ _; refine SW.st (st_nilCheck rfl) rfl ?_))
    refine SW.tknil ?_
    refine SF.take 2 hRB rfl (by kernel_rfl) (by kernel_rfl) (by kernel_rfl) ?_
    repeat ((show SW _ _ _ _ (⟨_, Op.fieldAddr _ _ _, _, _, _, none⟩ :: _) _ _; refine SW.st (st_field rfl) rfl ?_))
    refine SW.tknil ?_
    refine SF.take 3 hRB rfl (by kernel_rfl) (by kernel_rfl) (by kernel_rfl) ?_
    repeat ((show SW _ _ _ _ (⟨_, Op.load _ _, _, _, _, none⟩ :: _) _ _; refine SW.st (st_load rfl (hb1.cell rfl)) rfl ?_))
    refine SW.tknil ?_
    refine SF.take 4 hRB rfl (by kernel_rfl) (by kernel_rfl) (by kernel_rfl) ?_
    repeat (refine SW.pure rfl rfl ?_)
    refine SW.tknil ?_
    refine SF.take 5 hRB rfl (by kernel_rfl) (by kernel_rfl) (by kernel_rfl) ?_
    repeat (refine SW.pure rfl rfl ?_)
    refine SW.tknil ?_
    refine SF.take 6 hRB rfl (by kernel_rfl) (by kernel_rfl) (by kernel_rfl) ?_
    repeat ((show SW _ _ _ _ (⟨_, Op.nilCheck _, _, _, _, none⟩ :: _) _ _; refine SW.st (st_nilCheck rfl) rfl ?_))
    refine SW.tknil ?_
    refine SF.take 7 hRB rfl (by kernel_rfl) (by kernel_rfl) (by kernel_rfl) ?_
    repeat ((show SW _ _ _ _ (⟨_, Op.fieldAddr _ _ _, _, _, _, none⟩ :: _) _ _; refine SW.st (st_field rfl) rfl ?_))
    refine SW.tknil ?_
    refine SF.take 8 hRB rfl (by kernel_rfl) (by kernel_rfl) (by kernel_rfl) ?_
    repeat ((show SW _ _ _ _ (⟨_, Op.load _ _, _, _, _, none⟩ :: _) _ _; refine SW.st (st_load rfl (hb1.cell rfl)) rfl ?_))
    refine SW.tknil ?_
    refine SF.take 9 hRB rfl (by kernel_rfl) (by kernel_rfl) (by kernel_rfl) ?_
    repeat (refine SW.pure rfl rfl ?_)
    refine SW.tknil ?_
    refine SF.take 10 hRB rfl (by kernel_rfl) (by kernel_rfl) (by kernel_rfl) ?_
    repeat ((show SW _ _ _ _ (⟨_, Op.indexAddr _ _ _, _, _, _, none⟩ :: _) _ _; refine SW.st (st_indexN rfl rfl (by assumption) (by omega)) rfl ?_))
    refine SW.tknil ?_
    refine SF.take 11 hRB rfl (by kernel_rfl) (by kernel_rfl) (by kernel_rfl) ?_
    repeat ((show SW _ _ _ _ (⟨_, Op.load _ _, _, _, _, none⟩ :: _) _ _; refine SW.st (st_loads rfl rfl ((hZ.row.sl.all k0))) rfl ?_))
    refine SW.tknil ?_
    refine SF.take 12 hRB rfl (by kernel_rfl) (by kernel_rfl) (by kernel_rfl) ?_
    repeat (refine SW.pure rfl rfl ?_)
    refine SW.tknil ?_
    refine SF.take 13 hRB rfl (by kernel_rfl) (by kernel_rfl) (by kernel_rfl) ?_
    repeat (refine SW.pure rfl rfl ?_)
    refine SW.tknil ?_
    refine SF.one 14 rfl (by kernel_rfl) rfl ?_
    refine SW.call rfl rfl (Zback_ans u0 s.1 b.At b.Order _ hZ.z0.rd q1 q2 ⟨by omega, by omega⟩ ⟨by omega, by omega⟩) fun v w4 hXX hv => ?_
    obtain ⟨u', rfl, hs'⟩ := hv
    replace hs' := hs'.low (Nat.le_trans hlo hw.size)
    (replace hw := Ext.trans hw hXX; replace hb1 := hb1.ext hXX; replace hZ := hZ.ext hXX)
    refine SW.nil (Post.sf hXX ?_)
    refine SF.take 15 hRB rfl (by kernel_rfl) (by kernel_rfl) (by kernel_rfl) ?_
    repeat (refine SW.pure rfl rfl ?_)
    refine SW.tknil ?_
    refine SF.take 16 hRB rfl (by kernel_rfl) (by kernel_rfl) (by kernel_rfl) ?_
    repeat (refine SW.pure rfl rfl ?_)
    refine SW.tknil ?_
    refine SF.takeX 17 hRB rfl (by kernel_rfl) (by kernel_rfl) rfl rfl rfl rfl ?_
    refine SF.take 18 hRB rfl (by kernel_rfl) (by kernel_rfl) (by kernel_rfl) ?_
    repeat ((show SW _ _ _ _ (⟨_, Op.indexAddr _ _ _, _, _, _, none⟩ :: _) _ _; refine SW.st (st_indexN rfl rfl (by assumption) (by omega)) rfl ?_))
    refine SW.tknil ?_
    refine SF.last rfl (by kernel_rfl) (by kernel_rfl) ?_
    refine SW.storeElem (enc := encZ) 0 u' hZ.row rfl rfl k0 fun w5 hO hg => ?_
    rw [hZ.own] at hg
    have hG := hZ.gr hg
    have hgg := grown_trans (hw.gr (some g)) hg (.inl rfl)
    repeat' (first | (show Post _ _ _ _ _; refine Post.np ?_) | refine SW.nil ?_)
    exact Post.end0 rfl ⟨_, rfl, hgg, u', u1, by rw [eP]; exact ⟨hO, hs'.grT hG rfl, hZ.z1.grT hG rfl, hZ.glo, hZ.pos⟩⟩
  · have eP : backP s b = (s.1, (backV s.2 b.At b.Order).2) := by unfold backP; rw [if_neg (by omega)]
    simp only [if_neg hx] at cz
    have k0 : 1 < 2 := by omega
    repeat' (first | (show CW _ _ _ _ _ _; first | refine CW.seq ?_ | refine CW.region ?_) | (show Post _ _ _ _ _; refine Post.seq ?_) | refine SW.nil ?_ | refine SW.pure rfl rfl ?_ | (show SW _ _ _ _ (⟨_, Op.nilCheck _, _, _, _, none⟩ :: _) _ _; refine SW.st (st_nilCheck rfl) rfl ?_) | (show SW _ _ _ _ (⟨_, Op.load _ _, _, _, _, none⟩ :: _) _ _; refine SW.st (st_loads rfl rfl ((fun _ _ => hb1.cell))) rfl ?_) | (show SW _ _ _ _ (⟨_, Op.call ⟨.value (.func _), _, _⟩, _, _, _, none⟩ :: _) _ _; (refine SW.call rfl rfl (cz _ hZ.row.sl) ?_; intro v w1 hw1 hv; subst hv; replace hw := Ext.trans hw hw1; replace hb1 := hb1.ext hw1; replace hZ := hZ.ext hw1; clear hw1)))
    refine CW.anyF 19 mixed (by kernel_rfl) fun w1 hw1 hRB => ?_
    replace hw := Ext.trans hw hw1; replace hb1 := hb1.ext hw1; replace hZ := hZ.ext hw1; clear hw1
    refine SF.take 0 hRB rfl (by kernel_rfl) (by kernel_rfl) (by kernel_rfl) ?_
    repeat (refine SW.pure rfl rfl ?_)
    refine SW.tknil ?_
    refine SF.take 1 hRB rfl (by kernel_rfl) (by kernel_rfl) (by kernel_rfl) ?_
    repeat ((show SW _ _ _ _ (⟨_, Op.nilCheck _, _, _, _, none⟩ :: _) _ _; refine SW.st (st_nilCheck rfl) rfl ?_))
    refine SW.tknil ?_
    refine SF.take 2 hRB rfl (by kernel_rfl) (by kernel_rfl) (by kernel_rfl) ?_
    repeat ((show SW _ _ _ _ (⟨_, Op.fieldAddr _ _ _, _, _, _, none⟩ :: _) _ _; refine SW.st (st_field rfl) rfl ?_))
    refine SW.tknil ?_
    refine SF.take 3 hRB rfl (by kernel_rfl) (by kernel_rfl) (by kernel_rfl) ?_
    repeat ((show SW _ _ _ _ (⟨_, Op.load _ _, _, _, _, none⟩ :: _) _ _; refine SW.st (st_load rfl (hb1.cell rfl)) rfl ?_))
    refine SW.tknil ?_
    refine SF.take 4 hRB rfl (by kernel_rfl) (by kernel_rfl) (by kernel_rfl) ?_
    repeat (refine SW.pure rfl rfl ?_)
    refine SW.tknil ?_
    refine SF.take 5 hRB rfl (by kernel_rfl) (by kernel_rfl) (by kernel_rfl) ?_
    repeat (refine SW.pure rfl rfl ?_)
    refine SW.tknil ?_
    refine SF.take 6 hRB rfl (by kernel_rfl) (by kernel_rfl) (by kernel_rfl) ?_
    repeat ((show SW _ _ _ _ (⟨_, Op.nilCheck _, _, _, _, none⟩ :: _) _ _; refine SW.st (st_nilCheck rfl) rfl ?_))
    refine SW.tknil ?_
    refine SF.take 7 hRB rfl (by kernel_rfl) (by kernel_rfl) (by kernel_rfl) ?_
    repeat ((show SW _ _ _ _ (⟨_, Op.fieldAddr _ _ _, _, _, _, none⟩ :: _) _ _; refine SW.st (st_field rfl) rfl ?_))
    refine SW.tknil ?_
    refine SF.take 8 hRB rfl (by kernel_rfl) (by kernel_rfl) (by kernel_rfl) ?_
    repeat ((show SW _ _ _ _ (⟨_, Op.load _ _, _, _, _, none⟩ :: _) _ _; refine SW.st (st_load rfl (hb1.cell rfl)) rfl ?_))
    refine SW.tknil ?_
    refine SF.take 9 hRB rfl (by kernel_rfl) (by kernel_rfl) (by kernel_rfl) ?_
    repeat (refine SW.pure rfl rfl ?_)
    refine SW.tknil ?_
    refine SF.take 10 hRB rfl (by kernel_rfl) (by kernel_rfl) (by kernel_rfl) ?_
    repeat ((show SW _ _ _ _ (⟨_, Op.indexAddr _ _ _, _, _, _, none⟩ :: _) _ _; refine SW.st (st_indexN rfl rfl (by assumption) (by omega)) rfl ?_))
    refine SW.tknil ?_
    refine SF.take 11 hRB rfl (by kernel_rfl) (by kernel_rfl) (by kernel_rfl) ?_
    repeat ((show SW _ _ _ _ (⟨_, Op.load _ _, _, _, _, none⟩ :: _) _ _; refine SW.st (st_loads rfl rfl ((hZ.row.sl.all k0))) rfl ?_))
    refine SW.tknil ?_
    refine SF.take 12 hRB rfl (by kernel_rfl) (by kernel_rfl) (by kernel_rfl) ?_
    repeat (refine SW.pure rfl rfl ?_)
    refine SW.tknil ?_
    refine SF.take 13 hRB rfl (by kernel_rfl) (by kernel_rfl) (by kernel_rfl) ?_
    repeat (refine SW.pure rfl rfl ?_)
    refine SW.tknil ?_
    refine SF.one 14 rfl (by kernel_rfl) rfl ?_
    refine SW.call rfl rfl (Zback_ans u1 s.2 b.At b.Order _ hZ.z1.rd p1 p2 ⟨by omega, by omega⟩ ⟨by omega, by omega⟩) fun v w4 hXX hv => ?_
    obtain ⟨u', rfl, hs'⟩ := hv
    replace hs' := hs'.low (Nat.le_trans hlo hw.size)
    (replace hw := Ext.trans hw hXX; replace hb1 := hb1.ext hXX; replace hZ := hZ.ext hXX)
    refine SW.nil (Post.sf hXX ?_)
    refine SF.take 15 hRB rfl (by kernel_rfl) (by kernel_rfl) (by kernel_rfl) ?_
    repeat (refine SW.pure rfl rfl ?_)
    refine SW.tknil ?_
    refine SF.take 16 hRB rfl (by kernel_rfl) (by kernel_rfl) (by kernel_rfl) ?_
    repeat (refine SW.pure rfl rfl ?_)
    refine SW.tknil ?_
    refine SF.takeX 17 hRB rfl (by kernel_rfl) (by kernel_rfl) rfl rfl rfl rfl ?_
    refine SF.take 18 hRB rfl (by kernel_rfl) (by kernel_rfl) (by kernel_rfl) ?_
    repeat ((show SW _ _ _ _ (⟨_, Op.indexAddr _ _ _, _, _, _, none⟩ :: _) _ _; refine SW.st (st_indexN rfl rfl (by assumption) (by omega)) rfl ?_))
    refine SW.tknil ?_
    refine SF.last rfl (by kernel_rfl) (by kernel_rfl) ?_
    refine SW.storeElem (enc := encZ) 1 u' hZ.row rfl rfl k0 fun w5 hO hg => ?_
    rw [hZ.own] at hg
    have hG := hZ.gr hg
    have hgg := grown_trans (hw.gr (some g)) hg (.inl rfl)
    repeat' (first | (show Post _ _ _ _ _; refine Post.np ?_) | refine SW.nil ?_)
    exact Post.end0 rfl ⟨_, rfl, hgg, u0, u', by rw [eP]; exact ⟨hO, hZ.z0.grT hG rfl, hs'.grT hG rfl, hZ.glo, hZ.pos⟩⟩

theorem returned_ans (m : Sli) (cp : Int) (li lv : Sli) (u0 u1 : ZRow) (s : Zone × Zone) (bs : List Block) (b : Block) (lo g c : Nat) (w : World) (hZ : ZsOwn w lo g c u0 u1 s) (hlo : lo ≤ w.heap.size) (hD : DInv s bs) (hN : NextB bs b) :
    AnsX Try.prog 130 [.agg (encH ⟨⟨some ⟨g, 0, none⟩, 2, c⟩, m, cp, li, lv⟩).toArray, .int .i64 b.At, .int .i64 b.Order] w fun v w' => v = .agg (encH ⟨⟨some ⟨g, 0, none⟩, 2, c⟩, m, cp, li, lv⟩).toArray ∧ BackRes w lo g c s b w' := by
  refine ansx_of Try.func130 rfl Try.ntmps130 rfl ?_
  refine CW.seq (CW.region (SW.box rfl rfl fun b3 w1 hw hb3b hb3 => ?_))
  refine SW.alloc rfl fun b6 w2 hw2 hb6b hb6 => ?_
  have hb6w : w.heap.size ≤ b6 := Nat.le_trans hw.size hb6b
  (replace hw := Ext.trans hw hw2; replace hb3 := hb3.ext hw2)
  replace hZ := hZ.ext hw
  have eT := hZ.z0.to_
  have eF := hZ.z1.from_
  have eM := hD.mid
  obtain ⟨q1, q2, q3, q4⟩ := may_fit hZ.z0 hD.may0
  obtain ⟨p1, p2, p3, p4⟩ := may_fit hZ.z1 hD.may1
  have hA := hZ.row.sl.base
  have cz : ∀ w', Sl w' 4 encZ (some ⟨g, 0, none⟩) 2 [u0, u1] → Ans Try.prog 131 [.agg (encH ⟨⟨some ⟨g, 0, none⟩, 2, c⟩, m, cp, li, lv⟩).toArray, .int .i64 b.At] w' fun v _ => v = .int .i64 (if b.At < u1.From then 0 else 1) := fun w' h => zoneAt2_ans ⟨⟨some ⟨g, 0, none⟩, 2, c⟩, m, cp, li, lv⟩ u0 u1 b.At w' h
  by_cases hx : b.At < u1.From
  · have eP : backP s b = ((backV s.1 b.At b.Order).2, s.2) := by unfold backP; rw [if_pos (by omega)]
    simp only [if_pos hx] at cz
    have k0 : 0 < 2 := by omega
    repeat' (first | (show CW _ _ _ _ _ _; first | refine CW.seq ?_ | refine CW.region ?_) | (show Post _ _ _ _ _; refine Post.seq ?_) | refine SW.nil ?_ | refine SW.pure rfl rfl ?_ | (show SW _ _ _ _ (⟨_, Op.fieldAddr _ _ _, _, _, _, none⟩ :: _) _ _; refine SW.st (st_field rfl) rfl ?_) | (show SW _ _ _ _ (⟨_, Op.load _ _, _, _, _, none⟩ :: _) _ _; refine SW.st (st_loads rfl rfl ((fun _ _ => hb3.cell))) rfl ?_) | (show SW _ _ _ _ (⟨_, Op.call ⟨.value (.func _), _, _⟩, _, _, _, none⟩ :: _) _ _; (refine SW.call rfl rfl (cz _ hZ.row.sl) ?_; intro v w1 hw1 hv; subst hv; replace hw := Ext.trans hw hw1; replace hb3 := hb3.ext hw1; replace hb6 := hb6.ext hw1; replace hZ := hZ.ext hw1; clear hw1)))
    repeat' (first | refine SW.pure rfl rfl ?_ | (show SW _ _ _ _ (⟨_, Op.indexAddr _ _ _, _, _, _, none⟩ :: _) _ _; refine SW.st (st_indexN rfl rfl (by assumption) (by omega)) rfl ?_) | (show SW _ _ _ _ (⟨_, Op.load _ _, _, _, _, none⟩ :: _) _ _; first | refine SW.st (st_load rfl (hb3.cell rfl)) rfl ?_ | refine SW.st (st_loads rfl rfl ((hZ.row.sl.all k0))) rfl ?_))
    refine SW.call rfl rfl (BackOf_ans u0 s.1 b.At b.Order _ hZ.z0.rd q1 q2 ⟨by omega, by omega⟩ ⟨by omega, by omega⟩) fun v w4 hXX hv => ?_
    obtain ⟨u', rfl, hs'⟩ := hv
    replace hs' := hs'.low (Nat.le_trans hlo hw.size)
    (replace hw := Ext.trans hw hXX; replace hb3 := hb3.ext hXX; replace hb6 := hb6.ext hXX; replace hZ := hZ.ext hXX)
    repeat' (refine SW.pure rfl rfl ?_)
    refine SW.alloc rfl fun b8 w1 hw1 hb8b hb8 => ?_
    skip
    refine SW.storeAgg hb8 rfl rfl rfl rfl (one_z u') fun w2 hb8' hg => ?_
    have hXX := hw1.own hb8b hg
    have hb8w : w.heap.size ≤ b8 := Nat.le_trans hw.size hb8b
    replace hw := Ext.trans hw hXX
    replace hb3 := hb3.ext hXX
    replace hb6 := hb6.ext hXX
    replace hZ := hZ.ext hXX
    replace hs' := hs'.ext hXX
    replace hb8 := hb8'
    clear hb8' hw1 hg hXX
    repeat' (first | (show CW _ _ _ _ _ _; first | refine CW.seq ?_ | refine CW.region ?_) | (show Post _ _ _ _ _; refine Post.seq ?_) | refine SW.nil ?_ | refine SW.pure rfl rfl ?_ | (show SW _ _ _ _ (⟨_, Op.fieldAddr _ _ _, _, _, _, none⟩ :: _) _ _; refine SW.st (st_field rfl) rfl ?_) | (show SW _ _ _ _ (⟨_, Op.indexAddr _ _ _, _, _, _, none⟩ :: _) _ _; refine SW.st (st_indexN rfl rfl (by assumption) (by omega)) rfl ?_) | (show SW _ _ _ _ (⟨_, Op.load _ _, _, _, _, none⟩ :: _) _ _; first | refine SW.st (st_load rfl (hb3.cell rfl)) rfl ?_ | refine SW.st (st_loads rfl rfl ((fun _ _ => hb8.cell))) rfl ?_))
    refine SW.storeElem (enc := encZ) 0 u' hZ.row rfl rfl k0 fun w5 hO hg => ?_
    rw [hZ.own] at hg
    have hG := hZ.gr hg
    have hgg := grown_trans (hw.gr (some g)) hg (.inl rfl)
    have hZ' : ZsOwn w5 lo g c u' u1 (backP s b) := by rw [eP]; exact ⟨hO, hs'.grT hG rfl, hZ.z1.grT hG rfl, hZ.glo, hZ.pos⟩
    clear hZ hs' hb8 cz hO
    (replace hb3 := hb3.grT hG rfl; replace hb6 := hb6.grT hG rfl)
    have hw3 := Ext.refl w5
    clear hw
    have hw := hw3
    repeat' (first | (show CW _ _ _ _ _ _; first | refine CW.seq ?_ | refine CW.region ?_) | (show Post _ _ _ _ _; refine Post.seq ?_) | refine SW.nil ?_ | (show SW _ _ _ _ (⟨_, Op.load _ _, _, _, _, none⟩ :: _) _ _; refine SW.st (st_loads rfl rfl ((fun _ _ => hb3.cell))) rfl ?_))
    refine SW.storeAgg hb6 rfl rfl rfl rfl (one_h ⟨⟨some ⟨g, 0, none⟩, 2, c⟩, m, cp, li, lv⟩) fun w6 hR2 hg => ?_
    have hG := hb6.gr hg
    replace hgg := grown_trans hgg hg (.inr fun i e => by cases e; exact hb6w)
    repeat' (first | (show CW _ _ _ _ _ _; refine CW.ret ?_) | (show Post _ _ _ _ _; refine Post.seq ?_) | refine SW.nil ?_)
    exact Post.ret1c rfl rfl hR2 rfl ⟨_, rfl, rfl, hgg, u', u1, hZ'.grT hG rfl⟩
  · have eP : backP s b = (s.1, (backV s.2 b.At b.Order).2) := by unfold backP; rw [if_neg (by omega)]
    simp only [if_neg hx] at cz
    have k0 : 1 < 2 := by omega
    repeat' (first | (show CW _ _ _ _ _ _; first | refine CW.seq ?_ | refine CW.region ?_) | (show Post _ _ _ _ _; refine Post.seq ?_) | refine SW.nil ?_ | refine SW.pure rfl rfl ?_ | (show SW _ _ _ _ (⟨_, Op.fieldAddr _ _ _, _, _, _, none⟩ :: _) _ _; refine SW.st (st_field rfl) rfl ?_) | (show SW _ _ _ _ (⟨_, Op.load _ _, _, _, _, none⟩ :: _) _ _; refine SW.st (st_loads rfl rfl ((fun _ _ => hb3.cell))) rfl ?_) | (show SW _ _ _ _ (⟨_, Op.call ⟨.value (.func _), _, _⟩, _, _, _, none⟩ :: _) _ _; (refine SW.call rfl rfl (cz _ hZ.row.sl) ?_; intro v w1 hw1 hv; subst hv; replace hw := Ext.trans hw hw1; replace hb3 := hb3.ext hw1; replace hb6 := hb6.ext hw1; replace hZ := hZ.ext hw1; clear hw1)))
    repeat' (first | refine SW.pure rfl rfl ?_ | (show SW _ _ _ _ (⟨_, Op.indexAddr _ _ _, _, _, _, none⟩ :: _) _ _; refine SW.st (st_indexN rfl rfl (by assumption) (by omega)) rfl ?_) | (show SW _ _ _ _ (⟨_, Op.load _ _, _, _, _, none⟩ :: _) _ _; first | refine SW.st (st_load rfl (hb3.cell rfl)) rfl ?_ | refine SW.st (st_loads rfl rfl ((hZ.row.sl.all k0))) rfl ?_))
    refine SW.call rfl rfl (BackOf_ans u1 s.2 b.At b.Order _ hZ.z1.rd p1 p2 ⟨by omega, by omega⟩ ⟨by omega, by omega⟩) fun v w4 hXX hv => ?_
    obtain ⟨u', rfl, hs'⟩ := hv
    replace hs' := hs'.low (Nat.le_trans hlo hw.size)
    (replace hw := Ext.trans hw hXX; replace hb3 := hb3.ext hXX; replace hb6 := hb6.ext hXX; replace hZ := hZ.ext hXX)
    repeat' (refine SW.pure rfl rfl ?_)
    refine SW.alloc rfl fun b8 w1 hw1 hb8b hb8 => ?_
    skip
    refine SW.storeAgg hb8 rfl rfl rfl rfl (one_z u') fun w2 hb8' hg => ?_
    have hXX := hw1.own hb8b hg
    have hb8w : w.heap.size ≤ b8 := Nat.le_trans hw.size hb8b
    replace hw := Ext.trans hw hXX
    replace hb3 := hb3.ext hXX
    replace hb6 := hb6.ext hXX
    replace hZ := hZ.ext hXX
    replace hs' := hs'.ext hXX
    replace hb8 := hb8'
    clear hb8' hw1 hg hXX
    repeat' (first | (show CW _ _ _ _ _ _; first | refine CW.seq ?_ | refine CW.region ?_) | (show Post _ _ _ _ _; refine Post.seq ?_) | refine SW.nil ?_ | refine SW.pure rfl rfl ?_ | (show SW _ _ _ _ (⟨_, Op.fieldAddr _ _ _, _, _, _, none⟩ :: _) _ _; refine SW.st (st_field rfl) rfl ?_) | (show SW _ _ _ _ (⟨_, Op.indexAddr _ _ _, _, _, _, none⟩ :: _) _ _; refine SW.st (st_indexN rfl rfl (by assumption) (by omega)) rfl ?_) | (show SW _ _ _ _ (⟨_, Op.load _ _, _, _, _, none⟩ :: _) _ _; first | refine SW.st (st_load rfl (hb3.cell rfl)) rfl ?_ | refine SW.st (st_loads rfl rfl ((fun _ _ => hb8.cell))) rfl ?_))
    refine SW.storeElem (enc := encZ) 1 u' hZ.row rfl rfl k0 fun w5 hO hg => ?_
    rw [hZ.own] at hg
    have hG := hZ.gr hg
    have hgg := grown_trans (hw.gr (some g)) hg (.inl rfl)
    have hZ' : ZsOwn w5 lo g c u0 u' (backP s b) := by rw [eP]; exact ⟨hO, hZ.z0.grT hG rfl, hs'.grT hG rfl, hZ.glo, hZ.pos⟩
    clear hZ hs' hb8 cz hO
    (replace hb3 := hb3.grT hG rfl; replace hb6 := hb6.grT hG rfl)
    have hw3 := Ext.refl w5
    clear hw
    have hw := hw3
    repeat' (first | (show CW _ _ _ _ _ _; first | refine CW.seq ?_ | refine CW.region ?_) | (show Post _ _ _ _ _; refine Post.seq ?_) | refine SW.nil ?_ | (show SW _ _ _ _ (⟨_, Op.load _ _, _, _, _, none⟩ :: _) _ _; refine SW.st (st_loads rfl rfl ((fun _ _ => hb3.cell))) rfl ?_))
    refine SW.storeAgg hb6 rfl rfl rfl rfl (one_h ⟨⟨some ⟨g, 0, none⟩, 2, c⟩, m, cp, li, lv⟩) fun w6 hR2 hg => ?_
    have hG := hb6.gr hg
    replace hgg := grown_trans hgg hg (.inr fun i e => by cases e; exact hb6w)
    repeat' (first | (show CW _ _ _ _ _ _; refine CW.ret ?_) | (show Post _ _ _ _ _; refine Post.seq ?_) | refine SW.nil ?_)
    exact Post.ret1c rfl rfl hR2 rfl ⟨_, rfl, rfl, hgg, u0, u', hZ'.grT hG rfl⟩
end Go.Proofs.Ytfdmgflboibdoaa
