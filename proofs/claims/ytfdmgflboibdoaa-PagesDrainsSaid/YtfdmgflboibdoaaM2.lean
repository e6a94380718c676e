/-
  Contracts: a block is marked; pages.zone, less; ahead; the lists of pages.
-/
import Derived.Test.YtfdmgflboibdoaaM1
import Derived.Test.YtfdmgflboibdoaaH1
set_option linter.unusedVariables false
set_option linter.unusedSimpArgs false
namespace Go.Proofs.Ytfdmgflboibdoaa
open Go.RowKit

/-- the marks of the blocks so far; none: something was twice -/
def Marks (w : World) (b N : Nat) : Option (List Block) → Prop
  | some bs => Blk w b 118 (cellsM (covP bs) N false)
  | none => ∃ p, Blk w b 118 (cellsM p N true)
theorem Marks.ext {w w' : World} {b N : Nat} {s : Option (List Block)} (h : Marks w b N s) (hx : Ext w w') : Marks w' b N s := by
  cases s with
  | none => obtain ⟨p, h⟩ := h; exact ⟨p, Blk.ext h hx⟩
  | some bs => exact Blk.ext h hx
theorem Marks.lt {w : World} {b N : Nat} {s : Option (List Block)} (h : Marks w b N s) : b < w.heap.size := by
  cases s with
  | none => obtain ⟨p, h⟩ := h; exact Blk.lt h
  | some bs => exact Blk.lt h
theorem Marks.bad {w : World} {b N : Nat} {s : Option (List Block)} (h : Marks w b N s) (hN : N = 256) : w.cell? ((⟨b, 0, none⟩ : Addr).add 256) = some (.bool s.isNone) := by
  subst hN
  cases s with
  | none => obtain ⟨p, h⟩ := h; exact Blk.cell h (cellsM_bad _ _ _)
  | some bs => exact Blk.cell h (cellsM_bad _ _ _)
theorem Marks.gr {w w' : World} {b N : Nat} {s : Option (List Block)} (h : Marks w b N s) (hg : w.grownBy w' (some b)) : GrT w w' 118 := by
  cases s with
  | none => obtain ⟨p, h⟩ := h; exact Blk.gr h hg
  | some bs => exact Blk.gr h hg

theorem markB_ans (b : Nat) (s : Option (List Block)) (x : Block) (N : Nat) (hN : N = 256) (w : World) (hM : Marks w b N s) (hs : goodS s) (hp : 1 ≤ pw x.Order ∧ pw x.Order ≤ 16) :
    AnsX Try.prog 96 [.pointer (some ⟨b, 0, none⟩), .int .i64 x.At, .int .i64 (pw x.Order)] w fun v w' => Marks w' b N (addB s x) ∧ w.grownBy w' (some b) := by
  cases s with
  | none =>
    obtain ⟨p, hB⟩ := hM
    refine ⟨Calls.mono (mark_ans b p true N hN x.At (pw x.Order) w hB ⟨by omega, hp.2⟩).out ?_⟩
    rintro e w' ⟨v, he, p', bad', hB', hg, h⟩
    refine ⟨v, he, ?_, hg⟩
    have : bad' = true := by rcases h with ⟨_, h, _⟩ | ⟨_, h⟩ <;> exact h
    subst this
    exact ⟨p', hB'⟩
  | some bs =>
    refine ⟨Calls.mono (mark_ans b (covP bs) false N hN x.At (pw x.Order) w hM ⟨by omega, hp.2⟩).out ?_⟩
    rintro e w' ⟨v, he, p', bad', hB', hg, h⟩
    refine ⟨v, he, ?_, hg⟩
    have hiff := okM_iff (hs bs rfl) (b := x) hp.1
    rcases h with ⟨h1, rfl, rfl⟩ | ⟨h1, rfl⟩
    · have : addB (some bs) x = some (bs ++ [x]) := by simp [addB, hiff.1 h1]
      rw [this]
      show Blk w' b _ _
      rw [← cellsM_congr (fun i _ => addM_cov bs x i)]
      exact hB'
    · have : addB (some bs) x = none := by
        simp only [addB]
        rw [if_neg (fun hf => h1 (hiff.2 hf))]
      rw [this]
      exact ⟨p', hB'⟩


theorem lessL_ans (r s : LRow) (a b : PList) (w : World) (ha : r.Cpu = a.Cpu ∧ r.Zone = a.Zone ∧ r.Ty = a.Ty) (hb : s.Cpu = b.Cpu ∧ s.Zone = b.Zone ∧ s.Ty = b.Ty) :
    Ans Try.prog 147 [.agg (encL r).toArray, .agg (encL s).toArray] w fun v _ => v = .bool (decide (aheadL a b)) := by
  refine ans_of Try.func147 rfl Try.ntmps147 rfl ?_
  refine CW.seq (CW.region (SW.box rfl rfl fun b2 w1 hw hb2b hb2 => ?_))
  refine SW.box rfl rfl fun b3 w2 hw2 hb3b hb3 => ?_
  (replace hw := Ext.trans hw hw2; replace hb2 := hb2.ext hw2)
  obtain ⟨a1, a2, a3⟩ := ha
  obtain ⟨b1, b2', b3'⟩ := hb
  have key : aheadL a b ↔ (r.Cpu < s.Cpu ∨ (r.Cpu = s.Cpu ∧ (r.Zone < s.Zone ∨ (r.Zone = s.Zone ∧ r.Ty < s.Ty)))) := by unfold aheadL; rw [a1, a2, a3, b1, b2', b3']
  by_cases h1 : r.Cpu < s.Cpu
  · rw [decide_eq_true (key.2 (by omega))]
    repeat' (first | (show CW _ _ _ _ _ _; first | refine CW.seq ?_ | refine CW.region ?_ | refine CW.condn_t rfl (by omega) ?_ | refine CW.ret ?_) | (show Post _ _ _ _ _; first | refine Post.seq ?_ | refine Post.seq_ret ?_) | refine SW.nil ?_ | refine SW.pure rfl rfl ?_ | (show SW _ _ _ _ (⟨_, Op.fieldAddr _ _ _, _, _, _, none⟩ :: _) _ _; refine SW.st (st_field rfl) rfl ?_) | (show SW _ _ _ _ (⟨_, Op.load _ _, _, _, _, none⟩ :: _) _ _; first | refine SW.st (st_load rfl (hb2.cell rfl)) rfl ?_ | refine SW.st (st_load rfl (hb3.cell rfl)) rfl ?_))
    all_goals first | (exfalso; omega) | exact Post.ret1 rfl rfl ⟨_, rfl, hw, by simp [h1]⟩
  · by_cases h2 : r.Cpu = s.Cpu
    · by_cases h3 : r.Zone < s.Zone
      · rw [decide_eq_true (key.2 (by omega))]
        repeat' (first | (show CW _ _ _ _ _ _; first | refine CW.seq ?_ | refine CW.region ?_ | refine CW.condn_t rfl (by omega) ?_ | refine CW.condn_f rfl (by omega) ?_ | refine CW.skip ?_ | refine CW.ret ?_) | (show Post _ _ _ _ _; first | refine Post.seq ?_ | refine Post.seq_ret ?_) | refine SW.nil ?_ | refine SW.pure rfl rfl ?_ | (show SW _ _ _ _ (⟨_, Op.fieldAddr _ _ _, _, _, _, none⟩ :: _) _ _; refine SW.st (st_field rfl) rfl ?_) | (show SW _ _ _ _ (⟨_, Op.load _ _, _, _, _, none⟩ :: _) _ _; first | refine SW.st (st_load rfl (hb2.cell rfl)) rfl ?_ | refine SW.st (st_load rfl (hb3.cell rfl)) rfl ?_))
        all_goals first | (exfalso; omega) | exact Post.ret1 rfl rfl ⟨_, rfl, hw, by simp [h3]⟩
      · by_cases h4 : r.Zone = s.Zone
        · by_cases h5 : r.Ty < s.Ty
          · rw [decide_eq_true (key.2 (by omega))]
            repeat' (first | (show CW _ _ _ _ _ _; first | refine CW.seq ?_ | refine CW.region ?_ | refine CW.condn_f rfl (by omega) ?_ | refine CW.skip ?_ | refine CW.ret ?_) | (show Post _ _ _ _ _; refine Post.seq ?_) | refine SW.nil ?_ | refine SW.pure rfl rfl ?_ | (show SW _ _ _ _ (⟨_, Op.fieldAddr _ _ _, _, _, _, none⟩ :: _) _ _; refine SW.st (st_field rfl) rfl ?_) | (show SW _ _ _ _ (⟨_, Op.load _ _, _, _, _, none⟩ :: _) _ _; first | refine SW.st (st_load rfl (hb2.cell rfl)) rfl ?_ | refine SW.st (st_load rfl (hb3.cell rfl)) rfl ?_))
            all_goals first | (exfalso; omega) | exact Post.ret1 rfl rfl ⟨_, rfl, hw, by simp [h5]⟩
          · rw [decide_eq_false (fun h => by have := key.1 h; omega)]
            repeat' (first | (show CW _ _ _ _ _ _; first | refine CW.seq ?_ | refine CW.region ?_ | refine CW.condn_f rfl (by omega) ?_ | refine CW.skip ?_ | refine CW.ret ?_) | (show Post _ _ _ _ _; refine Post.seq ?_) | refine SW.nil ?_ | refine SW.pure rfl rfl ?_ | (show SW _ _ _ _ (⟨_, Op.fieldAddr _ _ _, _, _, _, none⟩ :: _) _ _; refine SW.st (st_field rfl) rfl ?_) | (show SW _ _ _ _ (⟨_, Op.load _ _, _, _, _, none⟩ :: _) _ _; first | refine SW.st (st_load rfl (hb2.cell rfl)) rfl ?_ | refine SW.st (st_load rfl (hb3.cell rfl)) rfl ?_))
            all_goals first | (exfalso; omega) | exact Post.ret1 rfl rfl ⟨_, rfl, hw, by simp [h5]⟩
        · rw [decide_eq_false (fun h => by have := key.1 h; omega)]
          repeat' (first | (show CW _ _ _ _ _ _; first | refine CW.seq ?_ | refine CW.region ?_ | refine CW.condn_t rfl (by omega) ?_ | refine CW.condn_f rfl (by omega) ?_ | refine CW.skip ?_ | refine CW.ret ?_) | (show Post _ _ _ _ _; first | refine Post.seq ?_ | refine Post.seq_ret ?_) | refine SW.nil ?_ | refine SW.pure rfl rfl ?_ | (show SW _ _ _ _ (⟨_, Op.fieldAddr _ _ _, _, _, _, none⟩ :: _) _ _; refine SW.st (st_field rfl) rfl ?_) | (show SW _ _ _ _ (⟨_, Op.load _ _, _, _, _, none⟩ :: _) _ _; first | refine SW.st (st_load rfl (hb2.cell rfl)) rfl ?_ | refine SW.st (st_load rfl (hb3.cell rfl)) rfl ?_))
          all_goals first | (exfalso; omega) | exact Post.ret1 rfl rfl ⟨_, rfl, hw, by simp [h3]⟩
    · rw [decide_eq_false (fun h => by have := key.1 h; omega)]
      repeat' (first | (show CW _ _ _ _ _ _; first | refine CW.seq ?_ | refine CW.region ?_ | refine CW.condn_t rfl (by omega) ?_ | refine CW.ret ?_) | (show Post _ _ _ _ _; first | refine Post.seq ?_ | refine Post.seq_ret ?_) | refine SW.nil ?_ | refine SW.pure rfl rfl ?_ | (show SW _ _ _ _ (⟨_, Op.fieldAddr _ _ _, _, _, _, none⟩ :: _) _ _; refine SW.st (st_field rfl) rfl ?_) | (show SW _ _ _ _ (⟨_, Op.load _ _, _, _, _, none⟩ :: _) _ _; first | refine SW.st (st_load rfl (hb2.cell rfl)) rfl ?_ | refine SW.st (st_load rfl (hb3.cell rfl)) rfl ?_))
      all_goals first | (exfalso; omega) | exact Post.ret1 rfl rfl ⟨_, rfl, hw, by simp [h1]⟩


theorem aheadL_ans (r s : LRow) (a b : PList) (w : World) (ha : r.Cpu = a.Cpu ∧ r.Zone = a.Zone ∧ r.Ty = a.Ty) (hb : s.Cpu = b.Cpu ∧ s.Zone = b.Zone ∧ s.Ty = b.Ty) :
    Ans Try.prog 100 [.agg (encL r).toArray, .agg (encL s).toArray] w fun v _ => v = .bool (decide (aheadL a b)) := by
  refine ans_of Try.func100 rfl Try.ntmps100 rfl ?_
  refine CW.seq (CW.region (SW.box rfl rfl fun b2 w1 hw hb2b hb2 => ?_))
  refine SW.box rfl rfl fun b3 w2 hw2 hb3b hb3 => ?_
  (replace hw := Ext.trans hw hw2; replace hb2 := hb2.ext hw2)
  obtain ⟨a1, a2, a3⟩ := ha
  obtain ⟨b1, b2', b3'⟩ := hb
  have key : aheadL a b ↔ (r.Cpu < s.Cpu ∨ (r.Cpu = s.Cpu ∧ (r.Zone < s.Zone ∨ (r.Zone = s.Zone ∧ r.Ty < s.Ty)))) := by unfold aheadL; rw [a1, a2, a3, b1, b2', b3']
  by_cases h1 : r.Cpu < s.Cpu
  · rw [decide_eq_true (key.2 (by omega))]
    repeat' (first | (show CW _ _ _ _ _ _; first | refine CW.seq ?_ | refine CW.region ?_ | refine CW.ret ?_) | (show Post _ _ _ _ _; refine Post.seq ?_) | refine SW.nil ?_ | (show SW _ _ _ _ (⟨_, _, _, _, _, some _⟩ :: _) _ _; first | refine SW.skip_f rfl rfl (by with_reducible rfl) rfl ?_ | refine SW.skip_u rfl rfl (by with_reducible rfl) rfl ?_ | refine SW.splitd_t rfl rfl rfl (by omega) ?_) | refine SW.pure rfl rfl ?_ | (show SW _ _ _ _ (⟨_, Op.fieldAddr _ _ _, _, _, _, none⟩ :: _) _ _; refine SW.st (st_field rfl) rfl ?_) | (show SW _ _ _ _ (⟨_, Op.load _ _, _, _, _, none⟩ :: _) _ _; first | refine SW.st (st_load rfl (hb2.cell rfl)) rfl ?_ | refine SW.st (st_load rfl (hb3.cell rfl)) rfl ?_))
    all_goals first | (exfalso; omega) | exact Post.ret1 rfl rfl ⟨_, rfl, hw, by simp [h1]⟩
  · by_cases h2 : r.Cpu = s.Cpu
    · by_cases h3 : r.Zone < s.Zone
      · rw [decide_eq_true (key.2 (by omega))]
        repeat' (first | (show CW _ _ _ _ _ _; first | refine CW.seq ?_ | refine CW.region ?_ | refine CW.ret ?_) | (show Post _ _ _ _ _; refine Post.seq ?_) | refine SW.nil ?_ | (show SW _ _ _ _ (⟨_, _, _, _, _, some _⟩ :: _) _ _; first | refine SW.want_t rfl rfl (by with_reducible rfl) ?_ | refine SW.want_f rfl rfl (by with_reducible rfl) ?_ | refine SW.skip_f rfl rfl (by with_reducible rfl) rfl ?_ | refine SW.skip_u rfl rfl (by with_reducible rfl) rfl ?_ | refine SW.splitd_t rfl rfl rfl (by omega) ?_ | refine SW.splitd_f rfl rfl rfl (by omega) ?_) | refine SW.pure rfl rfl ?_ | (show SW _ _ _ _ (⟨_, Op.fieldAddr _ _ _, _, _, _, none⟩ :: _) _ _; refine SW.st (st_field rfl) rfl ?_) | (show SW _ _ _ _ (⟨_, Op.load _ _, _, _, _, none⟩ :: _) _ _; first | refine SW.st (st_load rfl (hb2.cell rfl)) rfl ?_ | refine SW.st (st_load rfl (hb3.cell rfl)) rfl ?_))
        all_goals first | (exfalso; omega) | exact Post.ret1 rfl rfl ⟨_, rfl, hw, by simp [h3]⟩
      · by_cases h4 : r.Zone = s.Zone
        · by_cases h5 : r.Ty < s.Ty
          · rw [decide_eq_true (key.2 (by omega))]
            repeat' (first | (show CW _ _ _ _ _ _; first | refine CW.seq ?_ | refine CW.region ?_ | refine CW.ret ?_) | (show Post _ _ _ _ _; refine Post.seq ?_) | refine SW.nil ?_ | (show SW _ _ _ _ (⟨_, _, _, _, _, some _⟩ :: _) _ _; first | refine SW.want_t rfl rfl (by with_reducible rfl) ?_ | refine SW.want_f rfl rfl (by with_reducible rfl) ?_ | refine SW.splitd_t rfl rfl rfl (by omega) ?_ | refine SW.splitd_f rfl rfl rfl (by omega) ?_) | refine SW.pure rfl rfl ?_ | (show SW _ _ _ _ (⟨_, Op.fieldAddr _ _ _, _, _, _, none⟩ :: _) _ _; refine SW.st (st_field rfl) rfl ?_) | (show SW _ _ _ _ (⟨_, Op.load _ _, _, _, _, none⟩ :: _) _ _; first | refine SW.st (st_load rfl (hb2.cell rfl)) rfl ?_ | refine SW.st (st_load rfl (hb3.cell rfl)) rfl ?_))
            all_goals first | (exfalso; omega) | exact Post.ret1 rfl rfl ⟨_, rfl, hw, by simp [h5]⟩
          · rw [decide_eq_false (fun h => by have := key.1 h; omega)]
            repeat' (first | (show CW _ _ _ _ _ _; first | refine CW.seq ?_ | refine CW.region ?_ | refine CW.ret ?_) | (show Post _ _ _ _ _; refine Post.seq ?_) | refine SW.nil ?_ | (show SW _ _ _ _ (⟨_, _, _, _, _, some _⟩ :: _) _ _; first | refine SW.want_t rfl rfl (by with_reducible rfl) ?_ | refine SW.want_f rfl rfl (by with_reducible rfl) ?_ | refine SW.splitd_t rfl rfl rfl (by omega) ?_ | refine SW.splitd_f rfl rfl rfl (by omega) ?_) | refine SW.pure rfl rfl ?_ | (show SW _ _ _ _ (⟨_, Op.fieldAddr _ _ _, _, _, _, none⟩ :: _) _ _; refine SW.st (st_field rfl) rfl ?_) | (show SW _ _ _ _ (⟨_, Op.load _ _, _, _, _, none⟩ :: _) _ _; first | refine SW.st (st_load rfl (hb2.cell rfl)) rfl ?_ | refine SW.st (st_load rfl (hb3.cell rfl)) rfl ?_))
            all_goals first | (exfalso; omega) | exact Post.ret1 rfl rfl ⟨_, rfl, hw, by simp [h5]⟩
        · rw [decide_eq_false (fun h => by have := key.1 h; omega)]
          repeat' (first | (show CW _ _ _ _ _ _; first | refine CW.seq ?_ | refine CW.region ?_ | refine CW.ret ?_) | (show Post _ _ _ _ _; refine Post.seq ?_) | refine SW.nil ?_ | (show SW _ _ _ _ (⟨_, _, _, _, _, some _⟩ :: _) _ _; first | refine SW.want_t rfl rfl (by with_reducible rfl) ?_ | refine SW.want_f rfl rfl (by with_reducible rfl) ?_ | refine SW.skip_t rfl rfl (by with_reducible rfl) rfl ?_ | refine SW.splitd_t rfl rfl rfl (by omega) ?_ | refine SW.splitd_f rfl rfl rfl (by omega) ?_) | refine SW.pure rfl rfl ?_ | (show SW _ _ _ _ (⟨_, Op.fieldAddr _ _ _, _, _, _, none⟩ :: _) _ _; refine SW.st (st_field rfl) rfl ?_) | (show SW _ _ _ _ (⟨_, Op.load _ _, _, _, _, none⟩ :: _) _ _; first | refine SW.st (st_load rfl (hb2.cell rfl)) rfl ?_ | refine SW.st (st_load rfl (hb3.cell rfl)) rfl ?_))
          all_goals first | (exfalso; omega) | exact Post.ret1 rfl rfl ⟨_, rfl, hw, by simp [h3]⟩
    · rw [decide_eq_false (fun h => by have := key.1 h; omega)]
      repeat' (first | (show CW _ _ _ _ _ _; first | refine CW.seq ?_ | refine CW.region ?_ | refine CW.ret ?_) | (show Post _ _ _ _ _; refine Post.seq ?_) | refine SW.nil ?_ | (show SW _ _ _ _ (⟨_, _, _, _, _, some _⟩ :: _) _ _; first | refine SW.want_f rfl rfl (by with_reducible rfl) ?_ | refine SW.skip_t rfl rfl (by with_reducible rfl) rfl ?_ | refine SW.skip_u rfl rfl (by with_reducible rfl) rfl ?_ | refine SW.splitd_f rfl rfl rfl (by omega) ?_) | refine SW.pure rfl rfl ?_ | (show SW _ _ _ _ (⟨_, Op.fieldAddr _ _ _, _, _, _, none⟩ :: _) _ _; refine SW.st (st_field rfl) rfl ?_) | (show SW _ _ _ _ (⟨_, Op.load _ _, _, _, _, none⟩ :: _) _ _; first | refine SW.st (st_load rfl (hb2.cell rfl)) rfl ?_ | refine SW.st (st_load rfl (hb3.cell rfl)) rfl ?_))
      all_goals first | (exfalso; omega) | exact Post.ret1 rfl rfl ⟨_, rfl, hw, by simp [h1]⟩


/-- the rows of a heap of two zones -/
structure RdH2 (w : World) (r : HRow) (h : Heap) (r0 r1 : ZRow) (z0 z1 : Zone) : Prop where
  rd : RdH w r h
  eq : h.Zones = [z0, z1]
  n : r.Zones.n = 2
  row : Sl w 4 encZ r.Zones.A r.Zones.n [r0, r1]
  z0 : RdZ w r0 z0
  z1 : RdZ w r1 z1
theorem RdH2.ext {w w' : World} {r : HRow} {h : Heap} {r0 r1 : ZRow} {z0 z1 : Zone} (a : RdH2 w r h r0 r1 z0 z1) (hx : Ext w w') : RdH2 w' r h r0 r1 z0 z1 :=
  ⟨a.rd.ext hx, a.eq, a.n, a.row.ext hx, a.z0.ext hx, a.z1.ext hx⟩
theorem RdH2.c0 {w : World} {r : HRow} {h : Heap} {r0 r1 : ZRow} {z0 z1 : Zone} (a : RdH2 w r h r0 r1 z0 z1) (j : Nat) (u : Value) (hu : (encZ r0)[j]? = some u) : w.cell? (((r.Zones.A.getD default).add (0 * 4)).add j) = some u := a.row.cell 0 (by simp) j u hu
theorem RdH2.c1 {w : World} {r : HRow} {h : Heap} {r0 r1 : ZRow} {z0 z1 : Zone} (a : RdH2 w r h r0 r1 z0 z1) (j : Nat) (u : Value) (hu : (encZ r1)[j]? = some u) : w.cell? (((r.Zones.A.getD default).add (1 * 4)).add j) = some u := a.row.cell 1 (by simp) j u hu
theorem two_of {α : Type} {l : List α} (h : l.length = 2) : ∃ a b, l = [a, b] := by
  match l, h with
  | [a, b], _ => exact ⟨a, b, rfl⟩
theorem RdH.two {w : World} {r : HRow} {h : Heap} (a : RdH w r h) (hl : h.Zones.length = 2) : ∃ r0 r1 z0 z1, RdH2 w r h r0 r1 z0 z1 := by
  obtain ⟨zs, hz⟩ := a.zones
  obtain ⟨z0, z1, e1⟩ := two_of hl
  have l0 := hz.each.len
  obtain ⟨r0, r1, e2⟩ := two_of (show zs.length = 2 by omega)
  subst e2
  have l1 := hz.row.len
  have h0 := hz.each.get 0 (by simp) (by omega)
  have h1 := hz.each.get 1 (by simp) (by omega)
  simp only [e1] at h0 h1
  exact ⟨r0, r1, z0, z1, a, e1, by simpa using l1.symm, hz.row, h0, h1⟩

theorem Pzone_ans (r : HRow) (h : Heap) (r0 r1 : ZRow) (z0 z1 : Zone) (x : Int) (w : World) (hr : RdH2 w r h r0 r1 z0 z1) :
    Ans Try.prog 127 [.agg (encH r).toArray, .int .i64 x] w fun v _ => v = .int .i64 (if x < z0.To then 0 else 1) := by
  refine ans_of Try.func127 rfl Try.ntmps127 rfl ?_
  refine CW.seq (CW.region (SW.box rfl rfl fun b2 w1 hw hb2b hb2 => ?_))
  have hn := hr.n
  have hA := hr.row.base
  have e1 := hr.z0.to_
  by_cases hx : x < z0.To
  · rw [if_pos hx]
    repeat' (first | (show CW _ _ _ _ _ _; first | refine CW.seq ?_ | refine CW.region ?_ | refine CW.condd_t rfl (by omega) ?_ | refine CW.ret ?_) | (show Post _ _ _ _ _; first | refine Post.seq ?_ | refine Post.seq_ret ?_) | refine SW.nil ?_ | refine SW.pure rfl rfl ?_ | (show SW _ _ _ _ (⟨_, Op.fieldAddr _ _ _, _, _, _, none⟩ :: _) _ _; refine SW.st (st_field rfl) rfl ?_) | (show SW _ _ _ _ (⟨_, Op.indexAddr _ _ _, _, _, _, none⟩ :: _) _ _; refine SW.st (st_indexI (0) rfl rfl (by assumption) (by omega) (by omega)) rfl ?_) | (show SW _ _ _ _ (⟨_, Op.load _ _, _, _, _, none⟩ :: _) _ _; first | refine SW.st (st_load rfl (hb2.cell rfl)) rfl ?_ | refine SW.st (st_loadx hw rfl (hr.c0 1 _ rfl)) rfl ?_))
    exact Post.ret1 rfl rfl ⟨_, rfl, hw, rfl⟩
  · rw [if_neg hx]
    repeat' (first | (show CW _ _ _ _ _ _; first | refine CW.seq ?_ | refine CW.region ?_ | refine CW.condd_f rfl (by omega) ?_ | refine CW.skip ?_ | refine CW.ret ?_) | (show Post _ _ _ _ _; refine Post.seq ?_) | refine SW.nil ?_ | refine SW.pure rfl rfl ?_ | (show SW _ _ _ _ (⟨_, Op.fieldAddr _ _ _, _, _, _, none⟩ :: _) _ _; refine SW.st (st_field rfl) rfl ?_) | (show SW _ _ _ _ (⟨_, Op.indexAddr _ _ _, _, _, _, none⟩ :: _) _ _; refine SW.st (st_indexI (0) rfl rfl (by assumption) (by omega) (by omega)) rfl ?_) | (show SW _ _ _ _ (⟨_, Op.load _ _, _, _, _, none⟩ :: _) _ _; first | refine SW.st (st_load rfl (hb2.cell rfl)) rfl ?_ | refine SW.st (st_loadx hw rfl (hr.c0 1 _ rfl)) rfl ?_))
    exact Post.ret1 rfl rfl ⟨_, rfl, hw, rfl⟩
end Go.Proofs.Ytfdmgflboibdoaa
