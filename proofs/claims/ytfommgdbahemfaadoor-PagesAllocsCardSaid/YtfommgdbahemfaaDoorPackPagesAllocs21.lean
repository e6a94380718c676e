/-
  Texts of the claim PagesAllocs, part 21: what its theorem leans on.
-/
import Derived.Test.YtfommgdbahemfaaDoorPackPagesAllocs13
import Derived.Test.YtfommgdbahemfaaDoorPackPagesAllocs18
set_option linter.unusedVariables false
set_option linter.unusedSimpArgs false
namespace Go.Proofs.YtfommgdbahemfaaDoor
open Go.RowKit
structure EachL (w : World) (lo : Nat) (R : List LRow) (L : List PList) : Prop where
 each : All2 (OwnL w lo) R L
section
variable {w w' : World} {lo t : Nat} {R : List LRow} {L : List PList} {y : LRow} {x : PList}
theorem EachL.ext (h : EachL w lo R L) (hx : Ext w w') : EachL w' lo R L := ⟨h.each.mono fun _ _ h => h.ext hx⟩
theorem EachL.grT (h : EachL w lo R L) (hG : GrT w w' t) (hne : Nat.beq t 3 = false) : EachL w' lo R L := ⟨h.each.mono fun _ _ h => h.grT hG hne⟩
theorem EachL.nil (w : World) (lo : Nat) : EachL w lo [] [] := ⟨All2.nil⟩
theorem EachL.snoc (h : EachL w lo R L) (hr : OwnL w lo y x) : EachL w lo (R ++ [y]) (L ++ [x]) := ⟨h.each.snoc hr⟩
end
set_option maxHeartbeats 16000000 in
theorem setList_ans (r : HRow) (L : List PList) (ls : List LRow) (x : PList) (y : LRow) (lo : Nat) (w : World) (hl : OwnLs w lo r.Lists ls L) (hy : OwnL w lo y x) (hs : LsS L) (hlo : lo ≤ w.heap.size) (hne : 0 < y.Pages.n) (hn : (r.Lists.n + 1) * 48 ≤ 140737488355328) :
  Ans Tryd.prog 99 [.agg (encH r).toArray, .int .i64 y.Cpu, .int .i64 y.Zone, .int .i64 y.Ty, .slice y.Pages.A y.Pages.n y.Pages.c] w fun v w' => ∃ s R, v = .agg (encH ⟨r.Zones, r.Mins, r.Cpus, s, r.Live⟩).toArray ∧ OwnLs w' lo s R (setL L x) := by
 refine ans_of Tryd.func99 rfl Tryd.ntmps99 rfl ?_
 refine CW.seq (CW.region (SW.box rfl rfl fun b5 w1 hw hb5b hb5 => ?_))
 have hb5w := hb5b
 refine SW.alloc rfl fun b10 w2 hw2 hb10b hb10 => ?_
 have hb10w : w.heap.size ≤ b10 := Nat.le_trans hw.size hb10b
 have hne510 : b5 ≠ b10 := by have := hb5.lt; omega
 (replace hw := Ext.trans hw hw2; replace hb5 := hb5.ext hw2)
 obtain ⟨l1, l2⟩ := hl.rd.len
 have hA := hl.row.sl.base
 have y1 := hy.cpu
 have y2 := hy.zone
 have y3 := hy.ty
 repeat' (first | (show CW _ _ _ _ _ _; first | refine CW.seq ?_ | refine CW.region ?_) | (show Post _ _ _ _ _; refine Post.seq ?_) | refine SW.nil ?_ | refine SW.pure rfl rfl ?_ | (show SW _ _ _ _ (⟨_, Op.build _ _, _, _, _, none⟩ :: _) _ _; refine SW.st (st_build rfl rfl) rfl ?_))
 refine SW.alloc rfl fun b11 w1 hw1 hb11b hb11 => ?_
 skip
 refine SW.storeAgg hb11 rfl rfl rfl rfl (one_l y) fun w2 hb11' hg => ?_
 have hXX := hw1.own hb11b hg
 have hb11w : w.heap.size ≤ b11 := Nat.le_trans hw.size hb11b
 replace hw := Ext.trans hw hXX
 replace hb5 := hb5.ext hXX
 replace hb10 := hb10.ext hXX
 replace hb11 := hb11'
 clear hb11' hw1 hg hXX
 repeat' (first | (show CW _ _ _ _ _ _; first | refine CW.seq ?_ | refine CW.region ?_ | refine CW.block ?_) | (show Post _ _ _ _ _; refine Post.seq ?_) | refine SW.nil ?_ | refine SW.pure rfl rfl ?_ | (show SW _ _ _ _ (⟨_, Op.call ⟨.builtin .len, _, _⟩, _, _, _, none⟩ :: _) _ _; refine SW.st (st_len rfl) rfl ?_))
 have hkl := kpos_le L x
 replace hb11 : Blk w2 b11 84 (encL y) := hb11
 have z0 : (setPre L x 0).length = 0 := by simp [setPre]
 have q0 : decide (kpos L x < 0) = decide ((y.Pages.n : Int) = 0) := by rw [decide_eq_false (by omega), decide_eq_false (by omega)]
 refine CW.loop (fun t : Nat × Option Addr × Nat × List LRow => [(1, .int .i64 y.Cpu), (2, .int .i64 y.Zone), (3, .int .i64 y.Ty), (5, .pointer (some ⟨b5, 0, none⟩)), (10, .pointer (some ⟨b10, 0, none⟩)), (11, .pointer (some ⟨b11, 0, none⟩)), (12, .slice t.2.1 (setPre L x t.1).length t.2.2.1), (13, .bool (decide (kpos L x < t.1))), (14, .int .i64 (t.1 : Int))])
  (fun t w' => t.1 ≤ r.Lists.n ∧ Ext w w' ∧ Blk w' b5 35 (encH r) ∧ Blk w' b10 35 (encH .zero) ∧ Blk w' b11 84 (encL y) ∧ Own w' (b11 + 1) 84 4 encL t.2.1 (setPre L x t.1).length t.2.2.1 t.2.2.2 ∧ EachL w' lo t.2.2.2 (setPre L x t.1)) (fun t => r.Lists.n - t.1) (0, none, 0, [])
  ⟨rfl, rfl, rfl, rfl, rfl, rfl, by simp only; rw [z0]; rfl, by simp only; rw [q0]; rfl, rfl, trivial⟩ ⟨by omega, hw, hb5, hb10, hb11, by simpa [setPre] using Own.nil_ _ _ _ _ _ _, by simpa [setPre] using EachL.nil _ _⟩ ?_
 clear hw hb5 hb10 hb11
 rintro ⟨i, A, c, R⟩ w' ⟨hi, hw, hb5, hb10, hb11, hO, hE⟩
 simp only at hi hO hE ⊢
 have hlen : (setPre L x i).length ≤ i + 1 := by
  unfold setPre
  split
  ·simp; omega
  ·split <;> simp <;> omega
 have hlen2 : i ≤ kpos L x → (setPre L x i).length ≤ i := fun h => by rw [setPre, if_pos h]; simp; omega
 have hbA : ∀ m : Nat, m ≤ r.Lists.n → (m + 1) * 48 ≤ 140737488355328 ∧ m + 1 ≤ 9223372036854775807 := fun m hm => by omega
 by_cases hin : i < r.Lists.n
 ·have hq1 : (setPre L x i).length ≤ r.Lists.n := by omega
  have hil : i < L.length := by omega
  have hils : i < ls.length := by omega
  have hrd := hl.each.get i hils hil
  have e1 := hrd.cpu
  have e2 := hrd.zone
  have e3 := hrd.ty
  have g0 := hl.row.sl.fld hin (j := 0) (u := .int .i64 ls[i].Cpu) rfl
  have g1 := hl.row.sl.fld hin (j := 1) (u := .int .i64 ls[i].Zone) rfl
  have g2 := hl.row.sl.fld hin (j := 2) (u := .int .i64 ls[i].Ty) rfl
  obtain ⟨p, hp⟩ : ∃ p, decide (aheadL x L[i]) = p := ⟨_, rfl⟩
  have cA : ∀ w', Ans Tryd.prog 96 [.agg (encL y).toArray, .agg (encL ls[i]).toArray] w' fun v _ => v = .bool p := fun w' => by
   have := aheadL_ans y ls[i] x L[i] w' ⟨y1, y2, y3⟩ hrd.rd.key
   rwa [hp] at this
  rcases Nat.lt_trichotomy i (kpos L x) with hk | hk | hk
  ·have ha := kpos_below hk
   have hpf : p = false := by rw [← hp]; exact decide_eq_false (ahead_not ha).2.2
   subst hpf
   have hke : ¬ (ls[i].Cpu = y.Cpu ∧ ls[i].Zone = y.Zone ∧ ls[i].Ty = y.Ty) := by have := (ahead_not ha).1; unfold keyEq at this; omega
   have ee := setPre_low hk
   have el : (setPre L x (i + 1)).length = (setPre L x i).length + 1 := by rw [ee]; simp
   have d0 : decide (kpos L x < i) = false := decide_eq_false (by omega)
   have d1 : decide (kpos L x < i + 1) = false := decide_eq_false (by omega)
   rw [d0]
   repeat' (first | (show CW _ _ _ _ _ _; first | refine CW.seq ?_ | refine CW.region ?_ | refine CW.block ?_ | refine CW.condfr rfl (by with_reducible rfl) ?_ | refine CW.condd_t rfl (by omega) ?_ | refine CW.condd_f rfl (by omega) ?_ | refine CW.skip ?_ | (apply CW.quiet1 mixed; (· kernel_rfl); rotate_left; intro w1 hw1; replace hw := Ext.trans hw hw1; replace hb5 := hb5.ext hw1; replace hb10 := hb10.ext hw1; replace hb11 := hb11.ext hw1; replace hO := hO.ext hw1; replace hE := hE.ext hw1; clear hw1; rotate_right)) | (show Post _ _ _ _ _; refine Post.seq ?_) | refine SW.nil ?_ | (show SW _ _ _ _ (⟨_, _, _, _, _, some _⟩ :: _) _ _; first | refine SW.want_t rfl rfl (by with_reducible rfl) ?_ | refine SW.skip_t rfl rfl (by with_reducible rfl) rfl ?_ | refine SW.splitd rfl rfl rfl (fun h => ?_) (fun h => ?_) | refine SW.want rfl rfl ?_) | refine SW.pure rfl rfl ?_ | (show SW _ _ _ _ (⟨_, Op.fieldAddr _ _ _, _, _, _, none⟩ :: _) _ _; refine SW.st (st_field rfl) rfl ?_) | (show SW _ _ _ _ (⟨_, Op.indexAddr _ _ _, _, _, _, none⟩ :: _) _ _; refine SW.st (st_indexN rfl rfl (by assumption) (by omega)) rfl ?_) | (show SW _ _ _ _ (⟨_, Op.call ⟨.builtin .len, _, _⟩, _, _, _, none⟩ :: _) _ _; refine SW.st (st_len rfl) rfl ?_) | (show SW _ _ _ _ (⟨_, Op.load _ _, _, _, _, none⟩ :: _) _ _; first | refine SW.st (st_load rfl (hb5.cell (i := 3) (v := .slice r.Lists.A r.Lists.n r.Lists.c) rfl)) rfl ?_ | refine SW.st (st_loadx hw rfl g0) rfl ?_ | refine SW.st (st_loadx hw rfl g1) rfl ?_ | refine SW.st (st_loadx hw rfl g2) rfl ?_ | refine SW.st (st_loadsx hw rfl rfl ((hl.row.sl.all hin))) rfl ?_ | refine SW.st (st_loads rfl rfl ((fun _ _ => hb11.cell))) rfl ?_) | (show SW _ _ _ _ (⟨_, Op.call ⟨.value (.func _), _, _⟩, _, _, _, none⟩ :: _) _ _; refine SW.qcall rfl rfl (fun w1 hw1 => (cA _)) ?_) | exact SW.qnil rfl)
   all_goals first | (exfalso; omega) | skip
   all_goals
    refine SW.build1 rfl rfl rfl rfl rfl fun b w4 hXX hb hB => ?_
    (replace hw := Ext.trans hw hXX; replace hb5 := hb5.ext hXX; replace hb10 := hb10.ext hXX; replace hb11 := hb11.ext hXX; replace hO := hO.ext hXX; replace hE := hE.ext hXX)
    refine SW.append hO (Blk.sl1 (enc := encL) (x := ls[i]) hB) hb11.lt rfl rfl rfl (hbA _ hq1).1 (hbA _ hq1).2 fun A2 c2 w5 hO1 hg => ?_
    have hG := hO.gr hg
    replace hw := ext_grown hw hg (Nat.le_trans hb11w (Nat.le_succ _)) hO.row_ge
    replace hb11 := hb11.grown hg (fun e => Nat.not_succ_le_self _ (hO.row_ge b11 e.symm))
    (replace hb5 := hb5.grT hG rfl; replace hb10 := hb10.grT hG rfl; replace hE := hE.grT hG rfl)
    repeat' (first | (show CW _ _ _ _ _ _; refine CW.region ?_) | (show Post _ _ _ _ _; first | refine Post.seq ?_ | refine Post.blk ?_) | refine SW.nil ?_ | refine SW.pure rfl rfl ?_ | (show SW _ _ _ _ (⟨_, Op.binOp _ _ _ _ _, _, _, _, none⟩ :: _) _ _; refine SW.st (st_add rfl rfl (by omega) (by omega)) rfl ?_))
    refine Post.again (i + 1, A2, c2, R ++ [ls[i]]) ⟨rfl, rfl, rfl, rfl, rfl, rfl, by simp only; rw [el]; rfl, by simp only; rw [d1]; rfl, rfl, trivial⟩ (by simp only; omega) ⟨by simp only; omega, hw, hb5, hb10, hb11, by simp only; rw [el]; exact hO1, ?_⟩
    simp only
    rw [ee]
    exact hE.snoc ((hl.each.get i hils hil).ext hw)
  ·have eh : ∃ q, khere L x = q := ⟨_, rfl⟩
   obtain ⟨q, hq⟩ := eh
   have d0 : decide (kpos L x < i) = false := decide_eq_false (by omega)
   have d1 : decide (kpos L x < i + 1) = true := decide_eq_true (by omega)
   have hq2 : (setPre L x i).length + 1 ≤ r.Lists.n := by have := hlen2 (by omega); omega
   rw [d0]
   cases q
   ·have ha : aheadL x L[i] := by
     have := khere_f hq (by omega)
     simpa only [← hk] using this
    have hpf : p = true := by rw [← hp]; exact decide_eq_true ha
    subst hpf
    have hke : ¬ (ls[i].Cpu = y.Cpu ∧ ls[i].Zone = y.Zone ∧ ls[i].Ty = y.Ty) := by have := (ahead_not ha).2.1; unfold keyEq at this; omega
    have ee := setPre_in hk hil hq
    have el : (setPre L x (i + 1)).length = (setPre L x i).length + 1 + 1 := by rw [ee]; simp
    repeat' (first | (show CW _ _ _ _ _ _; first | refine CW.seq ?_ | refine CW.region ?_ | refine CW.block ?_ | refine CW.condtr rfl (by with_reducible rfl) ?_ | refine CW.condd_t rfl (by omega) ?_ | refine CW.skip ?_ | (apply CW.quiet1 mixed; (· kernel_rfl); rotate_left; intro w1 hw1; replace hw := Ext.trans hw hw1; replace hb5 := hb5.ext hw1; replace hb10 := hb10.ext hw1; replace hb11 := hb11.ext hw1; replace hO := hO.ext hw1; replace hE := hE.ext hw1; clear hw1; rotate_right)) | (show Post _ _ _ _ _; refine Post.seq ?_) | refine SW.nil ?_ | (show SW _ _ _ _ (⟨_, _, _, _, _, some _⟩ :: _) _ _; refine SW.want rfl rfl ?_) | refine SW.pure rfl rfl ?_ | (show SW _ _ _ _ (⟨_, Op.fieldAddr _ _ _, _, _, _, none⟩ :: _) _ _; refine SW.st (st_field rfl) rfl ?_) | (show SW _ _ _ _ (⟨_, Op.indexAddr _ _ _, _, _, _, none⟩ :: _) _ _; refine SW.st (st_indexN rfl rfl (by assumption) (by omega)) rfl ?_) | (show SW _ _ _ _ (⟨_, Op.call ⟨.builtin .len, _, _⟩, _, _, _, none⟩ :: _) _ _; refine SW.st (st_len rfl) rfl ?_) | (show SW _ _ _ _ (⟨_, Op.load _ _, _, _, _, none⟩ :: _) _ _; first | refine SW.st (st_load rfl (hb5.cell (i := 3) (v := .slice r.Lists.A r.Lists.n r.Lists.c) rfl)) rfl ?_ | refine SW.st (st_loadsx hw rfl rfl ((hl.row.sl.all hin))) rfl ?_ | refine SW.st (st_loads rfl rfl ((fun _ _ => hb11.cell))) rfl ?_) | (show SW _ _ _ _ (⟨_, Op.call ⟨.value (.func _), _, _⟩, _, _, _, none⟩ :: _) _ _; refine SW.qcall rfl rfl (fun w1 hw1 => (cA _)) ?_) | exact SW.qnil rfl)
    refine SW.build1 rfl rfl rfl rfl rfl fun b w4 hXX hb hB => ?_
    (replace hw := Ext.trans hw hXX; replace hb5 := hb5.ext hXX; replace hb10 := hb10.ext hXX; replace hb11 := hb11.ext hXX; replace hO := hO.ext hXX; replace hE := hE.ext hXX)
    refine SW.append hO (Blk.sl1 (enc := encL) (x := y) hB) hb11.lt rfl rfl rfl (hbA _ hq1).1 (hbA _ hq1).2 fun A2 c2 w5 hO1 hg => ?_
    have hG := hO.gr hg
    replace hw := ext_grown hw hg (Nat.le_trans hb11w (Nat.le_succ _)) hO.row_ge
    replace hb11 := hb11.grown hg (fun e => Nat.not_succ_le_self _ (hO.row_ge b11 e.symm))
    (replace hb5 := hb5.grT hG rfl; replace hb10 := hb10.grT hG rfl; replace hE := hE.grT hG rfl)
    replace hE := hE.snoc (hy.ext hw)
    replace hO := hO1
    clear hO1
    repeat' (first | (show CW _ _ _ _ _ _; first | refine CW.seq ?_ | refine CW.region ?_ | refine CW.condfr rfl (by with_reducible rfl) ?_ | refine CW.condd_f rfl (by omega) ?_ | refine CW.skip ?_) | (show Post _ _ _ _ _; refine Post.seq ?_) | refine SW.nil ?_ | (show SW _ _ _ _ (⟨_, _, _, _, _, some _⟩ :: _) _ _; first | refine SW.want_t rfl rfl (by with_reducible rfl) ?_ | refine SW.skip_t rfl rfl (by with_reducible rfl) rfl ?_ | refine SW.splitd rfl rfl rfl (fun h => ?_) (fun h => ?_)) | refine SW.pure rfl rfl ?_ | (show SW _ _ _ _ (⟨_, Op.fieldAddr _ _ _, _, _, _, none⟩ :: _) _ _; refine SW.st (st_field rfl) rfl ?_) | (show SW _ _ _ _ (⟨_, Op.indexAddr _ _ _, _, _, _, none⟩ :: _) _ _; refine SW.st (st_indexN rfl rfl (by assumption) (by omega)) rfl ?_) | (show SW _ _ _ _ (⟨_, Op.load _ _, _, _, _, none⟩ :: _) _ _; first | refine SW.st (st_load rfl (hb5.cell (i := 3) (v := .slice r.Lists.A r.Lists.n r.Lists.c) rfl)) rfl ?_ | refine SW.st (st_loadx hw rfl g0) rfl ?_ | refine SW.st (st_loadx hw rfl g1) rfl ?_ | refine SW.st (st_loadx hw rfl g2) rfl ?_ | refine SW.st (st_loadsx hw rfl rfl ((hl.row.sl.all hin))) rfl ?_))
    all_goals first | (exfalso; omega) | skip
    all_goals
     refine SW.build1 rfl rfl rfl rfl rfl fun b w4 hXX hb hB => ?_
     (replace hw := Ext.trans hw hXX; replace hb5 := hb5.ext hXX; replace hb10 := hb10.ext hXX; replace hb11 := hb11.ext hXX; replace hO := hO.ext hXX; replace hE := hE.ext hXX)
     refine SW.append hO (Blk.sl1 (enc := encL) (x := ls[i]) hB) hb11.lt rfl rfl rfl (hbA _ hq2).1 (hbA _ hq2).2 fun A2 c2 w5 hO2 hg => ?_
     have hG := hO.gr hg
     replace hw := ext_grown hw hg (Nat.le_trans hb11w (Nat.le_succ _)) hO.row_ge
     replace hb11 := hb11.grown hg (fun e => Nat.not_succ_le_self _ (hO.row_ge b11 e.symm))
     (replace hb5 := hb5.grT hG rfl; replace hb10 := hb10.grT hG rfl; replace hE := hE.grT hG rfl)
     repeat' (first | (show CW _ _ _ _ _ _; refine CW.region ?_) | (show Post _ _ _ _ _; first | refine Post.seq ?_ | refine Post.blk ?_) | refine SW.nil ?_ | refine SW.pure rfl rfl ?_ | (show SW _ _ _ _ (⟨_, Op.binOp _ _ _ _ _, _, _, _, none⟩ :: _) _ _; refine SW.st (st_add rfl rfl (by omega) (by omega)) rfl ?_))
     refine Post.again (i + 1, A2, c2, R ++ [y] ++ [ls[i]]) ⟨rfl, rfl, rfl, rfl, rfl, rfl, by simp only; rw [el]; rfl, by simp only; rw [d1]; rfl, rfl, trivial⟩ (by simp only; omega) ⟨by simp only; omega, hw, hb5, hb10, hb11, by simp only; rw [el]; exact hO2, ?_⟩
     simp only
     rw [ee]
     exact hE.snoc ((hl.each.get i hils hil).ext hw)
   ·obtain ⟨hkl', hkey⟩ := khere_t hq
    have hkey' : keyEq L[i] x := by simpa only [← hk] using hkey
    have hpf : p = false := by rw [← hp]; exact decide_eq_false (by unfold aheadL keyEq at *; omega)
    subst hpf
    obtain ⟨k1, k2, k3⟩ := id hkey'
    have ee := setPre_here hk hq
    have el : (setPre L x (i + 1)).length = (setPre L x i).length + 1 := by rw [ee]; simp
    repeat' (first | (show CW _ _ _ _ _ _; first | refine CW.seq ?_ | refine CW.region ?_ | refine CW.block ?_ | refine CW.condfr rfl (by with_reducible rfl) ?_ | refine CW.condd_t rfl (by omega) ?_ | refine CW.condt rfl ?_ | refine CW.skip ?_ | (apply CW.quiet1 mixed; (· kernel_rfl); rotate_left; intro w1 hw1; replace hw := Ext.trans hw hw1; replace hb5 := hb5.ext hw1; replace hb10 := hb10.ext hw1; replace hb11 := hb11.ext hw1; replace hO := hO.ext hw1; replace hE := hE.ext hw1; clear hw1; rotate_right)) | (show Post _ _ _ _ _; refine Post.seq ?_) | refine SW.nil ?_ | (show SW _ _ _ _ (⟨_, _, _, _, _, some _⟩ :: _) _ _; first | refine SW.want_t rfl rfl (by with_reducible rfl) ?_ | refine SW.splitd_t rfl rfl rfl (by omega) ?_ | refine SW.want rfl rfl ?_) | refine SW.pure rfl rfl ?_ | (show SW _ _ _ _ (⟨_, Op.fieldAddr _ _ _, _, _, _, none⟩ :: _) _ _; refine SW.st (st_field rfl) rfl ?_) | (show SW _ _ _ _ (⟨_, Op.indexAddr _ _ _, _, _, _, none⟩ :: _) _ _; refine SW.st (st_indexN rfl rfl (by assumption) (by omega)) rfl ?_) | (show SW _ _ _ _ (⟨_, Op.call ⟨.builtin .len, _, _⟩, _, _, _, none⟩ :: _) _ _; refine SW.st (st_len rfl) rfl ?_) | (show SW _ _ _ _ (⟨_, Op.load _ _, _, _, _, none⟩ :: _) _ _; first | refine SW.st (st_load rfl (hb5.cell (i := 3) (v := .slice r.Lists.A r.Lists.n r.Lists.c) rfl)) rfl ?_ | refine SW.st (st_loadx hw rfl g0) rfl ?_ | refine SW.st (st_loadx hw rfl g1) rfl ?_ | refine SW.st (st_loadx hw rfl g2) rfl ?_ | refine SW.st (st_loadsx hw rfl rfl ((hl.row.sl.all hin))) rfl ?_ | refine SW.st (st_loads rfl rfl ((fun _ _ => hb11.cell))) rfl ?_) | (show SW _ _ _ _ (⟨_, Op.call ⟨.value (.func _), _, _⟩, _, _, _, none⟩ :: _) _ _; refine SW.qcall rfl rfl (fun w1 hw1 => (cA _)) ?_) | exact SW.qnil rfl)
    all_goals first | (exfalso; omega) | skip
    refine SW.build1 rfl rfl rfl rfl rfl fun b w4 hXX hb hB => ?_
    (replace hw := Ext.trans hw hXX; replace hb5 := hb5.ext hXX; replace hb10 := hb10.ext hXX; replace hb11 := hb11.ext hXX; replace hO := hO.ext hXX; replace hE := hE.ext hXX)
    refine SW.append hO (Blk.sl1 (enc := encL) (x := y) hB) hb11.lt rfl rfl rfl (hbA _ hq1).1 (hbA _ hq1).2 fun A2 c2 w5 hO1 hg => ?_
    have hG := hO.gr hg
    replace hw := ext_grown hw hg (Nat.le_trans hb11w (Nat.le_succ _)) hO.row_ge
    replace hb11 := hb11.grown hg (fun e => Nat.not_succ_le_self _ (hO.row_ge b11 e.symm))
    (replace hb5 := hb5.grT hG rfl; replace hb10 := hb10.grT hG rfl; replace hE := hE.grT hG rfl)
    repeat' (first | (show CW _ _ _ _ _ _; first | refine CW.region ?_ | refine CW.exit ?_) | (show Post _ _ _ _ _; first | refine Post.seq ?_ | refine Post.seq_exit ?_ | refine Post.hit ?_) | refine SW.nil ?_ | refine SW.pure rfl rfl ?_ | (show SW _ _ _ _ (⟨_, Op.binOp _ _ _ _ _, _, _, _, none⟩ :: _) _ _; refine SW.st (st_add rfl rfl (by omega) (by omega)) rfl ?_))
    refine Post.again (i + 1, A2, c2, R ++ [y]) ⟨rfl, rfl, rfl, rfl, rfl, rfl, by simp only; rw [el]; rfl, by simp only; rw [d1]; rfl, rfl, trivial⟩ (by simp only; omega) ⟨by simp only; omega, hw, hb5, hb10, hb11, by simp only; rw [el]; exact hO1, ?_⟩
    simp only
    rw [ee]
    exact hE.snoc (hy.ext hw)
  ·have hkl2 : kpos L x < L.length := by omega
   have ha : aheadL x L[i] := by
    have h0 := hs.get hil hk
    have h1 := kpos_at hkl2
    unfold aheadL at *
    omega
   have hke : ¬ (ls[i].Cpu = y.Cpu ∧ ls[i].Zone = y.Zone ∧ ls[i].Ty = y.Ty) := by have := (ahead_not ha).2.1; unfold keyEq at this; omega
   have ee := setPre_high hk hil
   have el : (setPre L x (i + 1)).length = (setPre L x i).length + 1 := by rw [ee]; simp
   have d0 : decide (kpos L x < i) = true := decide_eq_true (by omega)
   have d1 : decide (kpos L x < i + 1) = true := decide_eq_true (by omega)
   rw [d0]
   repeat' (first | (show CW _ _ _ _ _ _; first | refine CW.seq ?_ | refine CW.region ?_ | refine CW.block ?_ | refine CW.condfr rfl (by with_reducible rfl) ?_ | refine CW.condd_t rfl (by omega) ?_ | refine CW.condd_f rfl (by omega) ?_ | refine CW.skip ?_ | (apply CW.quiet1 mixed; (· kernel_rfl); rotate_left; intro w1 hw1; replace hw := Ext.trans hw hw1; replace hb5 := hb5.ext hw1; replace hb10 := hb10.ext hw1; replace hb11 := hb11.ext hw1; replace hO := hO.ext hw1; replace hE := hE.ext hw1; clear hw1; rotate_right)) | (show Post _ _ _ _ _; refine Post.seq ?_) | refine SW.nil ?_ | (show SW _ _ _ _ (⟨_, _, _, _, _, some _⟩ :: _) _ _; first | refine SW.want_t rfl rfl (by with_reducible rfl) ?_ | refine SW.skip_t rfl rfl (by with_reducible rfl) rfl ?_ | refine SW.splitd rfl rfl rfl (fun h => ?_) (fun h => ?_) | refine SW.skip rfl rfl rfl rfl ?_) | refine SW.pure rfl rfl ?_ | (show SW _ _ _ _ (⟨_, Op.fieldAddr _ _ _, _, _, _, none⟩ :: _) _ _; refine SW.st (st_field rfl) rfl ?_) | (show SW _ _ _ _ (⟨_, Op.indexAddr _ _ _, _, _, _, none⟩ :: _) _ _; refine SW.st (st_indexN rfl rfl (by assumption) (by omega)) rfl ?_) | (show SW _ _ _ _ (⟨_, Op.call ⟨.builtin .len, _, _⟩, _, _, _, none⟩ :: _) _ _; refine SW.st (st_len rfl) rfl ?_) | (show SW _ _ _ _ (⟨_, Op.load _ _, _, _, _, none⟩ :: _) _ _; first | refine SW.st (st_load rfl (hb5.cell (i := 3) (v := .slice r.Lists.A r.Lists.n r.Lists.c) rfl)) rfl ?_ | refine SW.st (st_loadx hw rfl g0) rfl ?_ | refine SW.st (st_loadx hw rfl g1) rfl ?_ | refine SW.st (st_loadx hw rfl g2) rfl ?_ | refine SW.st (st_loadsx hw rfl rfl ((hl.row.sl.all hin))) rfl ?_) | exact SW.qnil rfl)
   all_goals first | (exfalso; omega) | skip
   all_goals
    refine SW.build1 rfl rfl rfl rfl rfl fun b w4 hXX hb hB => ?_
    (replace hw := Ext.trans hw hXX; replace hb5 := hb5.ext hXX; replace hb10 := hb10.ext hXX; replace hb11 := hb11.ext hXX; replace hO := hO.ext hXX; replace hE := hE.ext hXX)
    refine SW.append hO (Blk.sl1 (enc := encL) (x := ls[i]) hB) hb11.lt rfl rfl rfl (hbA _ hq1).1 (hbA _ hq1).2 fun A2 c2 w5 hO1 hg => ?_
    have hG := hO.gr hg
    replace hw := ext_grown hw hg (Nat.le_trans hb11w (Nat.le_succ _)) hO.row_ge
    replace hb11 := hb11.grown hg (fun e => Nat.not_succ_le_self _ (hO.row_ge b11 e.symm))
    (replace hb5 := hb5.grT hG rfl; replace hb10 := hb10.grT hG rfl; replace hE := hE.grT hG rfl)
    repeat' (first | (show CW _ _ _ _ _ _; refine CW.region ?_) | (show Post _ _ _ _ _; first | refine Post.seq ?_ | refine Post.blk ?_) | refine SW.nil ?_ | refine SW.pure rfl rfl ?_ | (show SW _ _ _ _ (⟨_, Op.binOp _ _ _ _ _, _, _, _, none⟩ :: _) _ _; refine SW.st (st_add rfl rfl (by omega) (by omega)) rfl ?_))
    refine Post.again (i + 1, A2, c2, R ++ [ls[i]]) ⟨rfl, rfl, rfl, rfl, rfl, rfl, by simp only; rw [el]; rfl, by simp only; rw [d1]; rfl, rfl, trivial⟩ (by simp only; omega) ⟨by simp only; omega, hw, hb5, hb10, hb11, by simp only; rw [el]; exact hO1, ?_⟩
    simp only
    rw [ee]
    exact hE.snoc ((hl.each.get i hils hil).ext hw)
 ·have ei : i = L.length := by omega
  subst ei
  by_cases hk : kpos L x < L.length
  ·have ee := setPre_done hk
   rw [ee] at hO hE
   rw [ee, decide_eq_true hk]
   repeat' (first | (show CW _ _ _ _ _ _; first | refine CW.seq ?_ | refine CW.region ?_ | refine CW.condd_f rfl (by omega) ?_ | refine CW.condf rfl ?_ | refine CW.skip ?_ | refine CW.exit ?_) | (show Post _ _ _ _ _; first | refine Post.seq ?_ | refine Post.seq_exit ?_ | refine Post.hit ?_ | refine Post.again_exit ?_) | refine SW.nil ?_ | refine SW.pure rfl rfl ?_ | (show SW _ _ _ _ (⟨_, Op.fieldAddr _ _ _, _, _, _, none⟩ :: _) _ _; refine SW.st (st_field rfl) rfl ?_) | (show SW _ _ _ _ (⟨_, Op.call ⟨.builtin .len, _, _⟩, _, _, _, none⟩ :: _) _ _; refine SW.st (st_len rfl) rfl ?_) | (show SW _ _ _ _ (⟨_, Op.load _ _, _, _, _, none⟩ :: _) _ _; refine SW.st (st_load rfl (hb5.cell (i := 3) (v := .slice r.Lists.A r.Lists.n r.Lists.c) rfl)) rfl ?_))
   refine SW.storeB (i := 3) hb5 rfl rfl rfl rfl fun w6 hb5' hg => ?_
   have hG := hb5.gr hg
   replace hw := hw.own hb5w hg
   replace hb10 := hb10.grown hg (by simpa using Ne.symm hne510)
   (replace hO := hO.grT hG rfl; replace hE := hE.grT hG rfl)
   repeat' (first | (show CW _ _ _ _ _ _; first | refine CW.seq ?_ | refine CW.region ?_) | (show Post _ _ _ _ _; refine Post.seq ?_) | refine SW.nil ?_ | (show SW _ _ _ _ (⟨_, Op.load _ _, _, _, _, none⟩ :: _) _ _; refine SW.st (st_loads rfl rfl ((fun _ _ => hb5'.cell))) rfl ?_))
   refine SW.storeAgg hb10 rfl rfl rfl rfl (one_h ⟨r.Zones, r.Mins, r.Cpus, ⟨A, _, c⟩, r.Live⟩) fun w7 hR2 hg => ?_
   have hG := hb10.gr hg
   replace hw := hw.own hb10w hg
   (replace hO := hO.grT hG rfl; replace hE := hE.grT hG rfl)
   repeat' (first | (show CW _ _ _ _ _ _; refine CW.ret ?_) | (show Post _ _ _ _ _; refine Post.seq ?_) | refine SW.nil ?_)
   exact Post.ret1c rfl rfl hR2 rfl ⟨_, rfl, hw, ⟨A, _, c⟩, R, rfl, ⟨hO.low (by omega), hE.each⟩⟩
  ·have hq1 : (setPre L x L.length).length ≤ r.Lists.n := by have := hlen2 (by omega); omega
   have ee := setPre_last hk
   rw [decide_eq_false hk]
   repeat' (first | (show CW _ _ _ _ _ _; first | refine CW.seq ?_ | refine CW.region ?_ | refine CW.condd_f rfl (by omega) ?_ | refine CW.condt rfl ?_ | refine CW.exit ?_) | (show Post _ _ _ _ _; first | refine Post.seq ?_ | refine Post.seq_exit ?_ | refine Post.hit ?_ | refine Post.again_exit ?_) | refine SW.nil ?_ | refine SW.pure rfl rfl ?_ | (show SW _ _ _ _ (⟨_, Op.fieldAddr _ _ _, _, _, _, none⟩ :: _) _ _; refine SW.st (st_field rfl) rfl ?_) | (show SW _ _ _ _ (⟨_, Op.call ⟨.builtin .len, _, _⟩, _, _, _, none⟩ :: _) _ _; refine SW.st (st_len rfl) rfl ?_) | (show SW _ _ _ _ (⟨_, Op.load _ _, _, _, _, none⟩ :: _) _ _; first | refine SW.st (st_load rfl (hb5.cell (i := 3) (v := .slice r.Lists.A r.Lists.n r.Lists.c) rfl)) rfl ?_ | refine SW.st (st_loads rfl rfl ((fun _ _ => hb11.cell))) rfl ?_))
   refine SW.build1 rfl rfl rfl rfl rfl fun b w4 hXX hb hB => ?_
   (replace hw := Ext.trans hw hXX; replace hb5 := hb5.ext hXX; replace hb10 := hb10.ext hXX; replace hb11 := hb11.ext hXX; replace hO := hO.ext hXX; replace hE := hE.ext hXX)
   refine SW.append hO (Blk.sl1 (enc := encL) (x := y) hB) hb11.lt rfl rfl rfl (hbA _ hq1).1 (hbA _ hq1).2 fun A2 c2 w5 hO1 hg => ?_
   have hG := hO.gr hg
   replace hw := ext_grown hw hg (Nat.le_trans hb11w (Nat.le_succ _)) hO.row_ge
   replace hb11 := hb11.grown hg (fun e => Nat.not_succ_le_self _ (hO.row_ge b11 e.symm))
   (replace hb5 := hb5.grT hG rfl; replace hb10 := hb10.grT hG rfl; replace hE := hE.grT hG rfl)
   replace hE := hE.snoc (hy.ext hw)
   rw [ee] at hE
   repeat' (first | (show CW _ _ _ _ _ _; first | refine CW.seq ?_ | refine CW.region ?_) | (show Post _ _ _ _ _; refine Post.seq ?_) | refine SW.nil ?_ | refine SW.pure rfl rfl ?_ | (show SW _ _ _ _ (⟨_, Op.fieldAddr _ _ _, _, _, _, none⟩ :: _) _ _; refine SW.st (st_field rfl) rfl ?_))
   refine SW.storeB (i := 3) hb5 rfl rfl rfl rfl fun w6 hb5' hg => ?_
   have hG := hb5.gr hg
   replace hw := hw.own hb5w hg
   replace hb10 := hb10.grown hg (by simpa using Ne.symm hne510)
   (replace hO1 := hO1.grT hG rfl; replace hE := hE.grT hG rfl)
   repeat' (first | (show CW _ _ _ _ _ _; first | refine CW.seq ?_ | refine CW.region ?_) | (show Post _ _ _ _ _; refine Post.seq ?_) | refine SW.nil ?_ | (show SW _ _ _ _ (⟨_, Op.load _ _, _, _, _, none⟩ :: _) _ _; refine SW.st (st_loads rfl rfl ((fun _ _ => hb5'.cell))) rfl ?_))
   refine SW.storeAgg hb10 rfl rfl rfl rfl (one_h ⟨r.Zones, r.Mins, r.Cpus, ⟨A2, _, c2⟩, r.Live⟩) fun w7 hR2 hg => ?_
   have hG := hb10.gr hg
   replace hw := hw.own hb10w hg
   (replace hO1 := hO1.grT hG rfl; replace hE := hE.grT hG rfl)
   repeat' (first | (show CW _ _ _ _ _ _; refine CW.ret ?_) | (show Post _ _ _ _ _; refine Post.seq ?_) | refine SW.nil ?_)
   exact Post.ret1c rfl rfl hR2 rfl ⟨_, rfl, hw, ⟨A2, _, c2⟩, R ++ [y], rfl, ⟨hO1.low (by omega), hE.each⟩⟩
end Go.Proofs.YtfommgdbahemfaaDoor
set_option linter.unusedVariables false
set_option linter.unusedSimpArgs false
namespace Go.Proofs.YtfommgdbahemfaaDoor
open Go.RowKit
def butK (x : PList) (L : List PList) : List PList := L.filter fun l => !decide (keyEq l x)
theorem butK_take {L : List PList} {x : PList} {i : Nat} (hi : i < L.length) : butK x (L.take (i + 1)) = if keyEq L[i] x then butK x (L.take i) else butK x (L.take i) ++ [L[i]] := by
 unfold butK
 rw [List.take_succ_eq_append_getElem hi, List.filter_append]
 by_cases h : keyEq L[i] x
 ·simp [h]
 ·simp [h]
theorem butK_len (x : PList) (L : List PList) (i : Nat) : (butK x (L.take i)).length ≤ i := by
 unfold butK
 exact Nat.le_trans (List.length_filter_le _ _) (by rw [List.length_take]; omega)
theorem butK_sorted {L : List PList} {x : PList} (hs : LsS L) : butK x L = if khere L x = true then L.eraseIdx (kpos L x) else L := by
 unfold butK
 split
 ·rename_i h
  obtain ⟨hk, hkey⟩ := khere_t h
  have e : L = L.take (kpos L x) ++ L[kpos L x] :: L.drop (kpos L x + 1) := by rw [← List.drop_eq_getElem_cons hk, List.take_append_drop]
  have h1 : (L.take (kpos L x)).filter (fun l => !decide (keyEq l x)) = L.take (kpos L x) := by
   rw [List.filter_eq_self]
   intro z hz
   obtain ⟨j, hj, rfl⟩ := List.getElem_of_mem hz
   rw [List.length_take] at hj
   rw [List.getElem_take]
   have := (ahead_not (kpos_below (L := L) (x := x) (k := j) (by omega))).1
   simpa using this
  have h2 : (L.drop (kpos L x + 1)).filter (fun l => !decide (keyEq l x)) = L.drop (kpos L x + 1) := by
   rw [List.filter_eq_self]
   intro z hz
   obtain ⟨j, hj, rfl⟩ := List.getElem_of_mem hz
   rw [List.length_drop] at hj
   rw [List.getElem_drop]
   have := hs.get (show kpos L x + 1 + j < L.length by omega) (show kpos L x < kpos L x + 1 + j by omega)
   have hn : ¬ keyEq L[kpos L x + 1 + j] x := by unfold aheadL keyEq at *; omega
   simpa using hn
  rw [List.eraseIdx_eq_take_drop_succ]
  conv => lhs; rw [e]
  rw [List.filter_append, List.filter_cons, h1, h2]
  simp [hkey]
 ·rename_i h
  rw [List.filter_eq_self]
  intro z hz
  obtain ⟨j, hj, rfl⟩ := List.getElem_of_mem hz
  have : ¬ keyEq L[j] x := fun hh => h (key_at hs hj hh).2
  simpa using this
set_option maxHeartbeats 16000000 in
theorem setList0_ans (r : HRow) (L : List PList) (ls : List LRow) (x : PList) (y : LRow) (lo : Nat) (w : World) (hl : OwnLs w lo r.Lists ls L) (hy : OwnL w lo y x) (hlo : lo ≤ w.heap.size) (hne : y.Pages.n = 0) (hn : (r.Lists.n + 1) * 48 ≤ 140737488355328) :
  Ans Tryd.prog 99 [.agg (encH r).toArray, .int .i64 y.Cpu, .int .i64 y.Zone, .int .i64 y.Ty, .slice y.Pages.A y.Pages.n y.Pages.c] w fun v w' => ∃ s R, v = .agg (encH ⟨r.Zones, r.Mins, r.Cpus, s, r.Live⟩).toArray ∧ OwnLs w' lo s R (butK x L) := by
 refine ans_of Tryd.func99 rfl Tryd.ntmps99 rfl ?_
 refine CW.seq (CW.region (SW.box rfl rfl fun b5 w1 hw hb5b hb5 => ?_))
 have hb5w := hb5b
 refine SW.alloc rfl fun b10 w2 hw2 hb10b hb10 => ?_
 have hb10w : w.heap.size ≤ b10 := Nat.le_trans hw.size hb10b
 have hne510 : b5 ≠ b10 := by have := hb5.lt; omega
 (replace hw := Ext.trans hw hw2; replace hb5 := hb5.ext hw2)
 obtain ⟨l1, l2⟩ := hl.rd.len
 have hA := hl.row.sl.base
 have y1 := hy.cpu
 have y2 := hy.zone
 have y3 := hy.ty
 repeat' (first | (show CW _ _ _ _ _ _; first | refine CW.seq ?_ | refine CW.region ?_) | (show Post _ _ _ _ _; refine Post.seq ?_) | refine SW.nil ?_ | refine SW.pure rfl rfl ?_ | (show SW _ _ _ _ (⟨_, Op.build _ _, _, _, _, none⟩ :: _) _ _; refine SW.st (st_build rfl rfl) rfl ?_))
 refine SW.alloc rfl fun b11 w1 hw1 hb11b hb11 => ?_
 skip
 refine SW.storeAgg hb11 rfl rfl rfl rfl (one_l y) fun w2 hb11' hg => ?_
 have hXX := hw1.own hb11b hg
 have hb11w : w.heap.size ≤ b11 := Nat.le_trans hw.size hb11b
 replace hw := Ext.trans hw hXX
 replace hb5 := hb5.ext hXX
 replace hb10 := hb10.ext hXX
 replace hb11 := hb11'
 clear hb11' hw1 hg hXX
 repeat' (first | (show CW _ _ _ _ _ _; first | refine CW.seq ?_ | refine CW.region ?_ | refine CW.block ?_) | (show Post _ _ _ _ _; refine Post.seq ?_) | refine SW.nil ?_ | refine SW.pure rfl rfl ?_ | (show SW _ _ _ _ (⟨_, Op.call ⟨.builtin .len, _, _⟩, _, _, _, none⟩ :: _) _ _; refine SW.st (st_len rfl) rfl ?_))
 replace hb11 : Blk w2 b11 84 (encL y) := hb11
 have q0 : true = decide ((y.Pages.n : Int) = 0) := by rw [decide_eq_true (by omega)]
 refine CW.loop (fun t : Nat × Option Addr × Nat × List LRow => [(1, .int .i64 y.Cpu), (2, .int .i64 y.Zone), (3, .int .i64 y.Ty), (5, .pointer (some ⟨b5, 0, none⟩)), (10, .pointer (some ⟨b10, 0, none⟩)), (11, .pointer (some ⟨b11, 0, none⟩)), (12, .slice t.2.1 (butK x (L.take t.1)).length t.2.2.1), (13, .bool true), (14, .int .i64 (t.1 : Int))])
  (fun t w' => t.1 ≤ r.Lists.n ∧ Ext w w' ∧ Blk w' b5 35 (encH r) ∧ Blk w' b10 35 (encH .zero) ∧ Blk w' b11 84 (encL y) ∧ Own w' (b11 + 1) 84 4 encL t.2.1 (butK x (L.take t.1)).length t.2.2.1 t.2.2.2 ∧ EachL w' lo t.2.2.2 (butK x (L.take t.1))) (fun t => r.Lists.n - t.1) (0, none, 0, [])
  ⟨rfl, rfl, rfl, rfl, rfl, rfl, rfl, by rw [q0]; rfl, rfl, trivial⟩ ⟨by omega, hw, hb5, hb10, hb11, Own.nil_ _ _ _ _ _ _, EachL.nil _ _⟩ ?_
 clear hw hb5 hb10 hb11
 rintro ⟨i, A, c, R⟩ w' ⟨hi, hw, hb5, hb10, hb11, hO, hE⟩
 simp only at hi hO hE ⊢
 have hlen := butK_len x L i
 have hbA : ∀ m : Nat, m ≤ r.Lists.n → (m + 1) * 48 ≤ 140737488355328 ∧ m + 1 ≤ 9223372036854775807 := fun m hm => by omega
 by_cases hin : i < r.Lists.n
 ·have hq1 : (butK x (L.take i)).length ≤ r.Lists.n := by omega
  have hil : i < L.length := by omega
  have hils : i < ls.length := by omega
  have hrd := hl.each.get i hils hil
  have e1 := hrd.cpu
  have e2 := hrd.zone
  have e3 := hrd.ty
  have g0 := hl.row.sl.fld hin (j := 0) (u := .int .i64 ls[i].Cpu) rfl
  have g1 := hl.row.sl.fld hin (j := 1) (u := .int .i64 ls[i].Zone) rfl
  have g2 := hl.row.sl.fld hin (j := 2) (u := .int .i64 ls[i].Ty) rfl
  by_cases hk : keyEq L[i] x
  ·have ee : butK x (L.take (i + 1)) = butK x (L.take i) := by rw [butK_take hil, if_pos hk]
   obtain ⟨k1, k2, k3⟩ := id hk
   repeat' (first | (show CW _ _ _ _ _ _; first | refine CW.seq ?_ | refine CW.region ?_ | refine CW.block ?_ | refine CW.condfr rfl (by with_reducible rfl) ?_ | refine CW.condd_t rfl (by omega) ?_ | refine CW.condf rfl ?_ | refine CW.skip ?_ | refine CW.exit ?_ | (apply CW.quiet1 mixed; (· kernel_rfl); rotate_left; intro w1 hw1; replace hw := Ext.trans hw hw1; replace hb5 := hb5.ext hw1; replace hb10 := hb10.ext hw1; replace hb11 := hb11.ext hw1; replace hO := hO.ext hw1; replace hE := hE.ext hw1; clear hw1; rotate_right)) | (show Post _ _ _ _ _; first | refine Post.seq ?_ | refine Post.seq_exit ?_ | refine Post.hit ?_) | refine SW.nil ?_ | (show SW _ _ _ _ (⟨_, _, _, _, _, some _⟩ :: _) _ _; first | refine SW.want_t rfl rfl (by with_reducible rfl) ?_ | refine SW.splitd_t rfl rfl rfl (by omega) ?_ | refine SW.skip rfl rfl rfl rfl ?_) | refine SW.pure rfl rfl ?_ | (show SW _ _ _ _ (⟨_, Op.fieldAddr _ _ _, _, _, _, none⟩ :: _) _ _; refine SW.st (st_field rfl) rfl ?_) | (show SW _ _ _ _ (⟨_, Op.binOp _ _ _ _ _, _, _, _, none⟩ :: _) _ _; refine SW.st (st_add rfl rfl (by omega) (by omega)) rfl ?_) | (show SW _ _ _ _ (⟨_, Op.indexAddr _ _ _, _, _, _, none⟩ :: _) _ _; refine SW.st (st_indexN rfl rfl (by assumption) (by omega)) rfl ?_) | (show SW _ _ _ _ (⟨_, Op.call ⟨.builtin .len, _, _⟩, _, _, _, none⟩ :: _) _ _; refine SW.st (st_len rfl) rfl ?_) | (show SW _ _ _ _ (⟨_, Op.load _ _, _, _, _, none⟩ :: _) _ _; first | refine SW.st (st_load rfl (hb5.cell (i := 3) (v := .slice r.Lists.A r.Lists.n r.Lists.c) rfl)) rfl ?_ | refine SW.st (st_loadx hw rfl g0) rfl ?_ | refine SW.st (st_loadx hw rfl g1) rfl ?_ | refine SW.st (st_loadx hw rfl g2) rfl ?_) | exact SW.qnil rfl)
   all_goals first | (exfalso; omega) | skip
   exact Post.again (i + 1, A, c, R) ⟨rfl, rfl, rfl, rfl, rfl, rfl, by simp only; rw [ee]; rfl, rfl, rfl, trivial⟩ (by simp only; omega) ⟨by simp only; omega, hw, hb5, hb10, hb11, by simp only; rw [ee]; exact hO, by simp only; rw [ee]; exact hE⟩
  ·have hke : ¬ (ls[i].Cpu = y.Cpu ∧ ls[i].Zone = y.Zone ∧ ls[i].Ty = y.Ty) := by unfold keyEq at hk; omega
   have ee : butK x (L.take (i + 1)) = butK x (L.take i) ++ [L[i]] := by rw [butK_take hil, if_neg hk]
   have el : (butK x (L.take (i + 1))).length = (butK x (L.take i)).length + 1 := by rw [ee]; simp
   repeat' (first | (show CW _ _ _ _ _ _; first | refine CW.seq ?_ | refine CW.region ?_ | refine CW.block ?_ | refine CW.condfr rfl (by with_reducible rfl) ?_ | refine CW.condd_t rfl (by omega) ?_ | refine CW.condd_f rfl (by omega) ?_ | refine CW.skip ?_ | (apply CW.quiet1 mixed; (· kernel_rfl); rotate_left; intro w1 hw1; replace hw := Ext.trans hw hw1; replace hb5 := hb5.ext hw1; replace hb10 := hb10.ext hw1; replace hb11 := hb11.ext hw1; replace hO := hO.ext hw1; replace hE := hE.ext hw1; clear hw1; rotate_right)) | (show Post _ _ _ _ _; refine Post.seq ?_) | refine SW.nil ?_ | (show SW _ _ _ _ (⟨_, _, _, _, _, some _⟩ :: _) _ _; first | refine SW.want_t rfl rfl (by with_reducible rfl) ?_ | refine SW.skip_t rfl rfl (by with_reducible rfl) rfl ?_ | refine SW.splitd rfl rfl rfl (fun h => ?_) (fun h => ?_) | refine SW.skip rfl rfl rfl rfl ?_) | refine SW.pure rfl rfl ?_ | (show SW _ _ _ _ (⟨_, Op.fieldAddr _ _ _, _, _, _, none⟩ :: _) _ _; refine SW.st (st_field rfl) rfl ?_) | (show SW _ _ _ _ (⟨_, Op.indexAddr _ _ _, _, _, _, none⟩ :: _) _ _; refine SW.st (st_indexN rfl rfl (by assumption) (by omega)) rfl ?_) | (show SW _ _ _ _ (⟨_, Op.call ⟨.builtin .len, _, _⟩, _, _, _, none⟩ :: _) _ _; refine SW.st (st_len rfl) rfl ?_) | (show SW _ _ _ _ (⟨_, Op.load _ _, _, _, _, none⟩ :: _) _ _; first | refine SW.st (st_load rfl (hb5.cell (i := 3) (v := .slice r.Lists.A r.Lists.n r.Lists.c) rfl)) rfl ?_ | refine SW.st (st_loadx hw rfl g0) rfl ?_ | refine SW.st (st_loadx hw rfl g1) rfl ?_ | refine SW.st (st_loadx hw rfl g2) rfl ?_ | refine SW.st (st_loadsx hw rfl rfl ((hl.row.sl.all hin))) rfl ?_) | exact SW.qnil rfl)
   all_goals first | (exfalso; omega) | skip
   all_goals
    refine SW.build1 rfl rfl rfl rfl rfl fun b w4 hXX hb hB => ?_
    (replace hw := Ext.trans hw hXX; replace hb5 := hb5.ext hXX; replace hb10 := hb10.ext hXX; replace hb11 := hb11.ext hXX; replace hO := hO.ext hXX; replace hE := hE.ext hXX)
    refine SW.append hO (Blk.sl1 (enc := encL) (x := ls[i]) hB) hb11.lt rfl rfl rfl (hbA _ hq1).1 (hbA _ hq1).2 fun A2 c2 w5 hO1 hg => ?_
    have hG := hO.gr hg
    replace hw := ext_grown hw hg (Nat.le_trans hb11w (Nat.le_succ _)) hO.row_ge
    replace hb11 := hb11.grown hg (fun e => Nat.not_succ_le_self _ (hO.row_ge b11 e.symm))
    (replace hb5 := hb5.grT hG rfl; replace hb10 := hb10.grT hG rfl; replace hE := hE.grT hG rfl)
    repeat' (first | (show CW _ _ _ _ _ _; refine CW.region ?_) | (show Post _ _ _ _ _; first | refine Post.seq ?_ | refine Post.blk ?_) | refine SW.nil ?_ | refine SW.pure rfl rfl ?_ | (show SW _ _ _ _ (⟨_, Op.binOp _ _ _ _ _, _, _, _, none⟩ :: _) _ _; refine SW.st (st_add rfl rfl (by omega) (by omega)) rfl ?_))
    refine Post.again (i + 1, A2, c2, R ++ [ls[i]]) ⟨rfl, rfl, rfl, rfl, rfl, rfl, by simp only; rw [el]; rfl, rfl, rfl, trivial⟩ (by simp only; omega) ⟨by simp only; omega, hw, hb5, hb10, hb11, by simp only; rw [el]; exact hO1, ?_⟩
    simp only
    rw [ee]
    exact hE.snoc ((hl.each.get i hils hil).ext hw)
 ·have ei : i = L.length := by omega
  subst ei
  rw [List.take_of_length_le (Nat.le_refl _)] at hO hE
  rw [List.take_of_length_le (Nat.le_refl _)]
  repeat' (first | (show CW _ _ _ _ _ _; first | refine CW.seq ?_ | refine CW.region ?_ | refine CW.condd_f rfl (by omega) ?_ | refine CW.condf rfl ?_ | refine CW.skip ?_ | refine CW.exit ?_) | (show Post _ _ _ _ _; first | refine Post.seq ?_ | refine Post.seq_exit ?_ | refine Post.hit ?_ | refine Post.again_exit ?_) | refine SW.nil ?_ | refine SW.pure rfl rfl ?_ | (show SW _ _ _ _ (⟨_, Op.fieldAddr _ _ _, _, _, _, none⟩ :: _) _ _; refine SW.st (st_field rfl) rfl ?_) | (show SW _ _ _ _ (⟨_, Op.call ⟨.builtin .len, _, _⟩, _, _, _, none⟩ :: _) _ _; refine SW.st (st_len rfl) rfl ?_) | (show SW _ _ _ _ (⟨_, Op.load _ _, _, _, _, none⟩ :: _) _ _; refine SW.st (st_load rfl (hb5.cell (i := 3) (v := .slice r.Lists.A r.Lists.n r.Lists.c) rfl)) rfl ?_))
  refine SW.storeB (i := 3) hb5 rfl rfl rfl rfl fun w6 hb5' hg => ?_
  have hG := hb5.gr hg
  replace hw := hw.own hb5w hg
  replace hb10 := hb10.grown hg (by simpa using Ne.symm hne510)
  (replace hO := hO.grT hG rfl; replace hE := hE.grT hG rfl)
  repeat' (first | (show CW _ _ _ _ _ _; first | refine CW.seq ?_ | refine CW.region ?_) | (show Post _ _ _ _ _; refine Post.seq ?_) | refine SW.nil ?_ | (show SW _ _ _ _ (⟨_, Op.load _ _, _, _, _, none⟩ :: _) _ _; refine SW.st (st_loads rfl rfl ((fun _ _ => hb5'.cell))) rfl ?_))
  refine SW.storeAgg hb10 rfl rfl rfl rfl (one_h ⟨r.Zones, r.Mins, r.Cpus, ⟨A, _, c⟩, r.Live⟩) fun w7 hR2 hg => ?_
  have hG := hb10.gr hg
  replace hw := hw.own hb10w hg
  (replace hO := hO.grT hG rfl; replace hE := hE.grT hG rfl)
  repeat' (first | (show CW _ _ _ _ _ _; refine CW.ret ?_) | (show Post _ _ _ _ _; refine Post.seq ?_) | refine SW.nil ?_)
  exact Post.ret1c rfl rfl hR2 rfl ⟨_, rfl, hw, ⟨A, _, c⟩, R, rfl, ⟨hO.low (by omega), hE.each⟩⟩
def putL (L : List PList) (x : PList) : List PList := if x.Pages = [] then butK x L else setL L x
theorem setList2_ans (r : HRow) (L : List PList) (ls : List LRow) (x : PList) (y : LRow) (lo : Nat) (w : World) (hl : OwnLs w lo r.Lists ls L) (hy : OwnL w lo y x) (hs : LsS L) (hlo : lo ≤ w.heap.size) (hn : (r.Lists.n + 1) * 48 ≤ 140737488355328) :
  Ans Tryd.prog 99 [.agg (encH r).toArray, .int .i64 y.Cpu, .int .i64 y.Zone, .int .i64 y.Ty, .slice y.Pages.A y.Pages.n y.Pages.c] w fun v w' => ∃ s R, v = .agg (encH ⟨r.Zones, r.Mins, r.Cpus, s, r.Live⟩).toArray ∧ OwnLs w' lo s R (putL L x) := by
 have hpl := hy.pages.len
 unfold putL
 split
 ·rename_i h
  rw [h] at hpl
  exact setList0_ans r L ls x y lo w hl hy hlo (by simpa using hpl.symm) hn
 ·rename_i h
  exact setList_ans r L ls x y lo w hl hy hs hlo (by rw [← hpl]; exact List.length_pos_iff.2 h) hn
theorem putL_pop {L : List PList} {x : PList} {pg : List Int} (hs : LsS L) (hk : khere L x = true) : putL L (withPg x pg.dropLast) = popL L x pg := by
 obtain ⟨e1, e2⟩ := kpos_key (L := L) (withPg_key (x := x) (pg := pg.dropLast))
 unfold putL popL
 by_cases h : pg.length ≤ 1
 ·have h0 : pg.dropLast = [] := List.eq_nil_of_length_eq_zero (by rw [List.length_dropLast]; omega)
  rw [if_pos h, if_pos (by simpa [withPg] using h0), butK_sorted hs, if_pos (by rw [← e2]; exact hk), e1]
 ·have h0 : ¬ pg.dropLast = [] := fun e => by
   have := congrArg List.length e
   rw [List.length_dropLast] at this
   simp at this
   omega
  rw [if_neg h, if_neg (by simpa [withPg] using h0), setL_t (by rw [← e2]; exact hk), e1]
theorem putL_more {L : List PList} {x : PList} {pg : List Int} (hs : LsS L) (hk : khere L x = false) : putL L (withPg x pg) = moreL L x pg := by
 obtain ⟨e1, e2⟩ := kpos_key (L := L) (withPg_key (x := x) (pg := pg))
 unfold putL moreL
 by_cases h : pg = []
 ·rw [if_pos h, if_pos (by simpa [withPg] using h), butK_sorted hs, if_neg (by rw [← e2, hk]; simp)]
 ·rw [if_neg h, if_neg (by simpa [withPg] using h)]
end Go.Proofs.YtfommgdbahemfaaDoor
