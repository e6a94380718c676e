/-
  Contracts: sameHeap; the law PagesCopies.
-/
import Derived.Test.YtfdmgflboibdoaaH2
set_option linter.unusedVariables false
namespace Go.Proofs.Ytfdmgflboibdoaa
open Go.RowKit

set_option maxHeartbeats 4000000 in
theorem sameHeap_ans (r s : HRow) (h : Heap) (w : World) (ha : RdH w r h) (hb : RdH w s h) (hs : h.small) :
    Ans Try.prog 24 [.agg (encH r).toArray, .agg (encH s).toArray] w fun v _ => v = .bool true := by
  refine ans_of Try.func24 rfl Try.ntmps24 rfl ?_
  refine CW.seq (CW.region (SW.box rfl rfl fun b2 w1 hw hb2b hb2 => ?_))
  refine SW.box rfl rfl fun b3 w2 hw2 hb3b hb3 => ?_
  (replace hw := Ext.trans hw hw2; replace hb2 := hb2.ext hw2)
  obtain ⟨zs, hz⟩ := ha.zones
  obtain ⟨ls, hl⟩ := ha.lists
  obtain ⟨zs', hz'⟩ := hb.zones
  obtain ⟨ls', hl'⟩ := hb.lists
  obtain ⟨z1, z2⟩ := hz.len
  obtain ⟨l1, l2⟩ := hl.len
  obtain ⟨z3, z4⟩ := hz'.len
  obtain ⟨l3, l4⟩ := hl'.len
  have s1 := hs.mins
  have s2 := hs.live
  have s3 := hs.zones
  have s4 := hs.lists
  have m1 := ha.mins.len
  have m2 := ha.live.len
  have e1 := ha.cpus
  have e2 := hb.cpus
  have cM : ∀ w', Ext w w' → Ans Try.prog 70 [.slice r.Mins.A r.Mins.n r.Mins.c, .slice s.Mins.A s.Mins.n s.Mins.c] w' fun v _ => v = .bool true := fun w' hx => by
    have := sameInts_ans _ _ _ _ r.Mins.c s.Mins.c _ _ w' (ha.mins.ext hx) (hb.mins.ext hx) (by omega)
    simpa using this
  have cL : ∀ w', Ext w w' → Ans Try.prog 71 [.slice r.Live.A r.Live.n r.Live.c, .slice s.Live.A s.Live.n s.Live.c] w' fun v _ => v = .bool true := fun w' hx => by
    have := sameBlocks_ans _ _ _ _ r.Live.c s.Live.c _ _ w' (ha.live.ext hx) (hb.live.ext hx) (by omega)
    simpa using this
  repeat' (first | (show CW _ _ _ _ _ _; first | refine CW.seq ?_ | refine CW.region ?_ | refine CW.block ?_ | refine CW.condf rfl ?_ | refine CW.skip ?_) | (show Post _ _ _ _ _; refine Post.seq ?_) | refine SW.nil ?_ | (show SW _ _ _ _ (⟨_, _, _, _, _, some _⟩ :: _) _ _; first | refine SW.want_f rfl rfl (by with_reducible rfl) ?_ | refine SW.splitn_f rfl rfl rfl (by omega) ?_ | refine SW.want rfl rfl ?_) | refine SW.pure rfl rfl ?_ | (show SW _ _ _ _ (⟨_, Op.fieldAddr _ _ _, _, _, _, none⟩ :: _) _ _; refine SW.st (st_field rfl) rfl ?_) | (show SW _ _ _ _ (⟨_, Op.call ⟨.builtin .len, _, _⟩, _, _, _, none⟩ :: _) _ _; refine SW.st (st_len rfl) rfl ?_) | (show SW _ _ _ _ (⟨_, Op.load _ _, _, _, _, none⟩ :: _) _ _; first | refine SW.st (st_load rfl (hb2.cell rfl)) rfl ?_ | refine SW.st (st_load rfl (hb3.cell rfl)) rfl ?_) | (show SW _ _ _ _ (⟨_, Op.call ⟨.value (.func _), _, _⟩, _, _, _, none⟩ :: _) _ _; first | (refine SW.call rfl rfl (cM _ hw) ?_; intro v w1 hw1 hv; subst hv; replace hw := Ext.trans hw hw1; replace hb2 := hb2.ext hw1; replace hb3 := hb3.ext hw1; clear hw1) | (refine SW.call rfl rfl (cL _ hw) ?_; intro v w1 hw1 hv; subst hv; replace hw := Ext.trans hw hw1; replace hb2 := hb2.ext hw1; replace hb3 := hb3.ext hw1; clear hw1)))
  all_goals first | (exfalso; omega) | skip
  refine CW.loop (fun k : Nat => [(2, .pointer (some ⟨b2, 0, none⟩)), (3, .pointer (some ⟨b3, 0, none⟩)), (5, .int .i64 (k : Int))]) (fun k w' => k ≤ r.Zones.n ∧ Ext w w' ∧ Blk w' b2 27 (encH r) ∧ Blk w' b3 27 (encH s)) (fun k => r.Zones.n - k) 0
    ⟨rfl, rfl, rfl, trivial⟩ ⟨by omega, hw, hb2, hb3⟩ ?_
  clear hw hb2 hb3
  rintro k w' ⟨hk, hw, hb2, hb3⟩
  have hA := hz.row.base
  have hB := hz'.row.base
  by_cases hkn : k < r.Zones.n
  · have hkn' : k < s.Zones.n := by omega
    have hzk := hz.each.get k (by omega) (by omega)
    have hzk' := hz'.each.get k (by omega) (by omega)
    have q := hs.free _ (List.getElem_mem (show k < h.Zones.length by omega))
    have q1 := hzk.free.len
    have q2 := hzk.types.len
    have cZ : ∀ w', Ext w w' → Ans Try.prog 50 [.agg (encZ zs[k]).toArray, .agg (encZ zs'[k]).toArray] w' fun v _ => v = .bool true := fun w' hx => by
      have := sameZone_ans zs[k] zs'[k] _ _ w' (hzk.ext hx) (hzk'.ext hx) (by omega) (by omega)
      simpa using this
    repeat' (first | (show CW _ _ _ _ _ _; first | refine CW.seq ?_ | refine CW.region ?_ | refine CW.block ?_ | refine CW.condd_t rfl (by omega) ?_ | refine CW.condf rfl ?_ | refine CW.skip ?_ | (apply CW.quiet1 mixed; (· kernel_rfl); rotate_left; intro w1 hw1; replace hw := Ext.trans hw hw1; replace hb2 := hb2.ext hw1; replace hb3 := hb3.ext hw1; clear hw1; rotate_right)) | (show Post _ _ _ _ _; first | refine Post.seq ?_ | refine Post.blk ?_) | refine SW.nil ?_ | refine SW.pure rfl rfl ?_ | (show SW _ _ _ _ (⟨_, Op.fieldAddr _ _ _, _, _, _, none⟩ :: _) _ _; refine SW.st (st_field rfl) rfl ?_) | (show SW _ _ _ _ (⟨_, Op.binOp _ _ _ _ _, _, _, _, none⟩ :: _) _ _; refine SW.st (st_add rfl rfl (by omega) (by omega)) rfl ?_) | (show SW _ _ _ _ (⟨_, Op.indexAddr _ _ _, _, _, _, none⟩ :: _) _ _; refine SW.st (st_indexN rfl rfl (by assumption) (by omega)) rfl ?_) | (show SW _ _ _ _ (⟨_, Op.call ⟨.builtin .len, _, _⟩, _, _, _, none⟩ :: _) _ _; refine SW.st (st_len rfl) rfl ?_) | (show SW _ _ _ _ (⟨_, Op.load _ _, _, _, _, none⟩ :: _) _ _; first | refine SW.st (st_load rfl (hb2.cell rfl)) rfl ?_ | refine SW.st (st_load rfl (hb3.cell rfl)) rfl ?_ | refine SW.st (st_loadsx hw rfl rfl ((hz.row.all hkn))) rfl ?_ | refine SW.st (st_loadsx hw rfl rfl ((hz'.row.all hkn'))) rfl ?_) | (show SW _ _ _ _ (⟨_, Op.call ⟨.value (.func _), _, _⟩, _, _, _, none⟩ :: _) _ _; refine SW.qcall rfl rfl (fun w1 hw1 => (cZ _ (Ext.trans hw hw1))) ?_) | exact SW.qnil rfl)
    exact Post.again (k + 1) ⟨rfl, rfl, rfl, trivial⟩ (by omega) ⟨by omega, hw, hb2, hb3⟩
  · repeat' (first | (show CW _ _ _ _ _ _; first | refine CW.seq ?_ | refine CW.region ?_ | refine CW.block ?_ | refine CW.condd_f rfl (by omega) ?_ | refine CW.exit ?_) | (show Post _ _ _ _ _; first | refine Post.seq ?_ | refine Post.seq_exit ?_ | refine Post.hit ?_ | refine Post.again_exit ?_) | refine SW.nil ?_ | refine SW.pure rfl rfl ?_ | (show SW _ _ _ _ (⟨_, Op.fieldAddr _ _ _, _, _, _, none⟩ :: _) _ _; refine SW.st (st_field rfl) rfl ?_) | (show SW _ _ _ _ (⟨_, Op.call ⟨.builtin .len, _, _⟩, _, _, _, none⟩ :: _) _ _; refine SW.st (st_len rfl) rfl ?_) | (show SW _ _ _ _ (⟨_, Op.load _ _, _, _, _, none⟩ :: _) _ _; refine SW.st (st_load rfl (hb2.cell rfl)) rfl ?_))
    clear hkn hk hA hB
    refine CW.loop (fun k : Nat => [(2, .pointer (some ⟨b2, 0, none⟩)), (3, .pointer (some ⟨b3, 0, none⟩)), (6, .int .i64 (k : Int))]) (fun k w' => k ≤ r.Lists.n ∧ Ext w w' ∧ Blk w' b2 27 (encH r) ∧ Blk w' b3 27 (encH s)) (fun k => r.Lists.n - k) 0
      ⟨rfl, rfl, rfl, trivial⟩ ⟨by omega, hw, hb2, hb3⟩ ?_
    clear hw hb2 hb3
    rintro k w' ⟨hk, hw, hb2, hb3⟩
    have hA := hl.row.base
    have hB := hl'.row.base
    by_cases hkn : k < r.Lists.n
    · have hkn' : k < s.Lists.n := by omega
      have hlk := hl.each.get k (by omega) (by omega)
      have hlk' := hl'.each.get k (by omega) (by omega)
      have q := hs.pages _ (List.getElem_mem (show k < h.Lists.length by omega))
      have q1 := hlk.pages.len
      have g1 := hlk.cpu
      have g2 := hlk.zone
      have g3 := hlk.ty
      have g4 := hlk'.cpu
      have g5 := hlk'.zone
      have g6 := hlk'.ty
      have cP : ∀ w', Ext w w' → Ans Try.prog 70 [.slice ls[k].Pages.A ls[k].Pages.n ls[k].Pages.c, .slice ls'[k].Pages.A ls'[k].Pages.n ls'[k].Pages.c] w' fun v _ => v = .bool true := fun w' hx => by
        have := sameInts_ans _ _ _ _ ls[k].Pages.c ls'[k].Pages.c _ _ w' (hlk.pages.ext hx) (hlk'.pages.ext hx) (by omega)
        simpa using this
      repeat' (first | (show CW _ _ _ _ _ _; first | refine CW.seq ?_ | refine CW.region ?_ | refine CW.block ?_ | refine CW.condd_t rfl (by omega) ?_ | refine CW.skip ?_) | (show Post _ _ _ _ _; refine Post.seq ?_) | refine SW.nil ?_ | refine SW.pure rfl rfl ?_ | (show SW _ _ _ _ (⟨_, Op.fieldAddr _ _ _, _, _, _, none⟩ :: _) _ _; refine SW.st (st_field rfl) rfl ?_) | (show SW _ _ _ _ (⟨_, Op.indexAddr _ _ _, _, _, _, none⟩ :: _) _ _; refine SW.st (st_indexN rfl rfl (by assumption) (by omega)) rfl ?_) | (show SW _ _ _ _ (⟨_, Op.call ⟨.builtin .len, _, _⟩, _, _, _, none⟩ :: _) _ _; refine SW.st (st_len rfl) rfl ?_) | (show SW _ _ _ _ (⟨_, Op.load _ _, _, _, _, none⟩ :: _) _ _; first | refine SW.st (st_load rfl (hb2.cell rfl)) rfl ?_ | refine SW.st (st_loadsx hw rfl rfl ((hl.row.all hkn))) rfl ?_))
      refine SW.alloc rfl fun b7 w1 hw1 hb7b hb7 => ?_
      skip
      refine SW.storeAgg hb7 rfl rfl rfl rfl (one_l _) fun w2 hb7' hg => ?_
      have hXX := hw1.own hb7b hg
      have hb7w : w.heap.size ≤ b7 := Nat.le_trans hw.size hb7b
      replace hw := Ext.trans hw hXX
      replace hb2 := hb2.ext hXX
      replace hb3 := hb3.ext hXX
      replace hb7 := hb7'
      clear hb7' hw1 hg hXX
      repeat' (first | (show CW _ _ _ _ _ _; first | refine CW.seq ?_ | refine CW.region ?_) | (show Post _ _ _ _ _; refine Post.seq ?_) | refine SW.nil ?_ | refine SW.pure rfl rfl ?_ | (show SW _ _ _ _ (⟨_, Op.fieldAddr _ _ _, _, _, _, none⟩ :: _) _ _; refine SW.st (st_field rfl) rfl ?_) | (show SW _ _ _ _ (⟨_, Op.indexAddr _ _ _, _, _, _, none⟩ :: _) _ _; refine SW.st (st_indexN rfl rfl (by assumption) (by omega)) rfl ?_) | (show SW _ _ _ _ (⟨_, Op.load _ _, _, _, _, none⟩ :: _) _ _; first | refine SW.st (st_load rfl (hb3.cell rfl)) rfl ?_ | refine SW.st (st_loadsx hw rfl rfl ((hl'.row.all hkn'))) rfl ?_))
      refine SW.alloc rfl fun b8 w1 hw1 hb8b hb8 => ?_
      skip
      refine SW.storeAgg hb8 rfl rfl rfl rfl (one_l _) fun w2 hb8' hg => ?_
      have hXX := hw1.own hb8b hg
      have hb8w : w.heap.size ≤ b8 := Nat.le_trans hw.size hb8b
      replace hw := Ext.trans hw hXX
      replace hb2 := hb2.ext hXX
      replace hb3 := hb3.ext hXX
      replace hb7 := hb7.ext hXX
      replace hb8 := hb8'
      clear hb8' hw1 hg hXX
      repeat' (first | (show CW _ _ _ _ _ _; first | refine CW.seq ?_ | refine CW.region ?_ | refine CW.condf rfl ?_ | refine CW.skip ?_) | (show Post _ _ _ _ _; first | refine Post.seq ?_ | refine Post.blk ?_) | refine SW.nil ?_ | (show SW _ _ _ _ (⟨_, _, _, _, _, some _⟩ :: _) _ _; first | refine SW.want_f rfl rfl (by with_reducible rfl) ?_ | refine SW.splitn_f rfl rfl rfl (by omega) ?_) | refine SW.pure rfl rfl ?_ | (show SW _ _ _ _ (⟨_, Op.fieldAddr _ _ _, _, _, _, none⟩ :: _) _ _; refine SW.st (st_field rfl) rfl ?_) | (show SW _ _ _ _ (⟨_, Op.binOp _ _ _ _ _, _, _, _, none⟩ :: _) _ _; refine SW.st (st_add rfl rfl (by omega) (by omega)) rfl ?_) | (show SW _ _ _ _ (⟨_, Op.load _ _, _, _, _, none⟩ :: _) _ _; first | refine SW.st (st_load rfl (hb7.cell rfl)) rfl ?_ | refine SW.st (st_load rfl (hb8.cell rfl)) rfl ?_) | (show SW _ _ _ _ (⟨_, Op.call ⟨.value (.func _), _, _⟩, _, _, _, none⟩ :: _) _ _; (refine SW.call rfl rfl (cP _ hw) ?_; intro v w1 hw1 hv; subst hv; replace hw := Ext.trans hw hw1; replace hb2 := hb2.ext hw1; replace hb3 := hb3.ext hw1; clear hw1)))
      all_goals first | (exfalso; omega) | skip
      exact Post.again (k + 1) ⟨rfl, rfl, rfl, trivial⟩ (by omega) ⟨by omega, hw, hb2, hb3⟩
    · repeat' (first | (show CW _ _ _ _ _ _; first | refine CW.seq ?_ | refine CW.region ?_ | refine CW.condd_f rfl (by omega) ?_ | refine CW.ret ?_ | refine CW.exit ?_) | (show Post _ _ _ _ _; first | refine Post.seq ?_ | refine Post.seq_exit ?_ | refine Post.hit ?_ | refine Post.again_exit ?_) | refine SW.nil ?_ | refine SW.pure rfl rfl ?_ | (show SW _ _ _ _ (⟨_, Op.fieldAddr _ _ _, _, _, _, none⟩ :: _) _ _; refine SW.st (st_field rfl) rfl ?_) | (show SW _ _ _ _ (⟨_, Op.call ⟨.builtin .len, _, _⟩, _, _, _, none⟩ :: _) _ _; refine SW.st (st_len rfl) rfl ?_) | (show SW _ _ _ _ (⟨_, Op.load _ _, _, _, _, none⟩ :: _) _ _; refine SW.st (st_load rfl (hb2.cell rfl)) rfl ?_))
      exact Post.ret1 rfl rfl ⟨_, rfl, hw, rfl⟩

theorem pagesCopies_ans (r : HRow) (h : Heap) (w : World) (hr : RdH w r h) (hs : h.small) : Ans Try.prog 3 [.agg (encH r).toArray] w fun v _ => v = .bool true := by
  refine ans_of Try.func3 rfl Try.ntmps3 rfl ?_
  refine CW.seq (CW.region (SW.box rfl rfl fun b1 w1 hw hb1b hb1 => ?_))
  repeat' (first | (show CW _ _ _ _ _ _; first | refine CW.seq ?_ | refine CW.region ?_) | (show Post _ _ _ _ _; refine Post.seq ?_) | refine SW.nil ?_ | refine SW.pure rfl rfl ?_ | (show SW _ _ _ _ (⟨_, Op.load _ _, _, _, _, none⟩ :: _) _ _; refine SW.st (st_loads rfl rfl ((fun _ _ => hb1.cell))) rfl ?_))
  refine SW.call rfl rfl (Hcopy_ans _ _ _ (hr.ext hw) hs) fun v w2 hw2 hv => ?_
  obtain ⟨s, rfl, hO⟩ := hv
  replace hO := hO.low hw.size
  (replace hw := Ext.trans hw hw2; replace hb1 := hb1.ext hw2)
  refine SW.alloc rfl fun b3 w1 hw1 hb3b hb3 => ?_
  skip
  refine SW.storeAgg hb3 rfl rfl rfl rfl (one_h _) fun w2 hb3' hg => ?_
  have hXX := hw1.own hb3b hg
  have hb3w : w.heap.size ≤ b3 := Nat.le_trans hw.size hb3b
  replace hw := Ext.trans hw hXX
  replace hb1 := hb1.ext hXX
  replace hO := hO.ext hXX
  replace hb3 := hb3'
  clear hb3' hw1 hg hXX
  have cS : ∀ w', Ext w w' → RdH w' s h → Ans Try.prog 24 [.agg (encH s).toArray, .agg (encH r).toArray] w' fun v _ => v = .bool true := fun w' hx h1 => sameHeap_ans s r h w' h1 (hr.ext hx) hs
  repeat' (first | (show CW _ _ _ _ _ _; first | refine CW.seq ?_ | refine CW.region ?_ | refine CW.ret ?_) | (show Post _ _ _ _ _; refine Post.seq ?_) | refine SW.nil ?_ | refine SW.pure rfl rfl ?_ | (show SW _ _ _ _ (⟨_, Op.load _ _, _, _, _, none⟩ :: _) _ _; first | refine SW.st (st_loads rfl rfl ((fun _ _ => hb3.cell))) rfl ?_ | refine SW.st (st_loads rfl rfl ((fun _ _ => hb1.cell))) rfl ?_) | (show SW _ _ _ _ (⟨_, Op.call ⟨.value (.func _), _, _⟩, _, _, _, none⟩ :: _) _ _; (refine SW.call rfl rfl (cS _ hw hO.rd) ?_; intro v w1 hw1 hv; subst hv; replace hw := Ext.trans hw hw1; replace hb1 := hb1.ext hw1; replace hb3 := hb3.ext hw1; replace hO := hO.ext hw1; clear hw1)))
  exact Post.ret1 rfl rfl ⟨_, rfl, hw, rfl⟩
end Go.Proofs.Ytfdmgflboibdoaa
