/-
  Contracts: liveOrder, slabAt, CacheMay of the reference.
-/
import Derived.Test.YtfdmgflboibdoaaPackSlabChecks18
import Derived.Test.YtfdmgflboibdoaaPackSlabChecks2
import Derived.Maps.OwnSet
set_option linter.unusedVariables false
namespace Go.Proofs.Ytfdmgflboibdoaa
open Go.RowKit

theorem liveOrder_ans (r : HRow) (l : List Block) (a : Int) (w : World) (hl : Sl w 3 encBk r.Live.A r.Live.n l) (hu : l.Pairwise fun x y => x.At < y.At) (hn : r.Live.n ≤ 1000000000000000000) :
    Ans Try.prog 157 [.agg (encH r).toArray, .int .i64 a] w fun v _ => v = .int .i64 (ordA l a) := by
  refine ans_of Try.func157 rfl Try.ntmps157 rfl ?_
  refine CW.seq (CW.region (SW.box rfl rfl fun b2 w1 hw hb2b hb2 => ?_))
  have hll := hl.len
  repeat' (first | (show CW _ _ _ _ _ _; first | refine CW.seq ?_ | refine CW.region ?_ | refine CW.block ?_) | (show Post _ _ _ _ _; refine Post.seq ?_) | refine SW.nil ?_ | refine SW.pure rfl rfl ?_)
  refine CW.loop (fun k : Nat => [(1, .int .i64 a), (2, .pointer (some ⟨b2, 0, none⟩)), (5, .int .i64 (k : Int))]) (fun k w' => k ≤ r.Live.n ∧ Ext w w' ∧ Blk w' b2 27 (encH r) ∧ ∀ (i : Nat) (h : i < l.length), i < k → l[i].At ≠ a) (fun k => r.Live.n - k) 0
    ⟨rfl, rfl, rfl, trivial⟩ ⟨by omega, hw, hb2, fun i h h' => by omega⟩ ?_
  clear hw hb2
  rintro k w' ⟨hk, hw, hb2, hI⟩
  have hA := hl.base
  by_cases hkn : k < r.Live.n
  · have hkl : k < l.length := by omega
    have g0 := hl.fld hkn (j := 0) (u := .int .i64 l[k].At) rfl
    have g1 := hl.fld hkn (j := 1) (u := .int .i64 l[k].Order) rfl
    by_cases hx : l[k].At = a
    · obtain ⟨e1, e2⟩ := found_uniq hu hkl hx
      have e3 := ordA_t e2 (by omega)
      simp only [e1] at e3
      rw [e3]
      repeat' (first | (show CW _ _ _ _ _ _; first | refine CW.seq ?_ | refine CW.region ?_ | refine CW.block ?_ | refine CW.condd_t rfl (by omega) ?_ | refine CW.skip ?_ | refine CW.ret ?_) | (show Post _ _ _ _ _; first | refine Post.seq ?_ | refine Post.seq_ret ?_ | refine Post.blk_ret ?_ | refine Post.again_ret ?_) | refine SW.nil ?_ | refine SW.pure rfl rfl ?_ | (show SW _ _ _ _ (⟨_, Op.fieldAddr _ _ _, _, _, _, none⟩ :: _) _ _; refine SW.st (st_field rfl) rfl ?_) | (show SW _ _ _ _ (⟨_, Op.indexAddr _ _ _, _, _, _, none⟩ :: _) _ _; refine SW.st (st_indexN rfl rfl (by assumption) (by omega)) rfl ?_) | (show SW _ _ _ _ (⟨_, Op.call ⟨.builtin .len, _, _⟩, _, _, _, none⟩ :: _) _ _; refine SW.st (st_len rfl) rfl ?_) | (show SW _ _ _ _ (⟨_, Op.load _ _, _, _, _, none⟩ :: _) _ _; first | refine SW.st (st_load rfl (hb2.cell (i := 4) (v := .slice r.Live.A r.Live.n r.Live.c) rfl)) rfl ?_ | refine SW.st (st_loadx hw rfl g0) rfl ?_ | refine SW.st (st_loadx hw rfl g1) rfl ?_))
      exact Post.ret1 rfl rfl ⟨_, rfl, hw, rfl⟩
    · repeat' (first | (show CW _ _ _ _ _ _; first | refine CW.seq ?_ | refine CW.region ?_ | refine CW.block ?_ | refine CW.condd_t rfl (by omega) ?_ | refine CW.condd_f rfl (by omega) ?_ | refine CW.skip ?_) | (show Post _ _ _ _ _; first | refine Post.seq ?_ | refine Post.blk ?_) | refine SW.nil ?_ | refine SW.pure rfl rfl ?_ | (show SW _ _ _ _ (⟨_, Op.fieldAddr _ _ _, _, _, _, none⟩ :: _) _ _; refine SW.st (st_field rfl) rfl ?_) | (show SW _ _ _ _ (⟨_, Op.binOp _ _ _ _ _, _, _, _, none⟩ :: _) _ _; refine SW.st (st_add rfl rfl (by omega) (by omega)) rfl ?_) | (show SW _ _ _ _ (⟨_, Op.indexAddr _ _ _, _, _, _, none⟩ :: _) _ _; refine SW.st (st_indexN rfl rfl (by assumption) (by omega)) rfl ?_) | (show SW _ _ _ _ (⟨_, Op.call ⟨.builtin .len, _, _⟩, _, _, _, none⟩ :: _) _ _; refine SW.st (st_len rfl) rfl ?_) | (show SW _ _ _ _ (⟨_, Op.load _ _, _, _, _, none⟩ :: _) _ _; first | refine SW.st (st_load rfl (hb2.cell (i := 4) (v := .slice r.Live.A r.Live.n r.Live.c) rfl)) rfl ?_ | refine SW.st (st_loadx hw rfl g0) rfl ?_))
      exact Post.again (k + 1) ⟨rfl, rfl, rfl, trivial⟩ (by omega) ⟨by omega, hw, hb2, fun i h h' => by
        by_cases e : i = k
        · subst e; exact hx
        · exact hI i h (by omega)⟩
  · rw [ordA_f (found_none fun i h => hI i h (by omega))]
    repeat' (first | (show CW _ _ _ _ _ _; first | refine CW.seq ?_ | refine CW.region ?_ | refine CW.condd_f rfl (by omega) ?_ | refine CW.ret ?_ | refine CW.exit ?_) | (show Post _ _ _ _ _; first | refine Post.seq ?_ | refine Post.seq_exit ?_ | refine Post.hit ?_ | refine Post.again_exit ?_) | refine SW.nil ?_ | refine SW.pure rfl rfl ?_ | (show SW _ _ _ _ (⟨_, Op.fieldAddr _ _ _, _, _, _, none⟩ :: _) _ _; refine SW.st (st_field rfl) rfl ?_) | (show SW _ _ _ _ (⟨_, Op.call ⟨.builtin .len, _, _⟩, _, _, _, none⟩ :: _) _ _; refine SW.st (st_len rfl) rfl ?_) | (show SW _ _ _ _ (⟨_, Op.load _ _, _, _, _, none⟩ :: _) _ _; refine SW.st (st_load rfl (hb2.cell (i := 4) (v := .slice r.Live.A r.Live.n r.Live.c) rfl)) rfl ?_))
    exact Post.ret1 rfl rfl ⟨_, rfl, hw, rfl⟩

theorem slabAt_ans (q : CRow) (l : List Slab) (t : Int) (w : World) (hl : Sl w 3 encSb q.Slabs.A q.Slabs.n l) (hn : q.Slabs.n ≤ 1000000000000000000) :
    Ans Try.prog 158 [.agg (encC q).toArray, .int .i64 t] w fun v _ => v = .int .i64 (idxOf (atB t) l) := by
  refine ans_of Try.func158 rfl Try.ntmps158 rfl ?_
  refine CW.seq (CW.region (SW.box rfl rfl fun b2 w1 hw hb2b hb2 => ?_))
  have hll := hl.len
  repeat' (first | (show CW _ _ _ _ _ _; first | refine CW.seq ?_ | refine CW.region ?_ | refine CW.block ?_) | (show Post _ _ _ _ _; refine Post.seq ?_) | refine SW.nil ?_ | refine SW.pure rfl rfl ?_)
  refine CW.loop (fun k : Nat => [(1, .int .i64 t), (2, .pointer (some ⟨b2, 0, none⟩)), (5, .int .i64 (k : Int))]) (fun k w' => k ≤ q.Slabs.n ∧ Ext w w' ∧ Blk w' b2 94 (encC q) ∧ ∀ (i : Nat) (h : i < l.length), i < k → atB t l[i] = false) (fun k => q.Slabs.n - k) 0
    ⟨rfl, rfl, rfl, trivial⟩ ⟨by omega, hw, hb2, fun i h h' => by omega⟩ ?_
  clear hw hb2
  rintro k w' ⟨hk, hw, hb2, hI⟩
  have hA := hl.base
  by_cases hkn : k < q.Slabs.n
  · have hkl : k < l.length := by omega
    have g0 := hl.fld hkn (j := 0) (u := .int .i64 l[k].At) rfl
    by_cases hx : l[k].At = t
    · rw [idxOf_hit hkl (show atB t l[k] = true from decide_eq_true hx) (fun j hj h => hI j hj h)]
      repeat' (first | (show CW _ _ _ _ _ _; first | refine CW.seq ?_ | refine CW.region ?_ | refine CW.block ?_ | refine CW.condd_t rfl (by omega) ?_ | refine CW.skip ?_ | refine CW.ret ?_) | (show Post _ _ _ _ _; first | refine Post.seq ?_ | refine Post.seq_ret ?_ | refine Post.blk_ret ?_ | refine Post.again_ret ?_) | refine SW.nil ?_ | refine SW.pure rfl rfl ?_ | (show SW _ _ _ _ (⟨_, Op.fieldAddr _ _ _, _, _, _, none⟩ :: _) _ _; refine SW.st (st_field rfl) rfl ?_) | (show SW _ _ _ _ (⟨_, Op.indexAddr _ _ _, _, _, _, none⟩ :: _) _ _; refine SW.st (st_indexN rfl rfl (by assumption) (by omega)) rfl ?_) | (show SW _ _ _ _ (⟨_, Op.call ⟨.builtin .len, _, _⟩, _, _, _, none⟩ :: _) _ _; refine SW.st (st_len rfl) rfl ?_) | (show SW _ _ _ _ (⟨_, Op.load _ _, _, _, _, none⟩ :: _) _ _; first | refine SW.st (st_load rfl (hb2.cell (i := 4) (v := .slice q.Slabs.A q.Slabs.n q.Slabs.c) rfl)) rfl ?_ | refine SW.st (st_loadx hw rfl g0) rfl ?_))
      exact Post.ret1 rfl rfl ⟨_, rfl, hw, rfl⟩
    · repeat' (first | (show CW _ _ _ _ _ _; first | refine CW.seq ?_ | refine CW.region ?_ | refine CW.block ?_ | refine CW.condd_t rfl (by omega) ?_ | refine CW.condd_f rfl (by omega) ?_ | refine CW.skip ?_) | (show Post _ _ _ _ _; first | refine Post.seq ?_ | refine Post.blk ?_) | refine SW.nil ?_ | refine SW.pure rfl rfl ?_ | (show SW _ _ _ _ (⟨_, Op.fieldAddr _ _ _, _, _, _, none⟩ :: _) _ _; refine SW.st (st_field rfl) rfl ?_) | (show SW _ _ _ _ (⟨_, Op.binOp _ _ _ _ _, _, _, _, none⟩ :: _) _ _; refine SW.st (st_add rfl rfl (by omega) (by omega)) rfl ?_) | (show SW _ _ _ _ (⟨_, Op.indexAddr _ _ _, _, _, _, none⟩ :: _) _ _; refine SW.st (st_indexN rfl rfl (by assumption) (by omega)) rfl ?_) | (show SW _ _ _ _ (⟨_, Op.call ⟨.builtin .len, _, _⟩, _, _, _, none⟩ :: _) _ _; refine SW.st (st_len rfl) rfl ?_) | (show SW _ _ _ _ (⟨_, Op.load _ _, _, _, _, none⟩ :: _) _ _; first | refine SW.st (st_load rfl (hb2.cell (i := 4) (v := .slice q.Slabs.A q.Slabs.n q.Slabs.c) rfl)) rfl ?_ | refine SW.st (st_loadx hw rfl g0) rfl ?_))
      exact Post.again (k + 1) ⟨rfl, rfl, rfl, trivial⟩ (by omega) ⟨by omega, hw, hb2, fun i h h' => by
        by_cases e : i = k
        · subst e; exact decide_eq_false hx
        · exact hI i h (by omega)⟩
  · rw [(idxOf_none fun i h => hI i h (by omega)).1]
    repeat' (first | (show CW _ _ _ _ _ _; first | refine CW.seq ?_ | refine CW.region ?_ | refine CW.condd_f rfl (by omega) ?_ | refine CW.ret ?_ | refine CW.exit ?_) | (show Post _ _ _ _ _; first | refine Post.seq ?_ | refine Post.seq_exit ?_ | refine Post.hit ?_ | refine Post.again_exit ?_) | refine SW.nil ?_ | refine SW.pure rfl rfl ?_ | (show SW _ _ _ _ (⟨_, Op.fieldAddr _ _ _, _, _, _, none⟩ :: _) _ _; refine SW.st (st_field rfl) rfl ?_) | (show SW _ _ _ _ (⟨_, Op.call ⟨.builtin .len, _, _⟩, _, _, _, none⟩ :: _) _ _; refine SW.st (st_len rfl) rfl ?_) | (show SW _ _ _ _ (⟨_, Op.load _ _, _, _, _, none⟩ :: _) _ _; refine SW.st (st_load rfl (hb2.cell (i := 4) (v := .slice q.Slabs.A q.Slabs.n q.Slabs.c) rfl)) rfl ?_))
    exact Post.ret1 rfl rfl ⟨_, rfl, hw, rfl⟩

theorem ChainOut.bool {lo : Nat} {ws : List Int} {size per : Int} {x : Slab} {v : Value} {w : World} (h : ChainOut lo ws size per x v w) : ∃ A n c b, v = .tuple #[.slice A n c, .bool b] ∧ (b = true ↔ ∃ out, ChainIs ws size per x out) := by
  rcases h with ⟨out, A5, c5, hC, rfl, _, _⟩ | ⟨hno, rfl⟩
  · exact ⟨_, _, _, true, rfl, by simp; exact ⟨out, hC⟩⟩
  · exact ⟨_, _, _, false, rfl, by simp; exact hno⟩

set_option maxHeartbeats 4000000 in
theorem CacheMay_ans (r : SRow) (s : KSystem) (q : CRow) (c : KCache) (w : World) (hr : RdS w r s) (hq : RdC w q c) (hs : s.small) (hcs : c.small) (hH : HeapMay s.Heap) :
    Ans Try.prog 115 [.agg (encSys r).toArray, .agg (encC q).toArray] w fun v _ => v = .bool (cacheB s c) := by
  refine ans_of Try.func115 rfl Try.ntmps115 rfl ?_
  refine CW.seq (CW.region (SW.box rfl rfl fun b2 w1 hw hb2b hb2 => ?_))
  refine SW.box rfl rfl fun b3 w2 hw2 hb3b hb3 => ?_
  (replace hw := Ext.trans hw hw2; replace hb2 := hb2.ext hw2)
  obtain ⟨o, n, e, hE⟩ : ∃ o n e, layoutF c.Size = (o, n, e) := ⟨_, _, _, rfl⟩
  have eS := hq.size
  have eP := hq.per
  have eO := hq.order
  have n1 := hq.names.len
  have n2 := hq.slabs.len
  have n3 := hq.active.len
  have m1 := hcs.names
  have m2 := hcs.slabs
  have m3 := hcs.active
  have eC := hr.heap.cpus
  have wl := hr.words.len
  have m4 := hs.words
  have hll := hr.heap.live.len
  have m5 := hs.heap.live
  have cL : ∀ w', Ans Try.prog 141 [.int .i64 q.Size] w' fun v _ => v = .tuple #[.int .i64 o, .int .i64 n, .int .i64 e] := fun w' => layout_nf (LayoutOf_ans q.Size w') (by rw [eS]; exact hE)
  rcases (show ¬ (e = 0 ∧ c.Order = o ∧ c.Per = n ∧ 0 < c.Names.length ∧ (c.Active.length : Int) = s.Heap.Cpus) ∨ (e = 0 ∧ c.Order = o ∧ c.Per = n ∧ 0 < c.Names.length ∧ (c.Active.length : Int) = s.Heap.Cpus) by omega) with hbad | ⟨h1, h2, h3, h4, h5⟩
  · have hF : cacheB s c = false := cacheB_f fun hm => hbad (by
      have := hm.lay
      rw [hE] at this
      simp only [Prod.mk.injEq] at this
      exact ⟨this.2.2, this.1.symm, this.2.1.symm, hm.names, hm.active⟩)
    rw [hF]
    rcases (show e ≠ 0 ∨ (e = 0 ∧ c.Order ≠ o) ∨ (e = 0 ∧ c.Order = o ∧ c.Per ≠ n) ∨ (e = 0 ∧ c.Order = o ∧ c.Per = n ∧ c.Names.length = 0) ∨ (e = 0 ∧ c.Order = o ∧ c.Per = n ∧ 0 < c.Names.length ∧ (c.Active.length : Int) ≠ s.Heap.Cpus) by omega) with g | g | g | g | g
    all_goals
      repeat' (first | (show CW _ _ _ _ _ _; first | refine CW.seq ?_ | refine CW.region ?_ | refine CW.condtr rfl (by with_reducible rfl) ?_ | refine CW.condn_t rfl (by omega) ?_ | refine CW.ret ?_) | (show Post _ _ _ _ _; first | refine Post.seq ?_ | refine Post.seq_ret ?_) | refine SW.nil ?_ | (show SW _ _ _ _ (⟨_, _, _, _, _, some _⟩ :: _) _ _; first | refine SW.want_f rfl rfl (by with_reducible rfl) ?_ | refine SW.skip_f rfl rfl (by with_reducible rfl) rfl ?_ | refine SW.splitd_t rfl rfl rfl (by omega) ?_ | refine SW.splitd_f rfl rfl rfl (by omega) ?_ | refine SW.splitn_t rfl rfl rfl (by omega) ?_ | refine SW.splitn_f rfl rfl rfl (by omega) ?_) | refine SW.pure rfl rfl ?_ | (show SW _ _ _ _ (⟨_, Op.fieldAddr _ _ _, _, _, _, none⟩ :: _) _ _; refine SW.st (st_field rfl) rfl ?_) | (show SW _ _ _ _ (⟨_, Op.call ⟨.builtin .len, _, _⟩, _, _, _, none⟩ :: _) _ _; refine SW.st (st_len rfl) rfl ?_) | (show SW _ _ _ _ (⟨_, Op.load _ _, _, _, _, none⟩ :: _) _ _; first | refine SW.st (st_load rfl (hb3.cell rfl)) rfl ?_ | refine SW.st (st_load rfl (hb2.cell (i := 3) (v := .int .i64 r.Heap.Cpus) rfl)) rfl ?_) | (show SW _ _ _ _ (⟨_, Op.call ⟨.value (.func _), _, _⟩, _, _, _, none⟩ :: _) _ _; (refine SW.call rfl rfl (cL _) ?_; intro v w1 hw1 hv; subst hv; replace hw := Ext.trans hw hw1; replace hb2 := hb2.ext hw1; replace hb3 := hb3.ext hw1; clear hw1)))
      all_goals first | (exfalso; omega) | skip
      exact Post.ret1 rfl rfl ⟨_, rfl, hw, rfl⟩
  · subst h1
    have hlay : layoutF c.Size = (c.Order, c.Per, 0) := by rw [hE, h2, h3]
    obtain ⟨l1, l2, l3⟩ := layoutF_ok hE
    have hlt := live_lt hH.live
    have hLb : ∀ b ∈ s.Heap.Live, 0 ≤ b.At ∧ b.At ≤ 255 := fun b hb => by
      obtain ⟨i, hi, rfl⟩ := List.getElem_of_mem hb
      exact (hH.live.each i hi).2.1
    repeat' (first | (show CW _ _ _ _ _ _; first | refine CW.seq ?_ | refine CW.region ?_ | refine CW.block ?_ | refine CW.condn_f rfl (by omega) ?_ | refine CW.skip ?_) | (show Post _ _ _ _ _; refine Post.seq ?_) | refine SW.nil ?_ | (show SW _ _ _ _ (⟨_, _, _, _, _, some _⟩ :: _) _ _; first | refine SW.want_f rfl rfl (by with_reducible rfl) ?_ | refine SW.splitd_f rfl rfl rfl (by omega) ?_ | refine SW.splitn_f rfl rfl rfl (by omega) ?_) | refine SW.pure rfl rfl ?_ | (show SW _ _ _ _ (⟨_, Op.fieldAddr _ _ _, _, _, _, none⟩ :: _) _ _; refine SW.st (st_field rfl) rfl ?_) | (show SW _ _ _ _ (⟨_, Op.call ⟨.builtin .len, _, _⟩, _, _, _, none⟩ :: _) _ _; refine SW.st (st_len rfl) rfl ?_) | (show SW _ _ _ _ (⟨_, Op.load _ _, _, _, _, none⟩ :: _) _ _; first | refine SW.st (st_load rfl (hb3.cell rfl)) rfl ?_ | refine SW.st (st_load rfl (hb2.cell (i := 3) (v := .int .i64 r.Heap.Cpus) rfl)) rfl ?_) | (show SW _ _ _ _ (⟨_, Op.call ⟨.value (.func _), _, _⟩, _, _, _, none⟩ :: _) _ _; (refine SW.call rfl rfl (cL _) ?_; intro v w1 hw1 hv; subst hv; replace hw := Ext.trans hw hw1; replace hb2 := hb2.ext hw1; replace hb3 := hb3.ext hw1; clear hw1)))
    all_goals first | (exfalso; omega) | skip
    clear cL
    refine CW.loop (fun k : Nat => [(2, .pointer (some ⟨b2, 0, none⟩)), (3, .pointer (some ⟨b3, 0, none⟩)), (5, .int .i64 o), (8, .int .i64 (k : Int))])
      (fun k w' => k ≤ q.Slabs.n ∧ Ext w w' ∧ Blk w' b2 33 (encSys r) ∧ Blk w' b3 94 (encC q) ∧ ∀ (i : Nat) (h : i < c.Slabs.length), i < k → SlabMay s c i h) (fun k => q.Slabs.n - k) 0
      ⟨rfl, rfl, rfl, rfl, trivial⟩ ⟨by omega, hw, hb2, hb3, fun i h h' => by omega⟩ ?_
    clear hw hb2 hb3
    rintro k w' ⟨hk, hw, hb2, hb3, hI⟩
    have hA := hq.slabs.base
    by_cases hkn : k < q.Slabs.n
    · have hkl : k < c.Slabs.length := by omega
      have g0 := hq.slabs.fld hkn (j := 0) (u := .int .i64 c.Slabs[k].At) rfl
      obtain ⟨z, hz⟩ : ∃ z, ordA s.Heap.Live c.Slabs[k].At = z := ⟨_, rfl⟩
      have cO : ∀ w', Ext w w' → Ans Try.prog 157 [.agg (encH r.Heap).toArray, .int .i64 c.Slabs[k].At] w' fun v _ => v = .int .i64 z := fun w' hx => by
        have := liveOrder_ans r.Heap s.Heap.Live c.Slabs[k].At w' (hr.heap.live.ext hx) hlt (by omega)
        rwa [hz] at this
      by_cases hord : z = o
      · have hfo : foundA s.Heap.Live c.Slabs[k].At = true := by
          cases hfo : foundA s.Heap.Live c.Slabs[k].At
          · rw [ordA_f hfo] at hz
            omega
          · rfl
        obtain ⟨hm0, hma⟩ := found_at hfo
        have ht : 0 ≤ c.Slabs[k].At ∧ c.Slabs[k].At ≤ 255 := by
          have := hLb _ (List.getElem_mem hm0)
          omega
        have hS : 1 ≤ q.Size ∧ q.Size ≤ 64 := by omega
        have hP : 1 ≤ q.Per ∧ q.Per ≤ 64 := by omega
        by_cases hnx : 0 < k → (c.Slabs[k - 1]'(by omega)).At < c.Slabs[k].At
        · rcases Nat.eq_zero_or_pos k with hk0 | hk0
          all_goals
            first
            | (have gP := hq.slabs.fld (show k - 1 < q.Slabs.n by omega) (j := 0) (u := .int .i64 (c.Slabs[k - 1]'(by omega)).At) rfl
               have hlt' := hnx hk0)
            | skip
          all_goals
            repeat' (first | (show CW _ _ _ _ _ _; first | refine CW.seq ?_ | refine CW.region ?_ | refine CW.block ?_ | refine CW.condd_t rfl (by omega) ?_ | refine CW.skip ?_) | (show Post _ _ _ _ _; refine Post.seq ?_) | refine SW.nil ?_ | refine SW.pure rfl rfl ?_ | (show SW _ _ _ _ (⟨_, Op.fieldAddr _ _ _, _, _, _, none⟩ :: _) _ _; refine SW.st (st_field rfl) rfl ?_) | (show SW _ _ _ _ (⟨_, Op.call ⟨.builtin .len, _, _⟩, _, _, _, none⟩ :: _) _ _; refine SW.st (st_len rfl) rfl ?_) | (show SW _ _ _ _ (⟨_, Op.load _ _, _, _, _, none⟩ :: _) _ _; refine SW.st (st_load rfl (hb3.cell rfl)) rfl ?_))
            (apply CW.quiet1 mixed; (· kernel_rfl); rotate_left; intro w1 hw1; replace hw := Ext.trans hw hw1; replace hb2 := hb2.ext hw1; replace hb3 := hb3.ext hw1; clear hw1; rotate_right)
            repeat' (first | (show CW _ _ _ _ _ _; first | refine CW.seq ?_ | refine CW.condfr rfl (by with_reducible rfl) ?_ | refine CW.condd_f rfl (by omega) ?_ | refine CW.skip ?_) | (show Post _ _ _ _ _; refine Post.seq ?_) | (show SW _ _ _ _ (⟨_, _, _, _, _, some _⟩ :: _) _ _; first | refine SW.want_t rfl rfl (by with_reducible rfl) ?_ | refine SW.want_f rfl rfl (by with_reducible rfl) ?_ | refine SW.skip_t rfl rfl (by with_reducible rfl) rfl ?_ | refine SW.splitd_t rfl rfl rfl (by omega) ?_ | refine SW.splitd_f rfl rfl rfl (by omega) ?_ | refine SW.splitn_f rfl rfl rfl (by omega) ?_) | refine SW.pure rfl rfl ?_ | (show SW _ _ _ _ (⟨_, Op.fieldAddr _ _ _, _, _, _, none⟩ :: _) _ _; refine SW.st (st_field rfl) rfl ?_) | (show SW _ _ _ _ (⟨_, Op.binOp _ _ _ _ _, _, _, _, none⟩ :: _) _ _; refine SW.st (st_sub rfl rfl (by omega) (by omega)) rfl ?_) | (show SW _ _ _ _ (⟨_, Op.indexAddr _ _ _, _, _, _, none⟩ :: _) _ _; first | refine SW.st (st_indexN rfl rfl (by assumption) (by omega)) rfl ?_ | refine SW.st (st_indexI (k - 1) rfl rfl (by assumption) (by omega) (by omega)) rfl ?_) | (show SW _ _ _ _ (⟨_, Op.load _ _, _, _, _, none⟩ :: _) _ _; first | refine SW.st (st_loads rfl rfl ((heapIn hb2))) rfl ?_ | refine SW.st (st_load rfl (hb3.cell rfl)) rfl ?_ | refine SW.st (st_loadx hw rfl g0) rfl ?_ | refine SW.st (st_loadx hw rfl gP) rfl ?_) | (show SW _ _ _ _ (⟨_, Op.call ⟨.value (.func _), _, _⟩, _, _, _, none⟩ :: _) _ _; refine SW.qcall rfl rfl (fun w1 hw1 => (cO _ (Ext.trans hw hw1))) ?_) | exact SW.qnil rfl)
            all_goals first | (exfalso; omega) | skip
            refine CW.any 12 mixed (rb_tail (by kernel_rfl)) rfl fun w1 hw1 hRB => ?_
            replace hw := Ext.trans hw hw1; replace hb2 := hb2.ext hw1; replace hb3 := hb3.ext hw1; clear hw1
            refine SA.take 0 hRB rfl (by kernel_rfl) (by kernel_rfl) rfl ?_
            repeat ((show SW _ _ _ _ (⟨_, Op.load _ _, _, _, _, none⟩ :: _) _ _; refine SW.st (st_loads rfl rfl ((fun _ _ => hb2.cell))) rfl ?_))
            refine SW.tknil ?_
            refine SA.take 1 hRB rfl (by kernel_rfl) (by kernel_rfl) rfl ?_
            repeat ((show SW _ _ _ _ (⟨_, Op.load _ _, _, _, _, none⟩ :: _) _ _; refine SW.st (st_loads rfl rfl ((fun _ _ => hb3.cell))) rfl ?_))
            refine SW.tknil ?_
            refine SA.take 2 hRB rfl (by kernel_rfl) (by kernel_rfl) rfl ?_
            repeat ((show SW _ _ _ _ (⟨_, Op.fieldAddr _ _ _, _, _, _, none⟩ :: _) _ _; refine SW.st (st_field rfl) rfl ?_))
            refine SW.tknil ?_
            refine SA.take 3 hRB rfl (by kernel_rfl) (by kernel_rfl) rfl ?_
            repeat ((show SW _ _ _ _ (⟨_, Op.load _ _, _, _, _, none⟩ :: _) _ _; refine SW.st (st_load rfl (hb3.cell rfl)) rfl ?_))
            refine SW.tknil ?_
            refine SA.take 4 hRB rfl (by kernel_rfl) (by kernel_rfl) rfl ?_
            repeat (refine SW.pure rfl rfl ?_)
            refine SW.tknil ?_
            refine SA.take 5 hRB rfl (by kernel_rfl) (by kernel_rfl) rfl ?_
            repeat ((show SW _ _ _ _ (⟨_, Op.indexAddr _ _ _, _, _, _, none⟩ :: _) _ _; refine SW.st (st_indexN rfl rfl (by assumption) (by omega)) rfl ?_))
            refine SW.tknil ?_
            refine SA.take 6 hRB rfl (by kernel_rfl) (by kernel_rfl) rfl ?_
            repeat ((show SW _ _ _ _ (⟨_, Op.load _ _, _, _, _, none⟩ :: _) _ _; refine SW.st (st_loadsx hw rfl rfl ((hq.slabs.all hkn))) rfl ?_))
            refine SW.tknil ?_
            refine SA.one 7 rfl (by kernel_rfl) rfl ?_
            refine SW.call rfl rfl (freeIn_ans r q c.Slabs[k] s.Words _ (hr.words.ext hw) (by omega) hS hP ht) fun v w5 hXX hv5 => ?_
            (replace hw := Ext.trans hw hXX; replace hb2 := hb2.ext hXX; replace hb3 := hb3.ext hXX)
            rw [eS, eP] at hv5
            obtain ⟨A5, n5, c5, bb, rfl, hb⟩ := ChainOut.bool hv5
            refine SW.nil (Post.sa hXX ?_)
            refine SA.take 8 hRB rfl (by kernel_rfl) (by kernel_rfl) rfl ?_
            repeat (refine SW.pure rfl rfl ?_)
            refine SW.tknil ?_
            refine SA.take 9 hRB rfl (by kernel_rfl) (by kernel_rfl) rfl ?_
            repeat (refine SW.pure rfl rfl ?_)
            refine SW.tknil ?_
            refine SA.take 10 hRB rfl (by kernel_rfl) (by kernel_rfl) rfl ?_
            repeat (refine SW.pure rfl rfl ?_)
            refine SW.tknil ?_
            refine SA.take 11 hRB rfl (by kernel_rfl) (by kernel_rfl) rfl ?_
            repeat (refine SW.pure rfl rfl ?_)
            refine SW.tknil ?_
            refine SA.done (by kernel_rfl) ?_
            cases bb
            · rw [cacheB_f fun hm => by simpa using hb.2 (hm.slabs k hkl).chain]
              repeat' (first | (show CW _ _ _ _ _ _; first | refine CW.seq ?_ | refine CW.region ?_ | refine CW.condt rfl ?_ | refine CW.ret ?_) | (show Post _ _ _ _ _; first | refine Post.seq ?_ | refine Post.seq_ret ?_ | refine Post.blk_ret ?_ | refine Post.again_ret ?_ | refine Post.np ?_) | refine SW.nil ?_ | refine SW.pure rfl rfl ?_)
              exact Post.ret1 rfl rfl ⟨_, rfl, hw, rfl⟩
            · repeat' (first | (show CW _ _ _ _ _ _; first | refine CW.seq ?_ | refine CW.region ?_ | refine CW.condf rfl ?_ | refine CW.skip ?_) | (show Post _ _ _ _ _; first | refine Post.seq ?_ | refine Post.blk ?_ | refine Post.np ?_) | refine SW.nil ?_ | refine SW.pure rfl rfl ?_ | (show SW _ _ _ _ (⟨_, Op.binOp _ _ _ _ _, _, _, _, none⟩ :: _) _ _; refine SW.st (st_add rfl rfl (by omega) (by omega)) rfl ?_))
              exact Post.again (k + 1) ⟨rfl, rfl, rfl, rfl, trivial⟩ (by omega) ⟨by omega, hw, hb2, hb3, fun i h h' => by
                by_cases ei : i = k
                · subst ei; exact ⟨by omega, hnx, hb.1 rfl⟩
                · exact hI i h (by omega)⟩
        · have hk0 : 0 < k := by
            rcases Nat.eq_zero_or_pos k with h | h
            · exact absurd (fun h' => by omega) hnx
            · exact h
          have hge : ¬ (c.Slabs[k - 1]'(by omega)).At < c.Slabs[k].At := fun h => hnx fun _ => h
          have gP := hq.slabs.fld (show k - 1 < q.Slabs.n by omega) (j := 0) (u := .int .i64 (c.Slabs[k - 1]'(by omega)).At) rfl
          rw [cacheB_f fun hm => hge ((hm.slabs k hkl).next hk0)]
          repeat' (first | (show CW _ _ _ _ _ _; first | refine CW.seq ?_ | refine CW.region ?_ | refine CW.block ?_ | refine CW.condd_t rfl (by omega) ?_ | refine CW.skip ?_ | refine CW.ret ?_ | (apply CW.quiet1 mixed; (· kernel_rfl); rotate_left; intro w1 hw1; replace hw := Ext.trans hw hw1; replace hb2 := hb2.ext hw1; replace hb3 := hb3.ext hw1; clear hw1; rotate_right)) | (show Post _ _ _ _ _; first | refine Post.seq ?_ | refine Post.seq_ret ?_ | refine Post.blk_ret ?_ | refine Post.again_ret ?_) | refine SW.nil ?_ | (show SW _ _ _ _ (⟨_, _, _, _, _, some _⟩ :: _) _ _; first | refine SW.want_t rfl rfl (by with_reducible rfl) ?_ | refine SW.want_f rfl rfl (by with_reducible rfl) ?_ | refine SW.splitd_t rfl rfl rfl (by omega) ?_ | refine SW.splitn_f rfl rfl rfl (by omega) ?_) | refine SW.pure rfl rfl ?_ | (show SW _ _ _ _ (⟨_, Op.fieldAddr _ _ _, _, _, _, none⟩ :: _) _ _; refine SW.st (st_field rfl) rfl ?_) | (show SW _ _ _ _ (⟨_, Op.binOp _ _ _ _ _, _, _, _, none⟩ :: _) _ _; refine SW.st (st_sub rfl rfl (by omega) (by omega)) rfl ?_) | (show SW _ _ _ _ (⟨_, Op.indexAddr _ _ _, _, _, _, none⟩ :: _) _ _; first | refine SW.st (st_indexN rfl rfl (by assumption) (by omega)) rfl ?_ | refine SW.st (st_indexI (k - 1) rfl rfl (by assumption) (by omega) (by omega)) rfl ?_) | (show SW _ _ _ _ (⟨_, Op.call ⟨.builtin .len, _, _⟩, _, _, _, none⟩ :: _) _ _; refine SW.st (st_len rfl) rfl ?_) | (show SW _ _ _ _ (⟨_, Op.load _ _, _, _, _, none⟩ :: _) _ _; first | refine SW.st (st_loads rfl rfl ((heapIn hb2))) rfl ?_ | refine SW.st (st_load rfl (hb3.cell rfl)) rfl ?_ | refine SW.st (st_loadx hw rfl g0) rfl ?_ | refine SW.st (st_loadx hw rfl gP) rfl ?_) | (show SW _ _ _ _ (⟨_, Op.call ⟨.value (.func _), _, _⟩, _, _, _, none⟩ :: _) _ _; refine SW.qcall rfl rfl (fun w1 hw1 => (cO _ (Ext.trans hw hw1))) ?_) | exact SW.qnil rfl)
          all_goals first | (exfalso; omega) | skip
          exact Post.ret1 rfl rfl ⟨_, rfl, hw, rfl⟩
      · rw [cacheB_f fun hm => hord (by have := (hm.slabs k hkl).live; omega)]
        repeat' (first | (show CW _ _ _ _ _ _; first | refine CW.seq ?_ | refine CW.region ?_ | refine CW.block ?_ | refine CW.condtr rfl (by with_reducible rfl) ?_ | refine CW.condd_t rfl (by omega) ?_ | refine CW.skip ?_ | refine CW.ret ?_ | (apply CW.quiet1 mixed; (· kernel_rfl); rotate_left; intro w1 hw1; replace hw := Ext.trans hw hw1; replace hb2 := hb2.ext hw1; replace hb3 := hb3.ext hw1; clear hw1; rotate_right)) | (show Post _ _ _ _ _; first | refine Post.seq ?_ | refine Post.seq_ret ?_ | refine Post.blk_ret ?_ | refine Post.again_ret ?_) | refine SW.nil ?_ | (show SW _ _ _ _ (⟨_, _, _, _, _, some _⟩ :: _) _ _; first | refine SW.skip_f rfl rfl (by with_reducible rfl) rfl ?_ | refine SW.skip_u rfl rfl (by with_reducible rfl) rfl ?_ | refine SW.splitn_t rfl rfl rfl (by omega) ?_) | refine SW.pure rfl rfl ?_ | (show SW _ _ _ _ (⟨_, Op.fieldAddr _ _ _, _, _, _, none⟩ :: _) _ _; refine SW.st (st_field rfl) rfl ?_) | (show SW _ _ _ _ (⟨_, Op.indexAddr _ _ _, _, _, _, none⟩ :: _) _ _; refine SW.st (st_indexN rfl rfl (by assumption) (by omega)) rfl ?_) | (show SW _ _ _ _ (⟨_, Op.call ⟨.builtin .len, _, _⟩, _, _, _, none⟩ :: _) _ _; refine SW.st (st_len rfl) rfl ?_) | (show SW _ _ _ _ (⟨_, Op.load _ _, _, _, _, none⟩ :: _) _ _; first | refine SW.st (st_loads rfl rfl ((heapIn hb2))) rfl ?_ | refine SW.st (st_load rfl (hb3.cell rfl)) rfl ?_ | refine SW.st (st_loadx hw rfl g0) rfl ?_) | (show SW _ _ _ _ (⟨_, Op.call ⟨.value (.func _), _, _⟩, _, _, _, none⟩ :: _) _ _; refine SW.qcall rfl rfl (fun w1 hw1 => (cO _ (Ext.trans hw hw1))) ?_) | exact SW.qnil rfl)
        all_goals first | (exfalso; omega) | skip
        exact Post.ret1 rfl rfl ⟨_, rfl, hw, rfl⟩
    · have hall : ∀ (i : Nat) (h : i < c.Slabs.length), SlabMay s c i h := fun i h => hI i h (by omega)
      repeat' (first | (show CW _ _ _ _ _ _; first | refine CW.seq ?_ | refine CW.region ?_ | refine CW.block ?_ | refine CW.condd_f rfl (by omega) ?_ | refine CW.exit ?_) | (show Post _ _ _ _ _; first | refine Post.seq ?_ | refine Post.seq_exit ?_ | refine Post.hit ?_ | refine Post.again_exit ?_) | refine SW.nil ?_ | refine SW.pure rfl rfl ?_ | (show SW _ _ _ _ (⟨_, Op.fieldAddr _ _ _, _, _, _, none⟩ :: _) _ _; refine SW.st (st_field rfl) rfl ?_) | (show SW _ _ _ _ (⟨_, Op.call ⟨.builtin .len, _, _⟩, _, _, _, none⟩ :: _) _ _; refine SW.st (st_len rfl) rfl ?_) | (show SW _ _ _ _ (⟨_, Op.load _ _, _, _, _, none⟩ :: _) _ _; refine SW.st (st_load rfl (hb3.cell rfl)) rfl ?_))
      clear hI hkn hk hA
      refine CW.loop (fun k : Nat => [(3, .pointer (some ⟨b3, 0, none⟩)), (11, .int .i64 (k : Int))])
        (fun k w' => k ≤ q.Active.n ∧ Ext w w' ∧ Blk w' b3 94 (encC q) ∧ ∀ (i : Nat) (h : i < c.Active.length), i < k → ActMay c i h) (fun k => q.Active.n - k) 0
        ⟨rfl, rfl, trivial⟩ ⟨by omega, hw, hb3, fun i h h' => by omega⟩ ?_
      clear hw hb3 hb2
      rintro k w' ⟨hk, hw, hb3, hI⟩
      have hA := hq.active.base
      by_cases hkn : k < q.Active.n
      · have hkl : k < c.Active.length := by omega
        obtain ⟨a, ea⟩ : ∃ a, c.Active[k] = a := ⟨_, rfl⟩
        have gA := hq.active.one hkn (u := .int .i64 a) (by rw [← ea]; rfl)
        by_cases ha : a = -1
        · repeat' (first | (show CW _ _ _ _ _ _; first | refine CW.seq ?_ | refine CW.region ?_ | refine CW.block ?_ | refine CW.condd_t rfl (by omega) ?_ | refine CW.skip ?_ | refine CW.exit ?_) | (show Post _ _ _ _ _; first | refine Post.seq ?_ | refine Post.seq_exit ?_ | refine Post.hit ?_) | refine SW.nil ?_ | refine SW.pure rfl rfl ?_ | (show SW _ _ _ _ (⟨_, Op.fieldAddr _ _ _, _, _, _, none⟩ :: _) _ _; refine SW.st (st_field rfl) rfl ?_) | (show SW _ _ _ _ (⟨_, Op.binOp _ _ _ _ _, _, _, _, none⟩ :: _) _ _; refine SW.st (st_add rfl rfl (by omega) (by omega)) rfl ?_) | (show SW _ _ _ _ (⟨_, Op.indexAddr _ _ _, _, _, _, none⟩ :: _) _ _; refine SW.st (st_indexN rfl rfl (by assumption) (by omega)) rfl ?_) | (show SW _ _ _ _ (⟨_, Op.call ⟨.builtin .len, _, _⟩, _, _, _, none⟩ :: _) _ _; refine SW.st (st_len rfl) rfl ?_) | (show SW _ _ _ _ (⟨_, Op.load _ _, _, _, _, none⟩ :: _) _ _; first | refine SW.st (st_loadx hw rfl gA) rfl ?_ | refine SW.st (st_load rfl (hb3.cell rfl)) rfl ?_))
          exact Post.again (k + 1) ⟨rfl, rfl, trivial⟩ (by omega) ⟨by omega, hw, hb3, fun i h h' => by
            by_cases ei : i = k
            · subst ei; exact .inl (by omega)
            · exact hI i h (by omega)⟩
        · obtain ⟨z, hz⟩ : ∃ z, idxOf (atB a) c.Slabs = z := ⟨_, rfl⟩
          have hzi := idxOf_ge (atB a) c.Slabs
          rw [hz] at hzi
          have cF : ∀ w', Ext w w' → Ans Try.prog 158 [.agg (encC q).toArray, .int .i64 a] w' fun v _ => v = .int .i64 z := fun w' hx => by
            have := slabAt_ans q c.Slabs a w' (hq.slabs.ext hx) (by omega)
            rwa [hz] at this
          by_cases hz0 : 0 ≤ z
          · repeat' (first | (show CW _ _ _ _ _ _; first | refine CW.seq ?_ | refine CW.region ?_ | refine CW.block ?_ | refine CW.condd_t rfl (by omega) ?_ | refine CW.condd_f rfl (by omega) ?_ | refine CW.skip ?_ | (apply CW.quiet1 mixed; (· kernel_rfl); rotate_left; intro w1 hw1; replace hw := Ext.trans hw hw1; replace hb3 := hb3.ext hw1; clear hw1; rotate_right)) | (show Post _ _ _ _ _; refine Post.seq ?_) | refine SW.nil ?_ | refine SW.pure rfl rfl ?_ | (show SW _ _ _ _ (⟨_, Op.fieldAddr _ _ _, _, _, _, none⟩ :: _) _ _; refine SW.st (st_field rfl) rfl ?_) | (show SW _ _ _ _ (⟨_, Op.indexAddr _ _ _, _, _, _, none⟩ :: _) _ _; refine SW.st (st_indexN rfl rfl (by assumption) (by omega)) rfl ?_) | (show SW _ _ _ _ (⟨_, Op.call ⟨.builtin .len, _, _⟩, _, _, _, none⟩ :: _) _ _; refine SW.st (st_len rfl) rfl ?_) | (show SW _ _ _ _ (⟨_, Op.load _ _, _, _, _, none⟩ :: _) _ _; first | refine SW.st (st_loadx hw rfl gA) rfl ?_ | refine SW.st (st_load rfl (hb3.cell rfl)) rfl ?_ | refine SW.st (st_loads rfl rfl ((fun _ _ => hb3.cell))) rfl ?_) | (show SW _ _ _ _ (⟨_, Op.call ⟨.value (.func _), _, _⟩, _, _, _, none⟩ :: _) _ _; refine SW.qcall rfl rfl (fun w1 hw1 => (cF _ (Ext.trans hw hw1))) ?_) | exact SW.qnil rfl)
            all_goals first | (exfalso; omega) | skip
            refine CW.loop (fun j : Nat => [(3, .pointer (some ⟨b3, 0, none⟩)), (11, .int .i64 (k : Int)), (12, .int .i64 (j : Int))])
              (fun j w' => j ≤ k ∧ Ext w w' ∧ Blk w' b3 94 (encC q) ∧ ∀ (i : Nat) (h : i < c.Active.length), i < j → c.Active[i] ≠ a) (fun j => k - j) 0
              ⟨rfl, rfl, rfl, trivial⟩ ⟨by omega, hw, hb3, fun i h h' => by omega⟩ ?_
            clear hw hb3
            rintro j w' ⟨hj, hw, hb3, hJ⟩
            by_cases hjk : j < k
            · have gJ := hq.active.one (show j < q.Active.n by omega) (u := .int .i64 (c.Active[j]'(by omega))) rfl
              by_cases hx : (c.Active[j]'(by omega)) = a
              · rw [cacheB_f fun hm => by
                  rcases hm.acts k hkl with g | ⟨g1, g2⟩
                  · omega
                  · rw [ea] at g1
                    exact g1 (List.mem_take_iff_getElem.2 ⟨j, by omega, hx⟩)]
                repeat' (first | (show CW _ _ _ _ _ _; first | refine CW.seq ?_ | refine CW.region ?_ | refine CW.block ?_ | refine CW.condd_t rfl (by omega) ?_ | refine CW.skip ?_ | refine CW.ret ?_ | (apply CW.quiet1 mixed; (· kernel_rfl); rotate_left; intro w1 hw1; replace hw := Ext.trans hw hw1; replace hb3 := hb3.ext hw1; clear hw1; rotate_right)) | (show Post _ _ _ _ _; first | refine Post.seq ?_ | refine Post.seq_ret ?_ | refine Post.blk_ret ?_ | refine Post.again_ret ?_) | refine SW.nil ?_ | refine SW.pure rfl rfl ?_ | (show SW _ _ _ _ (⟨_, Op.fieldAddr _ _ _, _, _, _, none⟩ :: _) _ _; refine SW.st (st_field rfl) rfl ?_) | (show SW _ _ _ _ (⟨_, Op.indexAddr _ _ _, _, _, _, none⟩ :: _) _ _; refine SW.st (st_indexN rfl rfl (by assumption) (by omega)) rfl ?_) | (show SW _ _ _ _ (⟨_, Op.load _ _, _, _, _, none⟩ :: _) _ _; first | refine SW.st (st_loadx hw rfl gA) rfl ?_ | refine SW.st (st_loadx hw rfl gJ) rfl ?_ | refine SW.st (st_load rfl (hb3.cell rfl)) rfl ?_) | exact SW.qnil rfl)
                all_goals first | (exfalso; omega) | skip
                exact Post.ret1 rfl rfl ⟨_, rfl, hw, rfl⟩
              · repeat' (first | (show CW _ _ _ _ _ _; first | refine CW.seq ?_ | refine CW.region ?_ | refine CW.block ?_ | refine CW.condd_t rfl (by omega) ?_ | refine CW.condd_f rfl (by omega) ?_ | refine CW.skip ?_ | (apply CW.quiet1 mixed; (· kernel_rfl); rotate_left; intro w1 hw1; replace hw := Ext.trans hw hw1; replace hb3 := hb3.ext hw1; clear hw1; rotate_right)) | (show Post _ _ _ _ _; first | refine Post.seq ?_ | refine Post.blk ?_) | refine SW.nil ?_ | refine SW.pure rfl rfl ?_ | (show SW _ _ _ _ (⟨_, Op.fieldAddr _ _ _, _, _, _, none⟩ :: _) _ _; refine SW.st (st_field rfl) rfl ?_) | (show SW _ _ _ _ (⟨_, Op.binOp _ _ _ _ _, _, _, _, none⟩ :: _) _ _; refine SW.st (st_add rfl rfl (by omega) (by omega)) rfl ?_) | (show SW _ _ _ _ (⟨_, Op.indexAddr _ _ _, _, _, _, none⟩ :: _) _ _; refine SW.st (st_indexN rfl rfl (by assumption) (by omega)) rfl ?_) | (show SW _ _ _ _ (⟨_, Op.load _ _, _, _, _, none⟩ :: _) _ _; first | refine SW.st (st_loadx hw rfl gA) rfl ?_ | refine SW.st (st_loadx hw rfl gJ) rfl ?_ | refine SW.st (st_load rfl (hb3.cell rfl)) rfl ?_) | exact SW.qnil rfl)
                all_goals first | (exfalso; omega) | skip
                exact Post.again (j + 1) ⟨rfl, rfl, rfl, trivial⟩ (by omega) ⟨by omega, hw, hb3, fun i h h' => by
                  by_cases ei : i = j
                  · subst ei; exact hx
                  · exact hJ i h (by omega)⟩
            · repeat' (first | (show CW _ _ _ _ _ _; first | refine CW.seq ?_ | refine CW.region ?_ | refine CW.condd_f rfl (by omega) ?_ | refine CW.exit ?_) | (show Post _ _ _ _ _; first | refine Post.seq ?_ | refine Post.seq_exit ?_ | refine Post.hit ?_ | refine Post.blk ?_ | refine Post.again_exit ?_) | refine SW.nil ?_ | refine SW.pure rfl rfl ?_ | (show SW _ _ _ _ (⟨_, Op.binOp _ _ _ _ _, _, _, _, none⟩ :: _) _ _; refine SW.st (st_add rfl rfl (by omega) (by omega)) rfl ?_))
              exact Post.again (k + 1) ⟨rfl, rfl, trivial⟩ (by omega) ⟨by omega, hw, hb3, fun i h h' => by
                by_cases ei : i = k
                · subst ei
                  refine .inr ⟨?_, by rw [ea, ← hzi]; exact decide_eq_true hz0⟩
                  rw [ea]
                  intro hm
                  obtain ⟨i', hi', e'⟩ := List.mem_take_iff_getElem.1 hm
                  exact hJ i' (by omega) (by omega) e'
                · exact hI i h (by omega)⟩
          · rw [cacheB_f fun hm => by
              rcases hm.acts k hkl with g | ⟨g1, g2⟩
              · omega
              · rw [ea] at g2
                rw [g2] at hzi
                exact hz0 (of_decide_eq_true hzi)]
            repeat' (first | (show CW _ _ _ _ _ _; first | refine CW.seq ?_ | refine CW.region ?_ | refine CW.block ?_ | refine CW.condd_t rfl (by omega) ?_ | refine CW.condd_f rfl (by omega) ?_ | refine CW.skip ?_ | refine CW.ret ?_ | (apply CW.quiet1 mixed; (· kernel_rfl); rotate_left; intro w1 hw1; replace hw := Ext.trans hw hw1; replace hb3 := hb3.ext hw1; clear hw1; rotate_right)) | (show Post _ _ _ _ _; first | refine Post.seq ?_ | refine Post.seq_ret ?_ | refine Post.blk_ret ?_ | refine Post.again_ret ?_) | refine SW.nil ?_ | refine SW.pure rfl rfl ?_ | (show SW _ _ _ _ (⟨_, Op.fieldAddr _ _ _, _, _, _, none⟩ :: _) _ _; refine SW.st (st_field rfl) rfl ?_) | (show SW _ _ _ _ (⟨_, Op.indexAddr _ _ _, _, _, _, none⟩ :: _) _ _; refine SW.st (st_indexN rfl rfl (by assumption) (by omega)) rfl ?_) | (show SW _ _ _ _ (⟨_, Op.call ⟨.builtin .len, _, _⟩, _, _, _, none⟩ :: _) _ _; refine SW.st (st_len rfl) rfl ?_) | (show SW _ _ _ _ (⟨_, Op.load _ _, _, _, _, none⟩ :: _) _ _; first | refine SW.st (st_loadx hw rfl gA) rfl ?_ | refine SW.st (st_load rfl (hb3.cell rfl)) rfl ?_ | refine SW.st (st_loads rfl rfl ((fun _ _ => hb3.cell))) rfl ?_) | (show SW _ _ _ _ (⟨_, Op.call ⟨.value (.func _), _, _⟩, _, _, _, none⟩ :: _) _ _; refine SW.qcall rfl rfl (fun w1 hw1 => (cF _ (Ext.trans hw hw1))) ?_) | exact SW.qnil rfl)
            all_goals first | (exfalso; omega) | skip
            exact Post.ret1 rfl rfl ⟨_, rfl, hw, rfl⟩
      · rw [cacheB_t ⟨hlay, h4, h5, hall, fun i h => hI i h (by omega)⟩]
        repeat' (first | (show CW _ _ _ _ _ _; first | refine CW.seq ?_ | refine CW.region ?_ | refine CW.condd_f rfl (by omega) ?_ | refine CW.ret ?_ | refine CW.exit ?_) | (show Post _ _ _ _ _; first | refine Post.seq ?_ | refine Post.seq_exit ?_ | refine Post.hit ?_ | refine Post.again_exit ?_) | refine SW.nil ?_ | refine SW.pure rfl rfl ?_ | (show SW _ _ _ _ (⟨_, Op.fieldAddr _ _ _, _, _, _, none⟩ :: _) _ _; refine SW.st (st_field rfl) rfl ?_) | (show SW _ _ _ _ (⟨_, Op.call ⟨.builtin .len, _, _⟩, _, _, _, none⟩ :: _) _ _; refine SW.st (st_len rfl) rfl ?_) | (show SW _ _ _ _ (⟨_, Op.load _ _, _, _, _, none⟩ :: _) _ _; refine SW.st (st_load rfl (hb3.cell rfl)) rfl ?_))
        exact Post.ret1 rfl rfl ⟨_, rfl, hw, rfl⟩
end Go.Proofs.Ytfdmgflboibdoaa

/-
  A map of bools that the call makes, as the list of the keys that were put in, for the stepper. No program in sight.
-/
set_option linter.unusedVariables false
namespace Go.Proofs.Ytfdmgflboibdoaa
open Go.RowKit Go.Maps

/-- block b of w is a map whose keys are these, each with the element 'true' -/
structure BMap (w : World) (P : Program) (k e : TypeId) (b : Nat) (keys : List Lit) : Prop where
  own : w.ownsMap (H := Unit) P k (plainElem P e) b keys.length (setOf (.lit (.bool true)) keys)
  ok : ∀ x ∈ keys, WideAt.IsKeyLit x
theorem BMap.ext {w w' : World} {P : Program} {k e : TypeId} {b : Nat} {keys : List Lit} (h : BMap w P k e b keys) (hx : Ext w w') : BMap w' P k e b keys := ⟨h.own.kept (row := none) ⟨hx.os, hx.tape, hx.output, hx.size, fun i hi _ => hx.block i hi⟩ (by simp), h.ok⟩
theorem BMap.grown {w w' : World} {P : Program} {k e : TypeId} {b : Nat} {keys : List Lit} {row : Option Nat} (h : BMap w P k e b keys) (hg : w.grownBy w' row) (hne : some b ≠ row) : BMap w' P k e b keys := ⟨h.own.kept hg hne, h.ok⟩
theorem BMap.lt {w : World} {P : Program} {k e : TypeId} {b : Nat} {keys : List Lit} (h : BMap w P k e b keys) : b < w.heap.size := h.own.lt

theorem atKey_fold (u z : DataW Unit) (k : Lit) : ∀ (acc : List Lit) (m : DataW Unit), IsMap m → (∀ x ∈ acc, WideAt.IsKeyLit x) → (acc.foldl (fun m x => m.put x u) m).atKey k z = if acc.any (fun x => x.sameKey k) then u else m.atKey k z
  | [], m, _, _ => by simp
  | x :: r, m, hm, h => by
    rw [List.foldl_cons, atKey_fold u z k r (m.put x u) (hm.put x u) (fun y hy => h y (by simp [hy])), List.any_cons]
    by_cases e : k = x
    · subst e
      rw [atKey_put_same hm (h k (by simp)), WideAt.sameKey_self (h k (by simp))]
      simp
    · rw [atKey_put_other e, sameKey_ne (fun e' => e e'.symm)]
      simp
theorem atKey_set (k : Lit) (acc : List Lit) (h : ∀ x ∈ acc, WideAt.IsKeyLit x) : (setOf (.lit (.bool true)) acc : DataW Unit).atKey k (.lit (.bool false)) = .lit (.bool (acc.any fun x => x.sameKey k)) := by
  rw [setOf, atKey_fold _ _ k acc _ isMap_empty h]
  cases acc.any fun x => x.sameKey k <;> rfl

section
variable {P : Program} {n : Nat} {ops : Array Oper} {Q : Exit → Act → World → Prop} {rest : List Oper} {L : Env} {w : World} {T : TypeId} {pos : String} {af : Array Edge}
/-- 'make(map[K]bool)' -/
theorem SW.makeMap {d : Nat} {t : TypeId} (k e : TypeId) (hn : Nat.blt d n = true) (h : ∀ b w', Ext w w' → w.heap.size ≤ b → BMap w' P k e b [] → SW P n ops (.eff Q) rest ((d, .map (some b)) :: L) w') :
    SW P n ops (.eff Q) (⟨some d, .makeMap t none, T, pos, af, none⟩ :: rest) L w :=
  ⟨fun a ha => by
    simp only [swp, wpList, Region.wanted, if_true]
    refine .inl ?_
    unfold Oper.wp
    have : (execOp a.eval ⟨some d, .makeMap t none, T, pos, af, none⟩).run P w = .ok (.value (.map (some w.heap.size))) (w.alloc (.map #[] 0)) := by
      simp [execOp, run_makeMap]
    rw [this, Oper.upon_value]
    exact (h _ _ (Ext.alloc w _) (Nat.le_refl _) ⟨World.ownsMap_made w P k _, fun x hx => by simp at hx⟩).out _ (ha.put hn _)⟩
/-- 'm[x]' -/
theorem st_lookupB {d : Option Nat} {g : Option (Nat × Bool)} {t k e : TypeId} {b : Nat} {keys : List Lit} {m x : Operand} {key : Value} {kl : Lit} (hB : BMap w P k e b keys) (K : Keyed P k) (ht : P.underlying t = some (.map k e)) (he : P.underlying e = some .bool) (hz : ∀ w, (zeroValue e).run P w = .ok (.bool false) w)
    (hm : opv L m = some (.map (some b))) (hx : opv L x = some key) (hkey : Go.keyOf P k key = some kl) : St P ⟨d, .lookup t m x false, T, pos, af, g⟩ L w (.bool (keys.any fun y => y.sameKey kl)) :=
  ⟨fun n a ha w' hxt => by
    have hB' := hB.ext hxt
    obtain ⟨v, ps, hrun, hv⟩ := hB'.own.lookup K ht (hz w') (plainElem_bool he false) hkey
    rw [atKey_set _ _ hB.ok] at hv
    have hvb : v = .bool (keys.any fun y => y.sameKey kl) := by
      unfold plainElem at hv
      rw [he] at hv
      cases v <;> simp at hv
      rw [hv.1]
    subst hvb
    simp [execOp, ha.eval hm, ha.eval hx, hrun]⟩
/-- 'm[x] = true' -/
theorem SW.mapPut {t k e : TypeId} {b : Nat} {keys : List Lit} {m x y : Operand} {key : Value} {kl : Lit} (hB : BMap w P k e b keys) (K : Keyed P k) (ht : P.underlying t = some (.map k e)) (he : P.underlying e = some .bool) (hroom : keys.length < maxLen)
    (hm : opv L m = some (.map (some b))) (hx : opv L x = some key) (hy : opv L y = some (.bool true)) (hkey : Go.keyOf P k key = some kl) (hk : WideAt.IsKeyLit kl)
    (h : ∀ w', BMap w' P k e b (keys ++ [kl]) → w.grownBy w' (some b) → SW P n ops (.eff Q) rest L w') : SW P n ops (.eff Q) (⟨none, .mapUpdate t m x y, T, pos, af, none⟩ :: rest) L w :=
  ⟨fun a ha => by
    obtain ⟨w', hrun, r1, r2⟩ := hB.own.update K ht hroom hkey (plainElem_bool he true)
    simp only [swp, wpList, Region.wanted, if_true]
    refine .inl ?_
    unfold Oper.wp
    have : (execOp a.eval ⟨none, .mapUpdate t m x y, T, pos, af, none⟩).run P w = .ok .skip w' := by
      simp [execOp, ha.eval hm, ha.eval hx, ha.eval hy, hrun]
    rw [this, Oper.upon_skip]
    refine (h w' ⟨?_, fun z hz => ?_⟩ r2).out _ ha
    · rw [setOf_snoc]
      simpa using r1
    · rcases List.mem_append.1 hz with hz | hz
      · exact hB.ok z hz
      · simp at hz; subst hz; exact hk⟩
end
end Go.Proofs.Ytfdmgflboibdoaa
