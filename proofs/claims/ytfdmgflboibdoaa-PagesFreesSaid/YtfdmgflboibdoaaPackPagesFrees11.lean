/-
  Contracts: pages.list, pages.live; listOf of the reference.
-/
import Derived.Test.YtfdmgflboibdoaaPackPagesFrees9
import Derived.Test.YtfdmgflboibdoaaPackPagesFrees10
import Derived.Test.YtfdmgflboibdoaaPackPagesFrees5
set_option linter.unusedVariables false
set_option linter.unusedSimpArgs false
namespace Go.Proofs.Ytfdmgflboibdoaa
open Go.RowKit

/-- the key of a row is the list's -/
def rowKey (y : LRow) (x : PList) : Prop := y.Cpu = x.Cpu ∧ y.Zone = x.Zone ∧ y.Ty = x.Ty
theorem RdL.key {w : World} {r : LRow} {l : PList} (h : RdL w r l) : rowKey r l := ⟨h.cpu, h.zone, h.ty⟩

theorem plist_ans (r : HRow) (L : List PList) (ls : List LRow) (x : PList) (y : LRow) (w : World) (hl : RdLs w r.Lists ls L) (hk : rowKey y x) (hn : r.Lists.n ≤ 1000000000000000000) :
    Ans Try.prog 129 [.agg (encH r).toArray, .agg (encL y).toArray] w fun v _ => v = .tuple #[.int .i64 (kpos L x : Int), .bool (khere L x)] := by
  refine ans_of Try.func129 rfl Try.ntmps129 rfl ?_
  refine CW.seq (CW.region (SW.box rfl rfl fun b2 w1 hw hb2b hb2 => ?_))
  refine SW.box rfl rfl fun b3 w2 hw2 hb3b hb3 => ?_
  (replace hw := Ext.trans hw hw2; replace hb2 := hb2.ext hw2)
  obtain ⟨l1, l2⟩ := hl.len
  have hA := hl.row.base
  repeat' (first | (show CW _ _ _ _ _ _; first | refine CW.seq ?_ | refine CW.region ?_ | refine CW.block ?_) | (show Post _ _ _ _ _; refine Post.seq ?_) | refine SW.nil ?_ | refine SW.pure rfl rfl ?_)
  refine CW.loop (fun i : Nat => [(2, .pointer (some ⟨b2, 0, none⟩)), (3, .pointer (some ⟨b3, 0, none⟩)), (6, .int .i64 (i : Int))])
    (fun i w' => i ≤ r.Lists.n ∧ Ext w w' ∧ Blk w' b2 27 (encH r) ∧ Blk w' b3 88 (encL y) ∧ ∀ (k : Nat) (h : k < L.length), k < i → aheadL L[k] x) (fun i => r.Lists.n - i) 0
    ⟨rfl, rfl, rfl, trivial⟩ ⟨by omega, hw, hb2, hb3, fun k h h' => by omega⟩ ?_
  clear hw hb2 hb3
  rintro i w' ⟨hi, hw, hb2, hb3, hI⟩
  by_cases hin : i < r.Lists.n
  · have hil : i < L.length := by omega
    have hils : i < ls.length := by omega
    have hrd := hl.each.get i hils hil
    obtain ⟨q, hq⟩ : ∃ q, decide (aheadL L[i] x) = q := ⟨_, rfl⟩
    obtain ⟨p, hp⟩ : ∃ p, decide (aheadL x L[i]) = p := ⟨_, rfl⟩
    have cL : ∀ w', Ans Try.prog 147 [.agg (encL ls[i]).toArray, .agg (encL y).toArray] w' fun v _ => v = .bool q := fun w' => by
      have := lessL_ans ls[i] y L[i] x w' hrd.key hk
      rwa [hq] at this
    have cR : ∀ w', Ans Try.prog 147 [.agg (encL y).toArray, .agg (encL ls[i]).toArray] w' fun v _ => v = .bool p := fun w' => by
      have := lessL_ans y ls[i] x L[i] w' hk hrd.key
      rwa [hp] at this
    cases q
    · have hno := of_decide_eq_false hq
      have ek : kpos L x = i := kpos_spec (by omega) hI (fun _ => hno)
      have eh : khere L x = !p := by
        unfold khere
        simp only [ek, dif_pos hil, ← hp]
        rcases ahead_tri L[i] x with e | e | e
        · exact absurd e hno
        · have : ¬ aheadL x L[i] := by unfold aheadL keyEq at *; omega
          simp [e, this]
        · have := (ahead_not e).2.1
          simp [e, this]
      rw [ek, eh]
      cases p
      all_goals
        repeat' (first | (show CW _ _ _ _ _ _; first | refine CW.seq ?_ | refine CW.condfr rfl (by with_reducible rfl) ?_ | refine CW.ret ?_ | refine CW.exit ?_ | (apply CW.quiet1 mixed; (· kernel_rfl); rotate_left; intro w1 hw1; replace hw := Ext.trans hw hw1; replace hb2 := hb2.ext hw1; replace hb3 := hb3.ext hw1; clear hw1; rotate_right)) | (show Post _ _ _ _ _; first | refine Post.seq ?_ | refine Post.seq_exit ?_ | refine Post.hit ?_ | refine Post.again_exit ?_) | (show SW _ _ _ _ (⟨_, _, _, _, _, some _⟩ :: _) _ _; first | refine SW.want_t rfl rfl (by with_reducible rfl) ?_ | refine SW.splitd_t rfl rfl rfl (by omega) ?_) | refine SW.pure rfl rfl ?_ | (show SW _ _ _ _ (⟨_, Op.fieldAddr _ _ _, _, _, _, none⟩ :: _) _ _; refine SW.st (st_field rfl) rfl ?_) | (show SW _ _ _ _ (⟨_, Op.indexAddr _ _ _, _, _, _, none⟩ :: _) _ _; refine SW.st (st_indexN rfl rfl (by assumption) (by omega)) rfl ?_) | (show SW _ _ _ _ (⟨_, Op.call ⟨.builtin .len, _, _⟩, _, _, _, none⟩ :: _) _ _; refine SW.st (st_len rfl) rfl ?_) | (show SW _ _ _ _ (⟨_, Op.load _ _, _, _, _, none⟩ :: _) _ _; first | refine SW.st (st_load rfl (hb2.cell (i := 3) (v := .slice r.Lists.A r.Lists.n r.Lists.c) rfl)) rfl ?_ | refine SW.st (st_loadsx hw rfl rfl ((hl.row.all hin))) rfl ?_ | refine SW.st (st_loads rfl rfl ((fun _ _ => hb3.cell))) rfl ?_) | (show SW _ _ _ _ (⟨_, Op.call ⟨.value (.func _), _, _⟩, _, _, _, none⟩ :: _) _ _; first | refine SW.qcall rfl rfl (fun w1 hw1 => (cL _)) ?_ | refine SW.qcall rfl rfl (fun w1 hw1 => (cR _)) ?_) | exact SW.qnil rfl)
        exact Post.ret2 rfl rfl rfl ⟨_, rfl, hw, rfl⟩
    · have hyes := of_decide_eq_true hq
      repeat' (first | (show CW _ _ _ _ _ _; first | refine CW.seq ?_ | refine CW.region ?_ | refine CW.block ?_ | refine CW.condtr rfl (by with_reducible rfl) ?_ | refine CW.skip ?_ | (apply CW.quiet1 mixed; (· kernel_rfl); rotate_left; intro w1 hw1; replace hw := Ext.trans hw hw1; replace hb2 := hb2.ext hw1; replace hb3 := hb3.ext hw1; clear hw1; rotate_right)) | (show Post _ _ _ _ _; first | refine Post.seq ?_ | refine Post.blk ?_) | refine SW.nil ?_ | (show SW _ _ _ _ (⟨_, _, _, _, _, some _⟩ :: _) _ _; first | refine SW.want_t rfl rfl (by with_reducible rfl) ?_ | refine SW.splitd_t rfl rfl rfl (by omega) ?_) | refine SW.pure rfl rfl ?_ | (show SW _ _ _ _ (⟨_, Op.fieldAddr _ _ _, _, _, _, none⟩ :: _) _ _; refine SW.st (st_field rfl) rfl ?_) | (show SW _ _ _ _ (⟨_, Op.binOp _ _ _ _ _, _, _, _, none⟩ :: _) _ _; refine SW.st (st_add rfl rfl (by omega) (by omega)) rfl ?_) | (show SW _ _ _ _ (⟨_, Op.indexAddr _ _ _, _, _, _, none⟩ :: _) _ _; refine SW.st (st_indexN rfl rfl (by assumption) (by omega)) rfl ?_) | (show SW _ _ _ _ (⟨_, Op.call ⟨.builtin .len, _, _⟩, _, _, _, none⟩ :: _) _ _; refine SW.st (st_len rfl) rfl ?_) | (show SW _ _ _ _ (⟨_, Op.load _ _, _, _, _, none⟩ :: _) _ _; first | refine SW.st (st_load rfl (hb2.cell (i := 3) (v := .slice r.Lists.A r.Lists.n r.Lists.c) rfl)) rfl ?_ | refine SW.st (st_loadsx hw rfl rfl ((hl.row.all hin))) rfl ?_ | refine SW.st (st_loads rfl rfl ((fun _ _ => hb3.cell))) rfl ?_) | (show SW _ _ _ _ (⟨_, Op.call ⟨.value (.func _), _, _⟩, _, _, _, none⟩ :: _) _ _; refine SW.qcall rfl rfl (fun w1 hw1 => (cL _)) ?_) | exact SW.qnil rfl)
      exact Post.again (i + 1) ⟨rfl, rfl, rfl, trivial⟩ (by omega) ⟨by omega, hw, hb2, hb3, fun k h h' => by
        by_cases e : k = i
        · subst e; exact hyes
        · exact hI k h (by omega)⟩
  · have ek : kpos L x = i := kpos_spec (by omega) hI (fun h => by omega)
    have eh : khere L x = false := by unfold khere; rw [dif_neg (by omega)]
    rw [ek, eh]
    repeat' (first | (show CW _ _ _ _ _ _; first | refine CW.seq ?_ | refine CW.condfr rfl (by with_reducible rfl) ?_ | refine CW.ret ?_ | refine CW.exit ?_ | (apply CW.quiet1 mixed; (· kernel_rfl); rotate_left; intro w1 hw1; replace hw := Ext.trans hw hw1; replace hb2 := hb2.ext hw1; replace hb3 := hb3.ext hw1; clear hw1; rotate_right)) | (show Post _ _ _ _ _; first | refine Post.seq ?_ | refine Post.seq_exit ?_ | refine Post.hit ?_ | refine Post.again_exit ?_) | (show SW _ _ _ _ (⟨_, _, _, _, _, some _⟩ :: _) _ _; first | refine SW.skip_t rfl rfl (by with_reducible rfl) rfl ?_ | refine SW.splitd_f rfl rfl rfl (by omega) ?_) | refine SW.pure rfl rfl ?_ | (show SW _ _ _ _ (⟨_, Op.fieldAddr _ _ _, _, _, _, none⟩ :: _) _ _; refine SW.st (st_field rfl) rfl ?_) | (show SW _ _ _ _ (⟨_, Op.call ⟨.builtin .len, _, _⟩, _, _, _, none⟩ :: _) _ _; refine SW.st (st_len rfl) rfl ?_) | (show SW _ _ _ _ (⟨_, Op.load _ _, _, _, _, none⟩ :: _) _ _; refine SW.st (st_load rfl (hb2.cell (i := 3) (v := .slice r.Lists.A r.Lists.n r.Lists.c) rfl)) rfl ?_) | exact SW.qnil rfl)
    exact Post.ret2 rfl rfl rfl ⟨_, rfl, hw, rfl⟩

/-! the blocks that were given away -/
theorem BinaryNone_ans (A : Option Addr) (n c : Nat) (l : List Block) (a : Int) (w : World) (hl : Sl w 3 encBk A n l) (f : FuncId) [Body Try.prog f] (cv : Block → Int) (hf : ∀ x ∈ l, ∀ w', Ext w w' → Ans Try.prog f ([.agg (encBk x).toArray, .int .i64 a] ++ []) w' fun v _ => v = .int .i64 (cv x))
    (hne : ∀ x ∈ l, cv x ≠ 0) (hn : n ≤ 1000000000000000000) : Ans Try.prog 149 [.slice A n c, .int .i64 a, .func (.func f) #[] #[]] w fun v _ => ∃ i : Nat, v = .tuple #[.int .i64 (i : Int), .bool false] := by
  refine ans_of Try.func149 rfl Try.ntmps149 rfl ?_
  have hw := Ext.refl w
  have hA := hl.base
  have hll := hl.len
  repeat' (first | (show CW _ _ _ _ _ _; first | refine CW.seq ?_ | refine CW.region ?_ | refine CW.block ?_) | (show Post _ _ _ _ _; refine Post.seq ?_) | refine SW.nil ?_ | refine SW.pure rfl rfl ?_ | (show SW _ _ _ _ (⟨_, Op.call ⟨.builtin .len, _, _⟩, _, _, _, none⟩ :: _) _ _; refine SW.st (st_len rfl) rfl ?_))
  refine CW.loop (fun s : Nat × Nat => [(0, .slice A n c), (1, .int .i64 a), (2, .func (.func f) #[] #[]), (8, .int .i64 (n : Int)), (9, .int .i64 (s.1 : Int)), (10, .int .i64 (s.2 : Int))])
    (fun s w' => s.1 ≤ s.2 ∧ s.2 ≤ n ∧ Ext w w') (fun s => s.2 - s.1) (0, n)
    ⟨rfl, rfl, rfl, rfl, rfl, rfl, trivial⟩ ⟨by omega, by omega, hw⟩ ?_
  clear hw
  rintro ⟨i, j⟩ w' ⟨hij, hjn, hw⟩
  simp only at hij hjn ⊢
  by_cases hlt : i < j
  · have hk : (i + j) / 2 < n := by omega
    have hkl := hl.lt hk
    have hfk := fun w1 h1 => hf (l[(i + j) / 2]) (List.getElem_mem hkl) w1 h1
    repeat' (first | (show CW _ _ _ _ _ _; first | refine CW.seq ?_ | refine CW.region ?_ | refine CW.block ?_ | refine CW.condd_t rfl (by omega) ?_ | refine CW.skip ?_) | (show Post _ _ _ _ _; refine Post.seq ?_) | refine SW.nil ?_ | refine SW.pure rfl rfl ?_ | (show SW _ _ _ _ (⟨_, Op.binOp _ _ _ _ _, _, _, _, none⟩ :: _) _ _; refine SW.st (st_add rfl rfl (by omega) (by omega)) rfl ?_) | (show SW _ _ _ _ (⟨_, Op.indexAddr _ _ _, _, _, _, none⟩ :: _) _ _; refine SW.st (st_indexN rfl rfl (by assumption) (by omega)) rfl ?_) | (show SW _ _ _ _ (⟨_, Op.load _ _, _, _, _, none⟩ :: _) _ _; refine SW.st (st_loadsx hw rfl rfl ((hl.all hk))) rfl ?_) | (refine SW.st ((st_convI Try.underlying3 und_uint rfl).eq (congrArg (Value.int .u64) (wrap_u64 (by omega) (by omega)))) rfl ?_) | (refine SW.st ((st_convI und_uint Try.underlying3 rfl).eq (congrArg (Value.int .i64) (wrap_in (by omega) (by omega)))) rfl ?_) | (refine SW.st (st_shr1 rfl rfl) rfl ?_))
    refine SW.callv (cap := []) rfl rfl rfl (hfk _ hw) fun v w1 hw1 hv => ?_
    subst hv
    replace hw := Ext.trans hw hw1
    by_cases hcmp : cv l[(i + j) / 2] < 0
    · repeat' (first | (show CW _ _ _ _ _ _; first | refine CW.region ?_ | refine CW.condd_t rfl (by omega) ?_) | (show Post _ _ _ _ _; first | refine Post.seq ?_ | refine Post.blk ?_) | refine SW.nil ?_ | refine SW.pure rfl rfl ?_ | (show SW _ _ _ _ (⟨_, Op.binOp _ _ _ _ _, _, _, _, none⟩ :: _) _ _; refine SW.st (st_add rfl rfl (by omega) (by omega)) rfl ?_))
      exact Post.again ((i + j) / 2 + 1, j) ⟨rfl, rfl, rfl, rfl, congrArg (fun z => some (Value.int .i64 z)) (by omega), rfl, trivial⟩ (by simp only; omega) ⟨by simp only; omega, hjn, hw⟩
    · repeat' (first | (show CW _ _ _ _ _ _; first | refine CW.region ?_ | refine CW.condd_f rfl (by omega) ?_) | (show Post _ _ _ _ _; first | refine Post.seq ?_ | refine Post.blk ?_) | refine SW.nil ?_ | refine SW.pure rfl rfl ?_)
      exact Post.again (i, (i + j) / 2) ⟨rfl, rfl, rfl, rfl, rfl, congrArg (fun z => some (Value.int .i64 z)) (by omega), trivial⟩ (by simp only; omega) ⟨by simp only; omega, by simp only; omega, hw⟩
  · obtain rfl : i = j := by omega
    by_cases hin : i < n
    · have hkl := hl.lt hin
      have hfk := fun w1 h1 => hf (l[i]) (List.getElem_mem hkl) w1 h1
      have h0 := hne (l[i]) (List.getElem_mem hkl)
      repeat' (first | (show CW _ _ _ _ _ _; first | refine CW.seq ?_ | refine CW.region ?_ | refine CW.condd_f rfl (by omega) ?_ | refine CW.exit ?_) | (show Post _ _ _ _ _; first | refine Post.seq ?_ | refine Post.seq_exit ?_ | refine Post.hit ?_ | refine Post.again_exit ?_) | refine SW.nil ?_ | (show SW _ _ _ _ (⟨_, _, _, _, _, some _⟩ :: _) _ _; first | refine SW.want_t rfl rfl (by with_reducible rfl) ?_ | refine SW.splitd_t rfl rfl rfl (by omega) ?_) | refine SW.pure rfl rfl ?_ | (show SW _ _ _ _ (⟨_, Op.indexAddr _ _ _, _, _, _, none⟩ :: _) _ _; refine SW.st (st_indexN rfl rfl (by assumption) (by omega)) rfl ?_) | (show SW _ _ _ _ (⟨_, Op.load _ _, _, _, _, none⟩ :: _) _ _; refine SW.st (st_loadsx hw rfl rfl ((hl.all hin))) rfl ?_))
      refine SW.callv (cap := []) rfl rfl rfl (hfk _ hw) fun v w1 hw1 hv => ?_
      subst hv
      replace hw := Ext.trans hw hw1
      repeat' (first | (show CW _ _ _ _ _ _; refine CW.ret ?_) | (show Post _ _ _ _ _; refine Post.seq ?_) | refine SW.nil ?_ | (show SW _ _ _ _ (⟨_, _, _, _, _, some _⟩ :: _) _ _; refine SW.want_t rfl rfl (by with_reducible rfl) ?_) | refine SW.pure rfl rfl ?_)
      refine Post.ret2 rfl rfl rfl ⟨_, rfl, hw, i, ?_⟩
      rw [decide_eq_false h0]
    · repeat' (first | (show CW _ _ _ _ _ _; first | refine CW.seq ?_ | refine CW.region ?_ | refine CW.condd_f rfl (by omega) ?_ | refine CW.ret ?_ | refine CW.exit ?_) | (show Post _ _ _ _ _; first | refine Post.seq ?_ | refine Post.seq_exit ?_ | refine Post.hit ?_ | refine Post.again_exit ?_) | refine SW.nil ?_ | (show SW _ _ _ _ (⟨_, _, _, _, _, some _⟩ :: _) _ _; first | refine SW.skip_t rfl rfl (by with_reducible rfl) rfl ?_ | refine SW.splitd_f rfl rfl rfl (by omega) ?_) | refine SW.pure rfl rfl ?_)
      exact Post.ret2 rfl rfl rfl ⟨_, rfl, hw, i, rfl⟩
theorem cmpLive_ans (x : Block) (a : Int) (w : World) : Ans Try.prog 163 ([.agg (encBk x).toArray, .int .i64 a] ++ []) w fun v _ => v = .int .i64 (IntKind.i64.wrap (x.At - a)) := by
  refine ans_of Try.func163 rfl Try.ntmps163 rfl ?_
  refine CW.seq (CW.region (SW.box rfl rfl fun b1 w1 hw hb1b hb1 => ?_))
  repeat' (first | (show CW _ _ _ _ _ _; first | refine CW.seq ?_ | refine CW.region ?_ | refine CW.ret ?_) | (show Post _ _ _ _ _; refine Post.seq ?_) | refine SW.nil ?_ | refine SW.pure rfl rfl ?_ | (show SW _ _ _ _ (⟨_, Op.fieldAddr _ _ _, _, _, _, none⟩ :: _) _ _; refine SW.st (st_field rfl) rfl ?_) | (show SW _ _ _ _ (⟨_, Op.load _ _, _, _, _, none⟩ :: _) _ _; refine SW.st (st_load rfl (hb1.cell rfl)) rfl ?_) | (refine SW.st (st_subw rfl rfl) rfl ?_))
  exact Post.ret1 rfl rfl ⟨_, rfl, hw, rfl⟩
theorem wrap_zero {z : Int} (h1 : -18446744073709551616 < z) (h2 : z < 18446744073709551616) (h : IntKind.i64.wrap z = 0) : z = 0 := by
  simp [IntKind.wrap, IntKind.bits, IntKind.signed] at h
  omega
/-- where a block that was given away stands -/
def LiveOut (l : List Block) (a : Int) (v : Value) : Prop := (foundA l a = true → v = .tuple #[.int .i64 (lbOf l a : Int), .bool true]) ∧ (foundA l a = false → ∃ i : Nat, v = .tuple #[.int .i64 (i : Int), .bool false])
theorem plive_ans (r : HRow) (l : List Block) (a : Int) (w : World) (hl : Sl w 3 encBk r.Live.A r.Live.n l) (hu : l.Pairwise fun x y => x.At < y.At) (hb : ∀ b ∈ l, 0 ≤ b.At ∧ b.At ≤ 255) (hn : r.Live.n ≤ 1000000000000000000) (ha : -9223372036854775808 ≤ a ∧ a ≤ 9223372036854775807) :
    Ans Try.prog 125 [.agg (encH r).toArray, .int .i64 a] w fun v _ => LiveOut l a v := by
  refine ans_of Try.func125 rfl Try.ntmps125 rfl ?_
  refine CW.seq (CW.region (SW.box rfl rfl fun b1 w1 hw hb1b hb1 => ?_))
  repeat' (first | (show CW _ _ _ _ _ _; first | refine CW.seq ?_ | refine CW.region ?_) | (show Post _ _ _ _ _; refine Post.seq ?_) | refine SW.nil ?_ | refine SW.pure rfl rfl ?_ | (show SW _ _ _ _ (⟨_, Op.fieldAddr _ _ _, _, _, _, none⟩ :: _) _ _; refine SW.st (st_field rfl) rfl ?_) | (show SW _ _ _ _ (⟨_, Op.load _ _, _, _, _, none⟩ :: _) _ _; refine SW.st (st_load rfl (hb1.cell (i := 4) (v := .slice r.Live.A r.Live.n r.Live.c) rfl)) rfl ?_))
  by_cases hin : -1000000 ≤ a ∧ a ≤ 1000000
  · refine SW.call rfl rfl (BinaryBlock_ans _ _ _ _ a _ (hl.ext hw) _ (fun x hx w' _ => by
      have := cmpLive_ans x a w'
      have h := hb x hx
      rwa [wrap_in (by omega) (by omega)] at this) hu hn) fun v w2 hw2 hv => ?_
    subst hv
    replace hw := Ext.trans hw hw2
    repeat' (first | (show CW _ _ _ _ _ _; refine CW.ret ?_) | (show Post _ _ _ _ _; refine Post.seq ?_) | refine SW.nil ?_ | refine SW.pure rfl rfl ?_)
    refine Post.ret2 rfl rfl rfl ⟨_, rfl, hw, ?_⟩
    exact ⟨fun h => by rw [h]; rfl, fun h => ⟨lbOf l a, by rw [h]; rfl⟩⟩
  · have hf : foundA l a = false := by
      unfold foundA
      split
      · rename_i h
        have := hb _ (List.getElem_mem h)
        exact decide_eq_false (by omega)
      · rfl
    refine SW.call rfl rfl (BinaryNone_ans _ _ _ _ a _ (hl.ext hw) _ (fun x => IntKind.i64.wrap (x.At - a)) (fun x hx w' _ => cmpLive_ans x a w') (fun x hx h0 => by
      have h := hb x hx
      have := wrap_zero (by omega) (by omega) h0
      omega) hn) fun v w2 hw2 hv => ?_
    obtain ⟨i, rfl⟩ := hv
    replace hw := Ext.trans hw hw2
    repeat' (first | (show CW _ _ _ _ _ _; refine CW.ret ?_) | (show Post _ _ _ _ _; refine Post.seq ?_) | refine SW.nil ?_ | refine SW.pure rfl rfl ?_)
    refine Post.ret2 rfl rfl rfl ⟨_, rfl, hw, ?_⟩
    exact ⟨fun h => absurd (hf.symm.trans h) (by simp), fun _ => ⟨i, rfl⟩⟩

/-- the pages of a list, of its own -/
theorem listOf_ans (r : HRow) (L : List PList) (ls : List LRow) (x : PList) (w : World) (hl : RdLs w r.Lists ls L) (hs : LsS L) (hn : r.Lists.n ≤ 1000000000000000000) (hp : ∀ l ∈ L, l.Pages.length * 8 ≤ 140737488355328) :
    Ans Try.prog 132 [.agg (encH r).toArray, .int .i64 x.Cpu, .int .i64 x.Zone, .int .i64 x.Ty] w fun v w' => ∃ A c, v = .slice A (pagesAt L x).length c ∧ Own w' w.heap.size 3 1 encI A (pagesAt L x).length c (pagesAt L x) := by
  refine ans_of Try.func132 rfl Try.ntmps132 rfl ?_
  refine CW.seq (CW.region (SW.box rfl rfl fun b4 w1 hw hb4b hb4 => ?_))
  obtain ⟨l1, l2⟩ := hl.len
  have hA := hl.row.base
  repeat' (first | (show CW _ _ _ _ _ _; first | refine CW.seq ?_ | refine CW.region ?_ | refine CW.block ?_) | (show Post _ _ _ _ _; refine Post.seq ?_) | refine SW.nil ?_ | refine SW.pure rfl rfl ?_)
  refine CW.loop (fun i : Nat => [(1, .int .i64 x.Cpu), (2, .int .i64 x.Zone), (3, .int .i64 x.Ty), (4, .pointer (some ⟨b4, 0, none⟩)), (9, .int .i64 (i : Int))])
    (fun i w' => i ≤ r.Lists.n ∧ Ext w w' ∧ Blk w' b4 27 (encH r) ∧ ∀ (k : Nat) (h : k < L.length), k < i → ¬ keyEq L[k] x) (fun i => r.Lists.n - i) 0
    ⟨rfl, rfl, rfl, rfl, rfl, trivial⟩ ⟨by omega, hw, hb4, fun k h h' => by omega⟩ ?_
  clear hw hb4
  rintro i w' ⟨hi, hw, hb4, hI⟩
  by_cases hin : i < r.Lists.n
  · have hil : i < L.length := by omega
    have hils : i < ls.length := by omega
    have hrd := hl.each.get i hils hil
    have e1 := hrd.cpu
    have e2 := hrd.zone
    have e3 := hrd.ty
    have hpl := hrd.pages.len
    have hp1 := hp _ (List.getElem_mem hil)
    have g0 := hl.row.fld hin (j := 0) (u := .int .i64 ls[i].Cpu) rfl
    have g1 := hl.row.fld hin (j := 1) (u := .int .i64 ls[i].Zone) rfl
    have g2 := hl.row.fld hin (j := 2) (u := .int .i64 ls[i].Ty) rfl
    have g3 := hl.row.fld hin (j := 3) (u := .slice ls[i].Pages.A ls[i].Pages.n ls[i].Pages.c) rfl
    by_cases hk : keyEq L[i] x
    · obtain ⟨k1, k2, k3⟩ := id hk
      obtain ⟨ek, eh⟩ := key_at hs hil hk
      have ep : pagesAt L x = L[i].Pages := by
        rw [pagesAt_t eh (by omega)]
        simp only [ek]
      rw [ep]
      repeat' (first | (show CW _ _ _ _ _ _; first | refine CW.seq ?_ | refine CW.region ?_ | refine CW.block ?_ | refine CW.condd_t rfl (by omega) ?_ | refine CW.skip ?_) | (show Post _ _ _ _ _; refine Post.seq ?_) | refine SW.nil ?_ | (show SW _ _ _ _ (⟨_, _, _, _, _, some _⟩ :: _) _ _; first | refine SW.want_t rfl rfl (by with_reducible rfl) ?_ | refine SW.splitd_t rfl rfl rfl (by omega) ?_) | refine SW.pure rfl rfl ?_ | (show SW _ _ _ _ (⟨_, Op.fieldAddr _ _ _, _, _, _, none⟩ :: _) _ _; refine SW.st (st_field rfl) rfl ?_) | (show SW _ _ _ _ (⟨_, Op.indexAddr _ _ _, _, _, _, none⟩ :: _) _ _; refine SW.st (st_indexN rfl rfl (by assumption) (by omega)) rfl ?_) | (show SW _ _ _ _ (⟨_, Op.call ⟨.builtin .len, _, _⟩, _, _, _, none⟩ :: _) _ _; refine SW.st (st_len rfl) rfl ?_) | (show SW _ _ _ _ (⟨_, Op.load _ _, _, _, _, none⟩ :: _) _ _; first | refine SW.st (st_load rfl (hb4.cell (i := 3) (v := .slice r.Lists.A r.Lists.n r.Lists.c) rfl)) rfl ?_ | refine SW.st (st_loadx hw rfl g0) rfl ?_ | refine SW.st (st_loadx hw rfl g1) rfl ?_ | refine SW.st (st_loadx hw rfl g2) rfl ?_ | refine SW.st (st_loadx hw rfl g3) rfl ?_))
      all_goals first | (exfalso; omega) | skip
      refine SW.call rfl rfl (words_ans _ _ _ _ _ (hrd.pages.ext hw) (by omega)) fun v w4 hXX hv => ?_
      obtain ⟨X, c4, rfl, hX⟩ := hv
      replace hX := hX.low hw.size
      replace hw := Ext.trans hw hXX
      repeat' (first | (show CW _ _ _ _ _ _; refine CW.ret ?_) | (show Post _ _ _ _ _; first | refine Post.seq ?_ | refine Post.seq_ret ?_ | refine Post.blk_ret ?_ | refine Post.again_ret ?_) | refine SW.nil ?_ | refine SW.pure rfl rfl ?_)
      refine Post.ret1 rfl rfl ⟨_, rfl, hw, X, c4, by rw [hpl], by rw [hpl]; exact hX⟩
    · have hk' : ¬ (ls[i].Cpu = x.Cpu ∧ ls[i].Zone = x.Zone ∧ ls[i].Ty = x.Ty) := by unfold keyEq at hk; omega
      repeat' (first | (show CW _ _ _ _ _ _; first | refine CW.seq ?_ | refine CW.region ?_ | refine CW.block ?_ | refine CW.condfr rfl (by with_reducible rfl) ?_ | refine CW.condd_t rfl (by omega) ?_ | refine CW.condd_f rfl (by omega) ?_ | refine CW.skip ?_) | (show Post _ _ _ _ _; first | refine Post.seq ?_ | refine Post.blk ?_) | refine SW.nil ?_ | (show SW _ _ _ _ (⟨_, _, _, _, _, some _⟩ :: _) _ _; first | refine SW.want_t rfl rfl (by with_reducible rfl) ?_ | refine SW.skip_t rfl rfl (by with_reducible rfl) rfl ?_ | refine SW.splitd rfl rfl rfl (fun h => ?_) (fun h => ?_)) | refine SW.pure rfl rfl ?_ | (show SW _ _ _ _ (⟨_, Op.fieldAddr _ _ _, _, _, _, none⟩ :: _) _ _; refine SW.st (st_field rfl) rfl ?_) | (show SW _ _ _ _ (⟨_, Op.binOp _ _ _ _ _, _, _, _, none⟩ :: _) _ _; refine SW.st (st_add rfl rfl (by omega) (by omega)) rfl ?_) | (show SW _ _ _ _ (⟨_, Op.indexAddr _ _ _, _, _, _, none⟩ :: _) _ _; refine SW.st (st_indexN rfl rfl (by assumption) (by omega)) rfl ?_) | (show SW _ _ _ _ (⟨_, Op.call ⟨.builtin .len, _, _⟩, _, _, _, none⟩ :: _) _ _; refine SW.st (st_len rfl) rfl ?_) | (show SW _ _ _ _ (⟨_, Op.load _ _, _, _, _, none⟩ :: _) _ _; first | refine SW.st (st_load rfl (hb4.cell (i := 3) (v := .slice r.Lists.A r.Lists.n r.Lists.c) rfl)) rfl ?_ | refine SW.st (st_loadx hw rfl g0) rfl ?_ | refine SW.st (st_loadx hw rfl g1) rfl ?_ | refine SW.st (st_loadx hw rfl g2) rfl ?_))
      all_goals first | (exfalso; omega) | skip
      all_goals
        exact Post.again (i + 1) ⟨rfl, rfl, rfl, rfl, rfl, trivial⟩ (by omega) ⟨by omega, hw, hb4, fun k h h' => by
          by_cases e : k = i
          · subst e; exact hk
          · exact hI k h (by omega)⟩
  · have ep : pagesAt L x = [] := pagesAt_f (key_none fun k hk => hI k hk (by omega))
    rw [ep]
    repeat' (first | (show CW _ _ _ _ _ _; first | refine CW.seq ?_ | refine CW.region ?_ | refine CW.condd_f rfl (by omega) ?_ | refine CW.ret ?_ | refine CW.exit ?_) | (show Post _ _ _ _ _; first | refine Post.seq ?_ | refine Post.seq_exit ?_ | refine Post.hit ?_ | refine Post.again_exit ?_) | refine SW.nil ?_ | refine SW.pure rfl rfl ?_ | (show SW _ _ _ _ (⟨_, Op.fieldAddr _ _ _, _, _, _, none⟩ :: _) _ _; refine SW.st (st_field rfl) rfl ?_) | (show SW _ _ _ _ (⟨_, Op.call ⟨.builtin .len, _, _⟩, _, _, _, none⟩ :: _) _ _; refine SW.st (st_len rfl) rfl ?_) | (show SW _ _ _ _ (⟨_, Op.load _ _, _, _, _, none⟩ :: _) _ _; refine SW.st (st_load rfl (hb4.cell (i := 3) (v := .slice r.Lists.A r.Lists.n r.Lists.c) rfl)) rfl ?_))
    exact Post.ret1 rfl rfl ⟨_, rfl, hw, none, 0, rfl, Own.nil_ _ _ _ _ _ _⟩
end Go.Proofs.Ytfdmgflboibdoaa

/-
  Contracts: pages.Copy, sameHeap; the law PagesCopies.
-/
set_option linter.unusedVariables false
namespace Go.Proofs.Ytfdmgflboibdoaa
open Go.RowKit

theorem one_h (r : HRow) : ∀ v ∈ encH r, v.oneCell' = true := Enc.one (enc := encH) r
theorem one_l (r : LRow) : ∀ v ∈ encL r, v.oneCell' = true := Enc.one (enc := encL) r

/-- the pages of two lists do not lie in one block -/
def SepL (ls : List LRow) : Prop := ∀ (i j : Nat) (hi : i < ls.length) (hj : j < ls.length), i ≠ j → ∀ g, ownB ls[i].Pages.A ls[i].Pages.c = some g → ownB ls[j].Pages.A ls[j].Pages.c ≠ some g
/-- the pages of the lists lie apart from each other, and from the other lists of integers -/
structure SepM (m : Sli) (zs : List ZRow) (ls : List LRow) : Prop where
  mins : ∀ (i : Nat) (hi : i < ls.length) (g : Nat), ownB ls[i].Pages.A ls[i].Pages.c = some g → ownB m.A m.c ≠ some g
  types : ∀ (i : Nat) (hi : i < ls.length) (g : Nat), ownB ls[i].Pages.A ls[i].Pages.c = some g → ∀ u ∈ zs, ownB u.Types.A u.Types.c ≠ some g
  sep : SepL ls
theorem SepM.nil (m : Sli) (zs : List ZRow) : SepM m zs [] := ⟨fun i hi => by simp at hi, fun i hi => by simp at hi, fun i j hi => by simp at hi⟩
theorem SepM.snoc {w : World} {lo : Nat} {m : Sli} {zs : List ZRow} {ls : List LRow} {s li : Sli} {x : List Int} {zl : List Zone} {L : List PList} {y : LRow} (h : SepM m zs ls) (hm : Own w lo 3 1 encI m.A m.n m.c x) (hz : OwnZs w lo s zs zl) (hl : OwnLs w lo li ls L) (hy : ∀ g, ownB y.Pages.A y.Pages.c = some g → w.heap.size ≤ g) : SepM m zs (ls ++ [y]) := by
  have hlt : ∀ (i : Nat) (hi : i < ls.length) (g : Nat), ownB ls[i].Pages.A ls[i].Pages.c = some g → g < w.heap.size := fun i hi g e => (hl.each.get i hi (by rw [← hl.each.len]; exact hi)).pages.lt_size g e
  have key : ∀ (i : Nat) (hi : i < (ls ++ [y]).length), (∃ h : i < ls.length, (ls ++ [y])[i] = ls[i]) ∨ (i = ls.length ∧ (ls ++ [y])[i] = y) := fun i hi => by
    by_cases e : i < ls.length
    · exact .inl ⟨e, List.getElem_append_left e⟩
    · have : i = ls.length := by simp at hi; omega
      subst this
      exact .inr ⟨rfl, by simp⟩
  refine ⟨fun i hi g e => ?_, fun i hi g e u hu => ?_, fun i j hi hj hij g e e2 => ?_⟩
  · rcases key i hi with ⟨h1, h2⟩ | ⟨h1, h2⟩
    · rw [h2] at e; exact h.mins i h1 g e
    · rw [h2] at e; intro e3; have := hm.lt_size g e3; have := hy g e; omega
  · rcases key i hi with ⟨h1, h2⟩ | ⟨h1, h2⟩
    · rw [h2] at e; exact h.types i h1 g e u hu
    · rw [h2] at e
      intro e3
      obtain ⟨j, hj, rfl⟩ := List.getElem_of_mem hu
      have := (hz.each.get j hj (by rw [← hz.each.len]; exact hj)).types.lt_size g e3
      have := hy g e
      omega
  · rcases key i hi with ⟨h1, h2⟩ | ⟨h1, h2⟩
    · rw [h2] at e
      rcases key j hj with ⟨h3, h4⟩ | ⟨h3, h4⟩
      · rw [h4] at e2; exact h.sep i j h1 h3 hij g e e2
      · rw [h4] at e2; have := hlt i h1 g e; have := hy g e2; omega
    · rw [h2] at e
      rcases key j hj with ⟨h3, h4⟩ | ⟨h3, h4⟩
      · rw [h4] at e2; have := hlt j h3 g e2; have := hy g e; omega
      · omega
/-- what was given away lies apart from what is free -/
def SepF (lv : Sli) (zs : List ZRow) : Prop := ∀ u ∈ zs, ∀ g, ownB u.Free.A u.Free.c = some g → ownB lv.A lv.c ≠ some g
theorem SepF.nil (lv : Sli) : SepF lv [] := fun u hu => by simp at hu
theorem SepF.snoc {w : World} {lo : Nat} {lv : Sli} {zs : List ZRow} {x : List Block} {u : ZRow} (h : SepF lv zs) (hl : Own w lo 86 3 encBk lv.A lv.n lv.c x) (hu : ∀ g, ownB u.Free.A u.Free.c = some g → w.heap.size ≤ g) : SepF lv (zs ++ [u]) := fun y hy g e e2 => by
  rcases List.mem_append.1 hy with hy | hy
  · exact h y hy g e e2
  · simp at hy; subst hy
    have := hu g e
    have := hl.lt_size g e2
    omega
structure OwnHS (w : World) (lo : Nat) (r : HRow) (h : Heap) : Prop where
  own : OwnH w lo r h
  all : ∃ zs ls, OwnZs w lo r.Zones zs h.Zones ∧ OwnLs w lo r.Lists ls h.Lists ∧ SepM r.Mins zs ls ∧ SepF r.Live zs

set_option maxHeartbeats 4000000 in
theorem HcopyS_ans (r : HRow) (h : Heap) (w : World) (hr : RdH w r h) (hs : h.small) :
    Ans Try.prog 23 [.agg (encH r).toArray] w fun v w' => ∃ s, v = .agg (encH s).toArray ∧ OwnHS w' w.heap.size s h := by
  refine ans_of Try.func23 rfl Try.ntmps23 rfl ?_
  refine CW.seq (CW.region (SW.box rfl rfl fun b1 w1 hw hb1b hb1 => ?_))
  refine SW.alloc rfl fun b2 w2 hw2 hb2b hb2 => ?_
  have hb2w : w.heap.size ≤ b2 := Nat.le_trans hw.size hb2b
  have hne2 : b2 ≠ b1 := by have := hb1.lt; omega
  (replace hw := Ext.trans hw hw2; replace hb1 := hb1.ext hw2)
  obtain ⟨zs, hz⟩ := hr.zones
  obtain ⟨ls, hl⟩ := hr.lists
  have hml := hr.mins.len
  have hvl := hr.live.len
  have s1 := hs.mins
  have s2 := hs.live
  have s3 := hs.zones
  have s4 := hs.lists
  obtain ⟨z1, z2⟩ := hz.len
  obtain ⟨l1, l2⟩ := hl.len
  repeat' (first | (show CW _ _ _ _ _ _; refine CW.seq ?_) | (show Post _ _ _ _ _; refine Post.seq ?_) | refine SW.nil ?_)
  obtain ⟨K, hK⟩ : ∃ K : Env → World → Prop, K = fun L' w' => ∃ X c1 Y d1 b3, subEnv L' [(1, .pointer (some ⟨b1, 0, none⟩)), (2, .pointer (some ⟨b2, 0, none⟩)), (3, .pointer (some ⟨b3, 0, none⟩))] ∧ Ext w w' ∧ Blk w' b1 27 (encH r) ∧ Blk w' b2 27 (encH .zero) ∧
    Blk w' b3 27 (encH ⟨.nil, ⟨X, r.Mins.n, c1⟩, r.Cpus, .nil, ⟨Y, r.Live.n, d1⟩⟩) ∧ Own w' w.heap.size 3 1 encI X r.Mins.n c1 h.Mins ∧ Own w' w.heap.size 86 3 encBk Y r.Live.n d1 h.Live ∧ w.heap.size ≤ b3 ∧ b1 ≠ b3 ∧ b2 ≠ b3 := ⟨_, rfl⟩
  refine CW.cut K ?_ ?_
  · refine CW.any 10 mixed (rb_tail (by kernel_rfl)) rfl fun w1 hw1 hRB => ?_
    replace hw := Ext.trans hw hw1; replace hb1 := hb1.ext hw1; replace hb2 := hb2.ext hw1; clear hw1
    refine SA.take 0 hRB rfl (by kernel_rfl) (by kernel_rfl) rfl ?_
    repeat ((show SW _ _ _ _ (⟨_, Op.fieldAddr _ _ _, _, _, _, none⟩ :: _) _ _; refine SW.st (st_field rfl) rfl ?_))
    refine SW.tknil ?_
    refine SA.take 1 hRB rfl (by kernel_rfl) (by kernel_rfl) rfl ?_
    repeat ((show SW _ _ _ _ (⟨_, Op.load _ _, _, _, _, none⟩ :: _) _ _; refine SW.st (st_load rfl (hb1.cell rfl)) rfl ?_))
    refine SW.tknil ?_
    refine SA.take 3 hRB rfl (by kernel_rfl) (by kernel_rfl) rfl ?_
    repeat ((show SW _ _ _ _ (⟨_, Op.fieldAddr _ _ _, _, _, _, none⟩ :: _) _ _; refine SW.st (st_field rfl) rfl ?_))
    refine SW.tknil ?_
    refine SA.take 4 hRB rfl (by kernel_rfl) (by kernel_rfl) rfl ?_
    repeat ((show SW _ _ _ _ (⟨_, Op.load _ _, _, _, _, none⟩ :: _) _ _; refine SW.st (st_load rfl (hb1.cell rfl)) rfl ?_))
    refine SW.tknil ?_
    refine SA.take 5 hRB rfl (by kernel_rfl) (by kernel_rfl) rfl ?_
    repeat ((show SW _ _ _ _ (⟨_, Op.fieldAddr _ _ _, _, _, _, none⟩ :: _) _ _; refine SW.st (st_field rfl) rfl ?_))
    refine SW.tknil ?_
    refine SA.take 6 hRB rfl (by kernel_rfl) (by kernel_rfl) rfl ?_
    repeat ((show SW _ _ _ _ (⟨_, Op.load _ _, _, _, _, none⟩ :: _) _ _; refine SW.st (st_load rfl (hb1.cell rfl)) rfl ?_))
    refine SW.tknil ?_
    refine SA.two 2 9 rfl rfl (by kernel_rfl) rfl rfl ?_ ?_
    · refine SW.call rfl rfl (CloneInt_ans _ _ _ _ _ (hr.mins.ext hw) (by omega)) fun v w4 hXX hv => ?_
      obtain ⟨X, c4, rfl, hX⟩ := hv
      replace hX := hX.low hw.size
      replace hw := Ext.trans hw hXX
      replace hb1 := hb1.ext hXX
      replace hb2 := hb2.ext hXX
      try replace hb3 := hb3.ext hXX
      refine SW.nil (Post.sa hXX ?_)
      refine SA.two 7 9 rfl rfl (by kernel_rfl) rfl rfl ?_ ?_
      · refine SW.call rfl rfl (CloneBlock_ans _ _ _ _ _ (hr.live.ext hw) (by omega)) fun v w4 hXX hv => ?_
        obtain ⟨Y, d4, rfl, hY⟩ := hv
        replace hY := hY.low hw.size
        replace hX := hX.ext hXX
        replace hw := Ext.trans hw hXX
        replace hb1 := hb1.ext hXX
        replace hb2 := hb2.ext hXX
        try replace hb3 := hb3.ext hXX
        refine SW.nil (Post.sa hXX ?_)
        refine SA.take 8 hRB rfl (by kernel_rfl) (by kernel_rfl) rfl ?_
        repeat ((show SW _ _ _ _ (⟨_, Op.build _ _, _, _, _, none⟩ :: _) _ _; refine SW.st (st_build rfl rfl) rfl ?_))
        refine SW.tknil ?_
        refine SA.one 9 rfl (by kernel_rfl) rfl ?_
        refine SW.alloc rfl fun b3 w4 hXX hb3b hb3 => ?_
        have hb3w : w.heap.size ≤ b3 := Nat.le_trans hw.size hb3b
        have hne3 : b1 ≠ b3 := by have := hb1.lt; omega
        have hne4 : b2 ≠ b3 := by have := hb2.lt; omega
        replace hw := Ext.trans hw hXX
        replace hb1 := hb1.ext hXX
        replace hb2 := hb2.ext hXX
        try replace hX := hX.ext hXX
        try replace hY := hY.ext hXX
        refine SW.nil (Post.sa hXX ?_)
        refine SA.done (by kernel_rfl) ?_
        skip
        refine SW.storeAgg hb3 rfl rfl rfl rfl (one_h ⟨.nil, ⟨X, r.Mins.n, c4⟩, r.Cpus, .nil, ⟨Y, r.Live.n, d4⟩⟩) fun w5 hR2 hg => ?_
        have hG := hb3.gr hg
        replace hw := hw.own hb3w hg
        (replace hX := hX.grT hG rfl; replace hY := hY.grT hG rfl)
        replace hb1 := hb1.grown hg (by simpa using hne3)
        replace hb2 := hb2.grown hg (by simpa using hne4)
        repeat' (first | (show Post _ _ _ _ _; refine Post.np ?_) | refine SW.nil ?_)
        exact Post.cut (K := K) (by rw [hK]; exact ⟨X, c4, Y, d4, b3, ⟨rfl, rfl, rfl, trivial⟩, hw, hb1, hb2, hR2, hX, hY, hb3w, hne3, hne4⟩)
      · refine SW.alloc rfl fun b3 w4 hXX hb3b hb3 => ?_
        have hb3w : w.heap.size ≤ b3 := Nat.le_trans hw.size hb3b
        have hne3 : b1 ≠ b3 := by have := hb1.lt; omega
        have hne4 : b2 ≠ b3 := by have := hb2.lt; omega
        replace hw := Ext.trans hw hXX
        replace hb1 := hb1.ext hXX
        replace hb2 := hb2.ext hXX
        try replace hX := hX.ext hXX
        try replace hY := hY.ext hXX
        refine SW.nil (Post.sa hXX ?_)
        refine SA.one 7 rfl (by kernel_rfl) rfl ?_
        refine SW.call rfl rfl (CloneBlock_ans _ _ _ _ _ (hr.live.ext hw) (by omega)) fun v w4 hXX hv => ?_
        obtain ⟨Y, d4, rfl, hY⟩ := hv
        replace hY := hY.low hw.size
        replace hX := hX.ext hXX
        replace hw := Ext.trans hw hXX
        replace hb1 := hb1.ext hXX
        replace hb2 := hb2.ext hXX
        try replace hb3 := hb3.ext hXX
        refine SW.nil (Post.sa hXX ?_)
        refine SA.take 8 hRB rfl (by kernel_rfl) (by kernel_rfl) rfl ?_
        repeat ((show SW _ _ _ _ (⟨_, Op.build _ _, _, _, _, none⟩ :: _) _ _; refine SW.st (st_build rfl rfl) rfl ?_))
        refine SW.tknil ?_
        refine SA.done (by kernel_rfl) ?_
        skip
        refine SW.storeAgg hb3 rfl rfl rfl rfl (one_h ⟨.nil, ⟨X, r.Mins.n, c4⟩, r.Cpus, .nil, ⟨Y, r.Live.n, d4⟩⟩) fun w5 hR2 hg => ?_
        have hG := hb3.gr hg
        replace hw := hw.own hb3w hg
        (replace hX := hX.grT hG rfl; replace hY := hY.grT hG rfl)
        replace hb1 := hb1.grown hg (by simpa using hne3)
        replace hb2 := hb2.grown hg (by simpa using hne4)
        repeat' (first | (show Post _ _ _ _ _; refine Post.np ?_) | refine SW.nil ?_)
        exact Post.cut (K := K) (by rw [hK]; exact ⟨X, c4, Y, d4, b3, ⟨rfl, rfl, rfl, trivial⟩, hw, hb1, hb2, hR2, hX, hY, hb3w, hne3, hne4⟩)
    · refine SW.alloc rfl fun b3 w4 hXX hb3b hb3 => ?_
      have hb3w : w.heap.size ≤ b3 := Nat.le_trans hw.size hb3b
      have hne3 : b1 ≠ b3 := by have := hb1.lt; omega
      have hne4 : b2 ≠ b3 := by have := hb2.lt; omega
      replace hw := Ext.trans hw hXX
      replace hb1 := hb1.ext hXX
      replace hb2 := hb2.ext hXX
      try replace hX := hX.ext hXX
      try replace hY := hY.ext hXX
      refine SW.nil (Post.sa hXX ?_)
      refine SA.one 2 rfl (by kernel_rfl) rfl ?_
      refine SW.call rfl rfl (CloneInt_ans _ _ _ _ _ (hr.mins.ext hw) (by omega)) fun v w4 hXX hv => ?_
      obtain ⟨X, c4, rfl, hX⟩ := hv
      replace hX := hX.low hw.size
      replace hw := Ext.trans hw hXX
      replace hb1 := hb1.ext hXX
      replace hb2 := hb2.ext hXX
      try replace hb3 := hb3.ext hXX
      refine SW.nil (Post.sa hXX ?_)
      refine SA.one 7 rfl (by kernel_rfl) rfl ?_
      refine SW.call rfl rfl (CloneBlock_ans _ _ _ _ _ (hr.live.ext hw) (by omega)) fun v w4 hXX hv => ?_
      obtain ⟨Y, d4, rfl, hY⟩ := hv
      replace hY := hY.low hw.size
      replace hX := hX.ext hXX
      replace hw := Ext.trans hw hXX
      replace hb1 := hb1.ext hXX
      replace hb2 := hb2.ext hXX
      try replace hb3 := hb3.ext hXX
      refine SW.nil (Post.sa hXX ?_)
      refine SA.take 8 hRB rfl (by kernel_rfl) (by kernel_rfl) rfl ?_
      repeat ((show SW _ _ _ _ (⟨_, Op.build _ _, _, _, _, none⟩ :: _) _ _; refine SW.st (st_build rfl rfl) rfl ?_))
      refine SW.tknil ?_
      refine SA.done (by kernel_rfl) ?_
      skip
      refine SW.storeAgg hb3 rfl rfl rfl rfl (one_h ⟨.nil, ⟨X, r.Mins.n, c4⟩, r.Cpus, .nil, ⟨Y, r.Live.n, d4⟩⟩) fun w5 hR2 hg => ?_
      have hG := hb3.gr hg
      replace hw := hw.own hb3w hg
      (replace hX := hX.grT hG rfl; replace hY := hY.grT hG rfl)
      replace hb1 := hb1.grown hg (by simpa using hne3)
      replace hb2 := hb2.grown hg (by simpa using hne4)
      repeat' (first | (show Post _ _ _ _ _; refine Post.np ?_) | refine SW.nil ?_)
      exact Post.cut (K := K) (by rw [hK]; exact ⟨X, c4, Y, d4, b3, ⟨rfl, rfl, rfl, trivial⟩, hw, hb1, hb2, hR2, hX, hY, hb3w, hne3, hne4⟩)
  · clear hb1 hb2 hw
    subst hK
    rintro L' w' ⟨X, c4, Y, d4, b3, hsub, hw, hb1, hb2, hb3, hX, hY, hb3w, hne3, hne4⟩
    refine Post.sub hsub ?_
    repeat' (first | (show CW _ _ _ _ _ _; first | refine CW.seq ?_ | refine CW.region ?_ | refine CW.block ?_) | (show Post _ _ _ _ _; refine Post.seq ?_) | refine SW.nil ?_ | refine SW.pure rfl rfl ?_ | (show SW _ _ _ _ (⟨_, Op.fieldAddr _ _ _, _, _, _, none⟩ :: _) _ _; refine SW.st (st_field rfl) rfl ?_) | (show SW _ _ _ _ (⟨_, Op.call ⟨.builtin .len, _, _⟩, _, _, _, none⟩ :: _) _ _; refine SW.st (st_len rfl) rfl ?_) | (show SW _ _ _ _ (⟨_, Op.load _ _, _, _, _, none⟩ :: _) _ _; refine SW.st (st_load rfl (hb1.cell rfl)) rfl ?_))
    refine CW.loop (fun s : Nat × Option Addr × Nat × List ZRow => [(1, .pointer (some ⟨b1, 0, none⟩)), (2, .pointer (some ⟨b2, 0, none⟩)), (3, .pointer (some ⟨b3, 0, none⟩)), (18, .slice r.Zones.A r.Zones.n r.Zones.c), (19, .int .i64 (r.Zones.n : Int)), (20, .int .i64 (s.1 : Int))])
      (fun s w' => s.1 ≤ r.Zones.n ∧ Ext w w' ∧ Blk w' b1 27 (encH r) ∧ Blk w' b2 27 (encH .zero) ∧ Blk w' b3 27 (encH ⟨⟨s.2.1, s.1, s.2.2.1⟩, ⟨X, r.Mins.n, c4⟩, r.Cpus, .nil, ⟨Y, r.Live.n, d4⟩⟩) ∧ Own w' w.heap.size 3 1 encI X r.Mins.n c4 h.Mins ∧ Own w' w.heap.size 86 3 encBk Y r.Live.n d4 h.Live ∧
        OwnZs w' w.heap.size ⟨s.2.1, s.1, s.2.2.1⟩ s.2.2.2 (h.Zones.take s.1) ∧ SepF ⟨Y, r.Live.n, d4⟩ s.2.2.2) (fun s => r.Zones.n - s.1) (0, none, 0, []) ⟨rfl, rfl, rfl, rfl, rfl, rfl, trivial⟩ ⟨by omega, hw, hb1, hb2, hb3, hX, hY, OwnZs.nil _ _, SepF.nil _⟩ ?_
    clear hb1 hb2 hb3 hX hY hw hsub
    rintro ⟨k, A, c, zr⟩ w' ⟨hk, hw, hb1, hb2, hb3, hX, hY, hO, hSf⟩
    simp only at hk hb3 hO hSf ⊢
    have hA := hz.row.base
    by_cases hkn : k < r.Zones.n
    · have hzk := hz.each.get k (by omega) (by omega)
      have hin : h.Zones[k]'(by omega) ∈ h.Zones := List.getElem_mem _
      have q := hs.free _ hin
      have q1 := hzk.free.len
      have q2 := hzk.types.len
      repeat' (first | (show CW _ _ _ _ _ _; first | refine CW.seq ?_ | refine CW.region ?_ | refine CW.block ?_ | refine CW.condd_t rfl (by omega) ?_ | refine CW.skip ?_) | (show Post _ _ _ _ _; refine Post.seq ?_) | refine SW.nil ?_ | refine SW.pure rfl rfl ?_ | (show SW _ _ _ _ (⟨_, Op.indexAddr _ _ _, _, _, _, none⟩ :: _) _ _; refine SW.st (st_indexN rfl rfl (by assumption) (by omega)) rfl ?_) | (show SW _ _ _ _ (⟨_, Op.load _ _, _, _, _, none⟩ :: _) _ _; refine SW.st (st_loadsx hw rfl rfl ((hz.row.all hkn))) rfl ?_))
      refine SW.alloc rfl fun b5 w1 hw1 hb5b hb5 => ?_
      skip
      refine SW.storeAgg hb5 rfl rfl rfl rfl (one_z _) fun w2 hb5' hg => ?_
      have hXX := hw1.own hb5b hg
      have hb5w : w.heap.size ≤ b5 := Nat.le_trans hw.size hb5b
      replace hw := Ext.trans hw hXX
      replace hb1 := hb1.ext hXX
      replace hb2 := hb2.ext hXX
      replace hb3 := hb3.ext hXX
      replace hX := hX.ext hXX
      replace hY := hY.ext hXX
      replace hO := hO.ext hXX
      replace hb5 := hb5'
      clear hb5' hw1 hg hXX
      repeat' (first | (show Post _ _ _ _ _; refine Post.seq ?_) | refine SW.nil ?_)
      refine CW.any 5 mixed (rb_tail (by kernel_rfl)) rfl fun w1 hw1 hRB => ?_
      replace hw := Ext.trans hw hw1; replace hb1 := hb1.ext hw1; replace hb2 := hb2.ext hw1; replace hb3 := hb3.ext hw1; replace hb5 := hb5.ext hw1; replace hX := hX.ext hw1; replace hY := hY.ext hw1; replace hO := hO.ext hw1; clear hw1
      refine SA.take 0 hRB rfl (by kernel_rfl) (by kernel_rfl) rfl ?_
      repeat ((show SW _ _ _ _ (⟨_, Op.fieldAddr _ _ _, _, _, _, none⟩ :: _) _ _; refine SW.st (st_field rfl) rfl ?_))
      refine SW.tknil ?_
      refine SA.take 1 hRB rfl (by kernel_rfl) (by kernel_rfl) rfl ?_
      repeat ((show SW _ _ _ _ (⟨_, Op.load _ _, _, _, _, none⟩ :: _) _ _; refine SW.st (st_load rfl (hb3.cell rfl)) rfl ?_))
      refine SW.tknil ?_
      refine SA.take 2 hRB rfl (by kernel_rfl) (by kernel_rfl) rfl ?_
      repeat ((show SW _ _ _ _ (⟨_, Op.load _ _, _, _, _, none⟩ :: _) _ _; refine SW.st (st_loads rfl rfl ((fun _ _ => hb5.cell))) rfl ?_))
      refine SW.tknil ?_
      refine SA.one 3 rfl (by kernel_rfl) rfl ?_
      refine SW.call rfl rfl (Zcopy_ans _ _ _ (hzk.ext hw) (by omega) (by omega)) fun v w4 hXX hv => ?_
      obtain ⟨s, rfl, hs', e1, e2⟩ := hv
      have hSf' := hSf.snoc (u := s) hY hs'.free.row_ge
      replace hs' := hs'.low hw.size
      (replace hw := Ext.trans hw hXX; replace hb1 := hb1.ext hXX; replace hb2 := hb2.ext hXX; replace hb3 := hb3.ext hXX; replace hb5 := hb5.ext hXX; replace hX := hX.ext hXX; replace hY := hY.ext hXX; replace hO := hO.ext hXX)
      refine SW.nil (Post.sa hXX ?_)
      refine SA.one 4 rfl (by kernel_rfl) rfl ?_
      refine SW.build1 rfl rfl rfl rfl rfl fun b w4 hXX hb hB => ?_
      (replace hw := Ext.trans hw hXX; replace hb1 := hb1.ext hXX; replace hb2 := hb2.ext hXX; replace hb3 := hb3.ext hXX; replace hb5 := hb5.ext hXX; replace hX := hX.ext hXX; replace hY := hY.ext hXX; replace hO := hO.ext hXX; replace hs' := hs'.ext hXX)
      refine SW.nil (Post.sa hXX ?_)
      refine SA.done (by kernel_rfl) ?_
      refine SW.append hO.row (Blk.sl1 (enc := encZ) hB) hw.size rfl rfl rfl (by simp only; omega) (by simp only; omega) fun A2 c2 w5 hO1 hg => ?_
      have hG := hO.row.gr hg
      replace hw := ext_grown hw hg (Nat.le_refl _) hO.row.row_ge
      (replace hb1 := hb1.grT hG rfl; replace hb2 := hb2.grT hG rfl; replace hb3 := hb3.grT hG rfl; replace hX := hX.grT hG rfl; replace hY := hY.grT hG rfl; replace hs' := hs'.grT hG rfl)
      have hE := hO.each.mono fun _ _ h => h.grT hG rfl
      repeat' ((show SW _ _ _ _ (⟨_, Op.fieldAddr _ _ _, _, _, _, none⟩ :: _) _ _; refine SW.st (st_field rfl) rfl ?_))
      refine SW.storeB (i := 0) hb3 rfl rfl rfl rfl fun w6 hb3' hg => ?_
      have hG := hb3.gr hg
      replace hw := hw.own hb3w hg
      replace hb1 := hb1.grown hg (by simpa using hne3)
      replace hb2 := hb2.grown hg (by simpa using hne4)
      (replace hX := hX.grT hG rfl; replace hY := hY.grT hG rfl; replace hs' := hs'.grT hG rfl; replace hO1 := hO1.grT hG rfl)
      replace hE := hE.mono fun _ _ h => h.grT hG rfl
      repeat' (first | (show CW _ _ _ _ _ _; refine CW.region ?_) | (show Post _ _ _ _ _; first | refine Post.seq ?_ | refine Post.blk ?_ | refine Post.np ?_) | refine SW.nil ?_ | refine SW.pure rfl rfl ?_ | (show SW _ _ _ _ (⟨_, Op.binOp _ _ _ _ _, _, _, _, none⟩ :: _) _ _; refine SW.st (st_add rfl rfl (by omega) (by omega)) rfl ?_))
      refine Post.again (k + 1, A2, c2, zr ++ [s]) ⟨rfl, rfl, rfl, rfl, rfl, rfl, trivial⟩ (by simp only; omega) ⟨by simp only; omega, hw, hb1, hb2, hb3', hX, hY, ⟨hO1, ?_⟩, hSf'⟩
      rw [List.take_succ_eq_append_getElem (by omega)]
      exact hE.snoc hs'
    · obtain rfl : k = r.Zones.n := by omega
      rw [List.take_of_length_le (by omega)] at hO
      repeat' (first | (show CW _ _ _ _ _ _; first | refine CW.seq ?_ | refine CW.region ?_ | refine CW.block ?_ | refine CW.condd_f rfl (by omega) ?_ | refine CW.exit ?_) | (show Post _ _ _ _ _; first | refine Post.seq ?_ | refine Post.seq_exit ?_ | refine Post.hit ?_ | refine Post.again_exit ?_) | refine SW.nil ?_ | refine SW.pure rfl rfl ?_ | (show SW _ _ _ _ (⟨_, Op.fieldAddr _ _ _, _, _, _, none⟩ :: _) _ _; refine SW.st (st_field rfl) rfl ?_) | (show SW _ _ _ _ (⟨_, Op.call ⟨.builtin .len, _, _⟩, _, _, _, none⟩ :: _) _ _; refine SW.st (st_len rfl) rfl ?_) | (show SW _ _ _ _ (⟨_, Op.load _ _, _, _, _, none⟩ :: _) _ _; refine SW.st (st_load rfl (hb1.cell rfl)) rfl ?_))
      refine CW.loop (fun s : Nat × Option Addr × Nat × List LRow => [(2, .pointer (some ⟨b2, 0, none⟩)), (3, .pointer (some ⟨b3, 0, none⟩)), (33, .slice r.Lists.A r.Lists.n r.Lists.c), (34, .int .i64 (r.Lists.n : Int)), (35, .int .i64 (s.1 : Int))])
        (fun s w' => s.1 ≤ r.Lists.n ∧ Ext w w' ∧ Blk w' b2 27 (encH .zero) ∧ Blk w' b3 27 (encH ⟨⟨A, r.Zones.n, c⟩, ⟨X, r.Mins.n, c4⟩, r.Cpus, ⟨s.2.1, s.1, s.2.2.1⟩, ⟨Y, r.Live.n, d4⟩⟩) ∧ Own w' w.heap.size 3 1 encI X r.Mins.n c4 h.Mins ∧ Own w' w.heap.size 86 3 encBk Y r.Live.n d4 h.Live ∧
          OwnZs w' w.heap.size ⟨A, r.Zones.n, c⟩ zr h.Zones ∧ OwnLs w' w.heap.size ⟨s.2.1, s.1, s.2.2.1⟩ s.2.2.2 (h.Lists.take s.1) ∧ SepM ⟨X, r.Mins.n, c4⟩ zr s.2.2.2) (fun s => r.Lists.n - s.1) (0, none, 0, []) ⟨rfl, rfl, rfl, rfl, rfl, trivial⟩ ⟨by omega, hw, hb2, hb3, hX, hY, hO, OwnLs.nil _ _, SepM.nil _ _⟩ ?_
      clear hb1 hb2 hb3 hX hY hw hO
      rintro ⟨k, B, d, lr⟩ w' ⟨hk, hw, hb2, hb3, hX, hY, hO, hP, hSp⟩
      simp only at hk hb3 hP hSp ⊢
      have hA := hl.row.base
      by_cases hkn : k < r.Lists.n
      · have hlk := hl.each.get k (by omega) (by omega)
        have hin : h.Lists[k]'(by omega) ∈ h.Lists := List.getElem_mem _
        have q := hs.pages _ hin
        have q1 := hlk.pages.len
        repeat' (first | (show CW _ _ _ _ _ _; first | refine CW.seq ?_ | refine CW.region ?_ | refine CW.block ?_ | refine CW.condd_t rfl (by omega) ?_ | refine CW.skip ?_) | (show Post _ _ _ _ _; refine Post.seq ?_) | refine SW.nil ?_ | refine SW.pure rfl rfl ?_ | (show SW _ _ _ _ (⟨_, Op.indexAddr _ _ _, _, _, _, none⟩ :: _) _ _; refine SW.st (st_indexN rfl rfl (by assumption) (by omega)) rfl ?_) | (show SW _ _ _ _ (⟨_, Op.load _ _, _, _, _, none⟩ :: _) _ _; refine SW.st (st_loadsx hw rfl rfl ((hl.row.all hkn))) rfl ?_))
        have hlt7 := hP.row.lt_size
        refine SW.alloc rfl fun b7 w1 hw1 hb7b hb7 => ?_
        skip
        refine SW.storeAgg hb7 rfl rfl rfl rfl (one_l _) fun w2 hb7' hg => ?_
        have hXX := hw1.own hb7b hg
        have hb7w : w.heap.size ≤ b7 := Nat.le_trans hw.size hb7b
        replace hw := Ext.trans hw hXX
        replace hb2 := hb2.ext hXX
        replace hb3 := hb3.ext hXX
        replace hX := hX.ext hXX
        replace hY := hY.ext hXX
        replace hO := hO.ext hXX
        replace hP := hP.ext hXX
        replace hb7 := hb7'
        clear hb7' hw1 hg hXX
        repeat' (first | (show CW _ _ _ _ _ _; first | refine CW.seq ?_ | refine CW.region ?_) | (show Post _ _ _ _ _; refine Post.seq ?_) | refine SW.nil ?_ | (show SW _ _ _ _ (⟨_, Op.fieldAddr _ _ _, _, _, _, none⟩ :: _) _ _; refine SW.st (st_field rfl) rfl ?_) | (show SW _ _ _ _ (⟨_, Op.load _ _, _, _, _, none⟩ :: _) _ _; refine SW.st (st_load rfl (hb7.cell rfl)) rfl ?_))
        refine SW.call rfl rfl (CloneInt_ans _ _ _ _ _ (hlk.pages.ext hw) (by omega)) fun v w4 hXX hv => ?_
        obtain ⟨W, e4, rfl, hW⟩ := hv
        replace hSp := hSp.snoc (y := ⟨ls[k].Cpu, ls[k].Zone, ls[k].Ty, ⟨W, ls[k].Pages.n, e4⟩⟩) hX hO hP hW.row_ge
        replace hW := hW.low hw.size
        (replace hw := Ext.trans hw hXX; replace hb2 := hb2.ext hXX; replace hb3 := hb3.ext hXX; replace hb7 := hb7.ext hXX; replace hX := hX.ext hXX; replace hY := hY.ext hXX; replace hO := hO.ext hXX; replace hP := hP.ext hXX)
        repeat' ((show SW _ _ _ _ (⟨_, Op.fieldAddr _ _ _, _, _, _, none⟩ :: _) _ _; refine SW.st (st_field rfl) rfl ?_))
        refine SW.storeB (i := 3) hb7 rfl rfl rfl rfl fun w5 hb7' hg => ?_
        have hG := hb7.gr hg
        replace hw := hw.own hb7w hg
        (replace hb2 := hb2.grT hG rfl; replace hb3 := hb3.grT hG rfl; replace hX := hX.grT hG rfl; replace hY := hY.grT hG rfl; replace hO := hO.grT hG rfl; replace hW := hW.grT hG rfl)
        replace hP : OwnLs w5 w.heap.size ⟨B, k, d⟩ lr (h.Lists.take k) := ⟨hP.row.grown hg (.inr (fun e => by have := hlt7 _ e; omega)), hP.each.mono fun _ _ h => h.grT hG rfl⟩
        repeat' (first | (show CW _ _ _ _ _ _; refine CW.region ?_) | (show Post _ _ _ _ _; refine Post.seq ?_) | refine SW.nil ?_ | (show SW _ _ _ _ (⟨_, Op.fieldAddr _ _ _, _, _, _, none⟩ :: _) _ _; refine SW.st (st_field rfl) rfl ?_) | (show SW _ _ _ _ (⟨_, Op.load _ _, _, _, _, none⟩ :: _) _ _; first | refine SW.st (st_load rfl (hb3.cell rfl)) rfl ?_ | refine SW.st (st_loads rfl rfl ((fun _ _ => hb7'.cell))) rfl ?_))
        refine SW.build1 rfl rfl rfl rfl rfl fun b w6 hXX hb hB => ?_
        (replace hw := Ext.trans hw hXX; replace hb2 := hb2.ext hXX; replace hb3 := hb3.ext hXX; replace hX := hX.ext hXX; replace hY := hY.ext hXX; replace hO := hO.ext hXX; replace hP := hP.ext hXX; replace hW := hW.ext hXX)
        refine SW.append hP.row (Blk.sl1 (enc := encL) (x := ⟨ls[k].Cpu, ls[k].Zone, ls[k].Ty, ⟨W, _, e4⟩⟩) hB) hw.size rfl rfl rfl (by simp only; omega) (by simp only; omega) fun A2 c2 w7 hP1 hg => ?_
        have hG := hP.row.gr hg
        replace hw := ext_grown hw hg (Nat.le_refl _) hP.row.row_ge
        (replace hb2 := hb2.grT hG rfl; replace hb3 := hb3.grT hG rfl; replace hX := hX.grT hG rfl; replace hY := hY.grT hG rfl; replace hO := hO.grT hG rfl; replace hW := hW.grT hG rfl)
        have hE := hP.each.mono fun _ _ h => h.grT hG rfl
        repeat' ((show SW _ _ _ _ (⟨_, Op.fieldAddr _ _ _, _, _, _, none⟩ :: _) _ _; refine SW.st (st_field rfl) rfl ?_))
        refine SW.storeB (i := 3) hb3 rfl rfl rfl rfl fun w8 hb3' hg => ?_
        have hG := hb3.gr hg
        replace hw := hw.own hb3w hg
        replace hb2 := hb2.grown hg (by simpa using hne4)
        (replace hX := hX.grT hG rfl; replace hY := hY.grT hG rfl; replace hO := hO.grT hG rfl; replace hP1 := hP1.grT hG rfl; replace hW := hW.grT hG rfl)
        replace hE := hE.mono fun _ _ h => h.grT hG rfl
        repeat' (first | (show CW _ _ _ _ _ _; refine CW.region ?_) | (show Post _ _ _ _ _; first | refine Post.seq ?_ | refine Post.blk ?_) | refine SW.nil ?_ | refine SW.pure rfl rfl ?_ | (show SW _ _ _ _ (⟨_, Op.binOp _ _ _ _ _, _, _, _, none⟩ :: _) _ _; refine SW.st (st_add rfl rfl (by omega) (by omega)) rfl ?_))
        refine Post.again (k + 1, A2, c2, lr ++ [⟨ls[k].Cpu, ls[k].Zone, ls[k].Ty, ⟨W, _, e4⟩⟩]) ⟨rfl, rfl, rfl, rfl, rfl, trivial⟩ (by simp only; omega) ⟨by simp only; omega, hw, hb2, hb3', hX, hY, hO, ⟨hP1, ?_⟩, hSp⟩
        rw [List.take_succ_eq_append_getElem (by omega)]
        exact hE.snoc ⟨hlk.cpu, hlk.zone, hlk.ty, hW⟩
      · obtain rfl : k = r.Lists.n := by omega
        rw [List.take_of_length_le (by omega)] at hP
        repeat' (first | (show CW _ _ _ _ _ _; first | refine CW.seq ?_ | refine CW.region ?_ | refine CW.condd_f rfl (by omega) ?_ | refine CW.exit ?_) | (show Post _ _ _ _ _; first | refine Post.seq ?_ | refine Post.seq_exit ?_ | refine Post.hit ?_ | refine Post.again_exit ?_) | refine SW.nil ?_ | refine SW.pure rfl rfl ?_ | (show SW _ _ _ _ (⟨_, Op.load _ _, _, _, _, none⟩ :: _) _ _; refine SW.st (st_loads rfl rfl ((fun _ _ => hb3.cell))) rfl ?_))
        refine SW.storeAgg hb2 rfl rfl rfl rfl (one_h _) fun w5 hR2 hg => ?_
        have hG := hb2.gr hg
        replace hw := hw.own hb2w hg
        (replace hX := hX.grT hG rfl; replace hY := hY.grT hG rfl; replace hO := hO.grT hG rfl; replace hP := hP.grT hG rfl)
        repeat' (first | (show CW _ _ _ _ _ _; refine CW.ret ?_) | (show Post _ _ _ _ _; refine Post.seq ?_) | refine SW.nil ?_)
        exact Post.ret1c rfl rfl hR2 rfl ⟨_, rfl, hw, ⟨⟨A, r.Zones.n, c⟩, ⟨X, r.Mins.n, c4⟩, r.Cpus, ⟨B, r.Lists.n, d⟩, ⟨Y, r.Live.n, d4⟩⟩, rfl, ⟨hr.cpus, hX, hY, ⟨zr, hO⟩, ⟨lr, hP⟩⟩, zr, lr, hO, hP, hSp, hSf⟩

theorem Hcopy_ans (r : HRow) (h : Heap) (w : World) (hr : RdH w r h) (hs : h.small) :
    Ans Try.prog 23 [.agg (encH r).toArray] w fun v w' => ∃ s, v = .agg (encH s).toArray ∧ OwnH w' w.heap.size s h :=
  (HcopyS_ans r h w hr hs).mono fun _ _ _ ⟨s, hv, ho⟩ => ⟨s, hv, ho.own⟩
end Go.Proofs.Ytfdmgflboibdoaa
