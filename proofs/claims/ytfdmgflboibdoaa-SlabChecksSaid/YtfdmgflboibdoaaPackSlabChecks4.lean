/-
  How a law's statement is closed out of its contract: the call answers true, and nothing that was there has turned.
-/
import Derived.Test.YtfdmgflboibdoaaRows
import Derived.Test.YtfdmgflboibdoaaPackSlabChecks3
import Derived.ProofKit
import Derived.SizedLaws
import Derived.JoinedCond
import Derived.Deep.Slices
import Derived.Deep.Fields
import Derived.Lib.SmallJoins
import Derived.OpenShut
import Derived.Test.YtfdmgflboibdoaaPackSlabChecks1
set_option linter.unusedVariables false
namespace Go.Proofs.Ytfdmgflboibdoaa
open Go.ChangeShapes Go.WideShapes Go.ChangeAt Go.RowKit Go.Deep Go.Joins

theorem own : ownKnob Try.prog.godebug = none := by kernel_rfl
theorem laidOut : laidOutB Try.prog = true := by kernel_rfl

theorem trodAll_stays {H : Type} {enc : TypeId × Value → H} {P : Program} (hl : laidOutB P = true) {W W' : World} (hb : Below W.heap.size W W') :
    ∀ (ts : List TypeId) (vs : List Value) (ds : List (DataW H)) (ps : List MemPlace), (∀ t ∈ ts, P.readableRec t = true ∧ t < P.types.size) →
      DataW.TrodAll enc P W 0 (fun _ => true) true ts vs ds ps → (∀ x ∈ ps, x.block < W.heap.size) → DataW.TrodAll enc P W' 0 (fun b => decide (b < W.heap.size)) true ts vs ds ps
  | [], [], [], _, _, h, _ => h
  | t :: ts, v :: vs, d :: ds, ps, hts, h, hlt => by
    obtain ⟨p, q, h1, h2, rfl⟩ := h
    exact ⟨p, q, Below.trod hl (hts t (by simp)).1 (hts t (by simp)).2 h1 hb (fun x hx => hlt x (by simp [hx])),
      trodAll_stays hl hb ts vs ds q (fun u hu => hts u (by simp [hu])) h2 (fun x hx => hlt x (by simp [hx])), rfl⟩
  | [], _ :: _, _, _, _, h, _ => by simp [DataW.TrodAll] at h
  | [], [], _ :: _, _, _, h, _ => by simp [DataW.TrodAll] at h
  | _ :: _, [], _, _, _, h, _ => by simp [DataW.TrodAll] at h
  | _ :: _, _ :: _, [], _, _, h, _ => by simp [DataW.TrodAll] at h

theorem law_close {H : Type} {enc : TypeId × Value → H} {P : Program} {f : Func} {s : ChangeSpec} {fid : FuncId} {W : World} {args : Array Value} {ds gs : List (DataW H)} {before : List MemPlace} {tb : TypeId}
    (hl : laidOutB P = true) (hts : ∀ t ∈ f.params.toList, P.readableRec t = true ∧ t < P.types.size) (hr : f.resultTypes = #[tb]) (hb : P.underlying tb = some .bool) (hv : s.vars = [])
    (hsp : (s.fn H (ds ++ [])).results = [.lit (.bool true)] ∧ (s.fn H (ds ++ [])).args = ds ∧ (s.fn H (ds ++ [])).vars = [])
    (hW : DataW.Whole enc P f.params.toList s.vars false W args.toList ds gs before) (h : Ans P fid args.toList W fun v _ => v = .bool true) :
    Calls P fid args W fun e W' => ∃ v, e = .returned v ∧ s.post enc P f false true false false W args v W' := by
  have hW' := hW
  obtain ⟨p, q, hA, hV, rfl, _, _⟩ := hW
  rw [hv] at hV
  obtain ⟨rfl, rfl⟩ := trodVars_none hV
  simp only [List.append_nil] at hW'
  have hlt : ∀ x ∈ p, x.block < W.heap.size := fun x hx => by simpa using hW'.lt x hx
  refine Calls.mono h.out ?_
  rintro e W' ⟨v, rfl, hx, rfl⟩
  obtain ⟨s1, s2, s3⟩ := hsp
  refine ⟨_, rfl, ds, [], p, [], p, [], hW', ?_, ?_, ?_, Below.frame hx _, fun h => by cases h⟩
  · rw [s1, hr]
    exact trodAll_mk1 (shut_bool hb true)
  · rw [s2]
    exact trodAll_stays hl hx _ _ _ _ hts hA hlt
  · rw [s3, hv]
    rfl
end Go.Proofs.Ytfdmgflboibdoaa

/-
  Plain data of the program (no program text in sight): the structs of package api as Lean structures, and the lists of their cells.
-/
namespace Go.Proofs.Ytfdmgflboibdoaa

structure Region where
  From : Int
  Size : Int
  deriving DecidableEq

structure Boot where
  Memory : List Region
  Reserved : List Region

structure Block where
  At : Int
  Order : Int
  Ty : Int
  deriving DecidableEq

structure Zone where
  From : Int
  To : Int
  Free : List Block
  Types : List Int
  deriving DecidableEq

structure PList where
  Cpu : Int
  Zone : Int
  Ty : Int
  Pages : List Int

structure Heap where
  Zones : List Zone
  Mins : List Int
  Cpus : Int
  Lists : List PList
  Live : List Block

structure Slab where
  At : Int
  Free : Int
  First : Int
  deriving DecidableEq

structure Cache where
  Names : List (List UInt8)
  Size : Int
  Per : Int
  Order : Int
  Slabs : List Slab
  Active : List Int

structure System where
  Words : List Int
  Heap : Heap
  Caches : List Cache

end Go.Proofs.Ytfdmgflboibdoaa

/-
  Contracts of the small functions: In, sameInts and their like.
-/
set_option linter.unusedVariables false
namespace Go.Proofs.Ytfdmgflboibdoaa
open Go.RowKit

theorem In_ans (x lo hi : Int) (w : World) : Ans Try.prog 80 [.int .i64 x, .int .i64 lo, .int .i64 hi] w fun v _ => v = .bool (decide (lo ≤ x ∧ x ≤ hi)) := by
  refine ans_of Try.func80 rfl Try.ntmps80 rfl ?_
  repeat' (first | (show CW _ _ _ _ _ _; first | refine CW.seq ?_ | refine CW.region ?_ | refine CW.ret ?_) | (show Post _ _ _ _ _; refine Post.seq ?_) | refine SW.nil ?_ | (show SW _ _ _ _ (⟨_, _, _, _, _, some _⟩ :: _) _ _; first | refine SW.want_t rfl rfl (by with_reducible rfl) ?_ | refine SW.skip_t rfl rfl (by with_reducible rfl) rfl ?_ | refine SW.splitd rfl rfl rfl (fun h => ?_) (fun h => ?_)) | refine SW.pure rfl rfl ?_)
  all_goals refine Post.ret1 rfl rfl ⟨_, rfl, Ext.refl _, ?_⟩
  all_goals simp [*]

theorem sameInts_ans (A B : Option Addr) (n m c d : Nat) (xs ys : List Int) (w : World) (hx : Sl w 1 encI A n xs) (hy : Sl w 1 encI B m ys) (hn : n ≤ 2305843009213693952) :
    Ans Try.prog 70 [.slice A n c, .slice B m d] w fun v _ => v = .bool (decide (xs = ys)) := by
  refine ans_of Try.func70 rfl Try.ntmps70 rfl ?_
  have hl := hx.len
  have hl' := hy.len
  have hA := hx.base
  have hB := hy.base
  have hw := Ext.refl w
  repeat' (first | (show CW _ _ _ _ _ _; first | refine CW.seq ?_ | refine CW.region ?_ | refine CW.block ?_ | refine CW.condn rfl (fun h => ?_) (fun h => ?_) | refine CW.skip ?_ | refine CW.ret ?_) | (show Post _ _ _ _ _; first | refine Post.seq ?_ | refine Post.seq_ret ?_) | refine SW.nil ?_ | refine SW.pure rfl rfl ?_ | (show SW _ _ _ _ (⟨_, Op.call ⟨.builtin .len, _, _⟩, _, _, _, none⟩ :: _) _ _; refine SW.st (st_len rfl) rfl ?_))
  · refine Post.ret1 rfl rfl ⟨_, rfl, hw, ?_⟩
    have : xs ≠ ys := fun e => by subst e; omega
    simp [this]
  · have hnm : n = m := by omega
    refine CW.loop (fun k : Nat => [(0, .slice A n c), (1, .slice B m d), (5, .int .i64 (k : Int))])
      (fun k w' => k ≤ n ∧ Ext w w' ∧ ∀ j (h1 : j < xs.length) (h2 : j < ys.length), j < k → xs[j] = ys[j]) (fun k => n - k) 0 ⟨rfl, rfl, rfl, trivial⟩ ⟨by omega, hw, fun j _ _ h => by omega⟩ ?_
    clear hw
    rintro k w' ⟨hk, hw, heq⟩
    by_cases hkn : k < n
    · repeat' (first | (show CW _ _ _ _ _ _; first | refine CW.seq ?_ | refine CW.region ?_ | refine CW.block ?_ | refine CW.condd_t rfl (by omega) ?_ | refine CW.condn rfl (fun h => ?_) (fun h => ?_) | refine CW.skip ?_ | refine CW.ret ?_ | (apply CW.quiet1 mixed; (· kernel_rfl); rotate_left; intro w1 hw1; replace hw := Ext.trans hw hw1; clear hw1; rotate_right)) | (show Post _ _ _ _ _; first | refine Post.seq ?_ | refine Post.seq_ret ?_ | refine Post.blk ?_ | refine Post.blk_ret ?_ | refine Post.again_ret ?_) | refine SW.nil ?_ | refine SW.pure rfl rfl ?_ | (show SW _ _ _ _ (⟨_, Op.binOp _ _ _ _ _, _, _, _, none⟩ :: _) _ _; refine SW.st (st_add rfl rfl (by omega) (by omega)) rfl ?_) | (show SW _ _ _ _ (⟨_, Op.indexAddr _ _ _, _, _, _, none⟩ :: _) _ _; refine SW.st (st_indexN rfl rfl (by assumption) (by omega)) rfl ?_) | (show SW _ _ _ _ (⟨_, Op.call ⟨.builtin .len, _, _⟩, _, _, _, none⟩ :: _) _ _; refine SW.st (st_len rfl) rfl ?_) | (show SW _ _ _ _ (⟨_, Op.load _ _, _, _, _, none⟩ :: _) _ _; first | refine SW.st (st_loadx hw rfl (hx.one hkn rfl)) rfl ?_ | refine SW.st (st_loadx hw rfl (hy.one (hnm ▸ hkn) rfl)) rfl ?_) | exact SW.qnil rfl)
      · refine Post.ret1 rfl rfl ⟨_, rfl, hw, ?_⟩
        have : xs ≠ ys := fun e => by subst e; exact h rfl
        simp [this]
      · refine Post.again (k + 1) ⟨rfl, rfl, rfl, trivial⟩ (by omega) ⟨by omega, hw, fun j h1 h2 hj => ?_⟩
        by_cases hjk : j = k
        · subst hjk; assumption
        · exact heq j h1 h2 (by omega)
    · repeat' (first | (show CW _ _ _ _ _ _; first | refine CW.seq ?_ | refine CW.region ?_ | refine CW.condd_f rfl (by omega) ?_ | refine CW.ret ?_ | refine CW.exit ?_) | (show Post _ _ _ _ _; first | refine Post.seq ?_ | refine Post.seq_exit ?_ | refine Post.hit ?_ | refine Post.again_exit ?_) | refine SW.nil ?_ | refine SW.pure rfl rfl ?_ | (show SW _ _ _ _ (⟨_, Op.call ⟨.builtin .len, _, _⟩, _, _, _, none⟩ :: _) _ _; refine SW.st (st_len rfl) rfl ?_))
      refine Post.ret1 rfl rfl ⟨_, rfl, hw, ?_⟩
      have : xs = ys := List.ext_getElem (by omega) fun j h1 h2 => heq j h1 h2 (by omega)
      simp [this]
end Go.Proofs.Ytfdmgflboibdoaa

/-
  Contracts: regions of pages.
-/
set_option linter.unusedVariables false
namespace Go.Proofs.Ytfdmgflboibdoaa
open Go.RowKit

/-- P2.1: may a region be? -/
def Region.ok (r : Region) : Prop := 0 ≤ r.From ∧ 1 ≤ r.Size ∧ r.Size ≤ 256 ∧ r.From + r.Size ≤ 256
instance (r : Region) : Decidable r.ok := inferInstanceAs (Decidable (_ ∧ _))
def encR (r : Region) : List Value := [.int .i64 r.From, .int .i64 r.Size]
def errno (n : Int) : Value := .int .i64 n

theorem CheckRegion_ans (r : Region) (w : World) : Ans Try.prog 144 [.agg (encR r).toArray] w fun v _ => v = .int .i64 (if r.ok then 0 else 1) := by
  refine ans_of Try.func144 rfl Try.ntmps144 rfl ?_
  refine CW.seq (CW.region (SW.box rfl rfl fun b w1 hw hb hB => ?_))
  repeat' (first | (show CW _ _ _ _ _ _; first | refine CW.seq ?_ | refine CW.region ?_ | refine CW.condtr rfl (by with_reducible rfl) ?_ | refine CW.condd rfl (fun h => ?_) (fun h => ?_) | refine CW.skip ?_ | refine CW.ret ?_) | (show Post _ _ _ _ _; first | refine Post.seq ?_ | refine Post.seq_ret ?_) | refine SW.nil ?_ | (show SW _ _ _ _ (⟨_, _, _, _, _, some _⟩ :: _) _ _; first | refine SW.want_f rfl rfl (by with_reducible rfl) ?_ | refine SW.skip_f rfl rfl (by with_reducible rfl) rfl ?_ | refine SW.splitd rfl rfl rfl (fun h => ?_) (fun h => ?_)) | refine SW.pure rfl rfl ?_ | (show SW _ _ _ _ (⟨_, Op.fieldAddr _ _ _, _, _, _, none⟩ :: _) _ _; refine SW.st (st_field rfl) rfl ?_) | (show SW _ _ _ _ (⟨_, Op.binOp _ _ _ _ _, _, _, _, none⟩ :: _) _ _; refine SW.st (st_sub rfl rfl (by omega) (by omega)) rfl ?_) | (show SW _ _ _ _ (⟨_, Op.load _ _, _, _, _, none⟩ :: _) _ _; refine SW.st (st_load rfl (hB.cell rfl)) rfl ?_))
  all_goals refine Post.ret1 rfl rfl ⟨_, rfl, hw, ?_⟩
  all_goals first | rw [if_pos (by unfold Region.ok; omega)] | rw [if_neg (by unfold Region.ok; omega)]

theorem RegionFault_ans (r : Region) (w : World) : Ans Try.prog 92 [.agg (encR r).toArray] w fun v _ => v = .int .i64 (if r.ok then 0 else 1) := by
  refine ans_of Try.func92 rfl Try.ntmps92 rfl ?_
  refine CW.seq (CW.region (SW.box rfl rfl fun b w1 hw hb hB => ?_))
  repeat' (first | (show CW _ _ _ _ _ _; first | refine CW.seq ?_ | refine CW.region ?_ | refine CW.condtr rfl (by with_reducible rfl) ?_ | refine CW.condd rfl (fun h => ?_) (fun h => ?_) | refine CW.skip ?_ | refine CW.ret ?_) | (show Post _ _ _ _ _; first | refine Post.seq ?_ | refine Post.seq_ret ?_) | refine SW.nil ?_ | (show SW _ _ _ _ (⟨_, _, _, _, _, some _⟩ :: _) _ _; first | refine SW.want_f rfl rfl (by with_reducible rfl) ?_ | refine SW.skip_f rfl rfl (by with_reducible rfl) rfl ?_ | refine SW.splitn rfl rfl rfl (fun h => ?_) (fun h => ?_)) | refine SW.pure rfl rfl ?_ | (show SW _ _ _ _ (⟨_, Op.fieldAddr _ _ _, _, _, _, none⟩ :: _) _ _; refine SW.st (st_field rfl) rfl ?_) | (show SW _ _ _ _ (⟨_, Op.binOp _ _ _ _ _, _, _, _, none⟩ :: _) _ _; refine SW.st (st_add rfl rfl (by omega) (by omega)) rfl ?_) | (show SW _ _ _ _ (⟨_, Op.load _ _, _, _, _, none⟩ :: _) _ _; refine SW.st (st_load rfl (hB.cell rfl)) rfl ?_) | (show SW _ _ _ _ (⟨_, Op.call ⟨.value (.func _), _, _⟩, _, _, _, none⟩ :: _) _ _; (refine SW.call rfl rfl (In_ans _ _ _ _) ?_; intro v w1 hw1 hv; subst hv; replace hw := Ext.trans hw hw1; replace hB := hB.ext hw1; clear hw1)))
  all_goals refine Post.ret1 rfl rfl ⟨_, rfl, hw, ?_⟩
  all_goals first | rw [if_pos (by unfold Region.ok; omega)] | rw [if_neg (by unfold Region.ok; omega)]

end Go.Proofs.Ytfdmgflboibdoaa

/-
  Contracts: words, and copies of lists of integers.
-/
set_option linter.unusedVariables false
namespace Go.Proofs.Ytfdmgflboibdoaa
open Go.RowKit

theorem in_ans (A : Option Addr) (n c : Nat) (x k : Int) (w : World) (hn : n ≤ 2305843009213693952) : Ans Try.prog 175 [.slice A n c, .int .i64 x, .int .i64 k] w fun v _ => v = .bool (decide (0 ≤ x ∧ 0 ≤ k ∧ k ≤ n ∧ x + k ≤ n)) := by
  refine ans_of Try.func175 rfl Try.ntmps175 rfl ?_
  repeat' (first | (show CW _ _ _ _ _ _; first | refine CW.seq ?_ | refine CW.region ?_ | refine CW.ret ?_) | (show Post _ _ _ _ _; refine Post.seq ?_) | refine SW.nil ?_ | (show SW _ _ _ _ (⟨_, _, _, _, _, some _⟩ :: _) _ _; first | refine SW.want_t rfl rfl (by with_reducible rfl) ?_ | refine SW.skip_t rfl rfl (by with_reducible rfl) rfl ?_ | refine SW.splitd rfl rfl rfl (fun h => ?_) (fun h => ?_)) | refine SW.pure rfl rfl ?_ | (show SW _ _ _ _ (⟨_, Op.binOp _ _ _ _ _, _, _, _, none⟩ :: _) _ _; refine SW.st (st_sub rfl rfl (by omega) (by omega)) rfl ?_) | (show SW _ _ _ _ (⟨_, Op.call ⟨.builtin .len, _, _⟩, _, _, _, none⟩ :: _) _ _; refine SW.st (st_len rfl) rfl ?_))
  all_goals refine Post.ret1 rfl rfl ⟨_, rfl, Ext.refl _, ?_⟩
  all_goals congr 1
  all_goals symm
  all_goals first | (refine decide_eq_true ?_; omega) | (refine decide_eq_false ?_; omega) | (rw [decide_eq_decide]; omega)

theorem there_ans (A : Option Addr) (n c : Nat) (x k : Int) (w : World) (hn : n ≤ 2305843009213693952) : Ans Try.prog 176 [.slice A n c, .int .i64 x, .int .i64 k] w fun v _ => v = .bool (decide (0 ≤ x ∧ 0 ≤ k ∧ k ≤ n ∧ x + k ≤ n)) := by
  refine ans_of Try.func176 rfl Try.ntmps176 rfl ?_
  have hw := Ext.refl w
  repeat' (first | (show CW _ _ _ _ _ _; first | refine CW.seq ?_ | refine CW.region ?_ | refine CW.ret ?_) | (show Post _ _ _ _ _; refine Post.seq ?_) | refine SW.nil ?_ | (show SW _ _ _ _ (⟨_, _, _, _, _, some _⟩ :: _) _ _; first | refine SW.want_t rfl rfl (by with_reducible rfl) ?_ | refine SW.skip_t rfl rfl (by with_reducible rfl) rfl ?_ | refine SW.splitd rfl rfl rfl (fun h => ?_) (fun h => ?_)) | refine SW.pure rfl rfl ?_ | (show SW _ _ _ _ (⟨_, Op.binOp _ _ _ _ _, _, _, _, none⟩ :: _) _ _; refine SW.st (st_add rfl rfl (by omega) (by omega)) rfl ?_) | (show SW _ _ _ _ (⟨_, Op.call ⟨.builtin .len, _, _⟩, _, _, _, none⟩ :: _) _ _; refine SW.st (st_len rfl) rfl ?_) | (show SW _ _ _ _ (⟨_, Op.call ⟨.value (.func _), _, _⟩, _, _, _, none⟩ :: _) _ _; (refine SW.call rfl rfl (In_ans _ _ _ _) ?_; intro v w1 hw1 hv; subst hv; replace hw := Ext.trans hw hw1; clear hw1)))
  all_goals refine Post.ret1 rfl rfl ⟨_, rfl, hw, ?_⟩
  all_goals congr 1
  all_goals symm
  all_goals first | (refine decide_eq_true ?_; omega) | (refine decide_eq_false ?_; omega) | (rw [decide_eq_decide]; omega)

/-- a list of integers, copied -/
def Copied (w : World) (e sz : Nat) {α : Type} (enc : α → List Value) (n : Nat) (l : List α) : Value → World → Prop := fun v w' => ∃ A c, v = .slice A n c ∧ Own w' w.heap.size e sz enc A n c l

theorem words_ans (A : Option Addr) (n c : Nat) (l : List Int) (w : World) (hl : Sl w 1 encI A n l) (hn : n * 8 ≤ 140737488355328) : Ans Try.prog 103 [.slice A n c] w (Copied w 3 1 encI n l) := by
  refine ans_of Try.func103 rfl Try.ntmps103 rfl ?_
  have hw := Ext.refl w
  have hA := hl.base
  repeat' (first | (show CW _ _ _ _ _ _; first | refine CW.seq ?_ | refine CW.region ?_ | refine CW.block ?_) | (show Post _ _ _ _ _; refine Post.seq ?_) | refine SW.nil ?_ | refine SW.pure rfl rfl ?_)
  refine CW.loop (fun s : Nat × Option Addr × Nat => [(0, .slice A n c), (3, .slice s.2.1 s.1 s.2.2), (4, .int .i64 (s.1 : Int))])
    (fun s w' => s.1 ≤ n ∧ Ext w w' ∧ Own w' w.heap.size 3 1 encI s.2.1 s.1 s.2.2 (l.take s.1)) (fun s => n - s.1) (0, none, 0) ⟨rfl, rfl, rfl, trivial⟩ ⟨by omega, hw, by simpa using Own.nil_ _ _ _ _ _ _⟩ ?_
  clear hw
  rintro ⟨k, A1, c1⟩ w' ⟨hk, hw, hO⟩
  simp only at hk hO ⊢
  by_cases hkn : k < n
  · repeat' (first | (show CW _ _ _ _ _ _; first | refine CW.seq ?_ | refine CW.region ?_ | refine CW.block ?_ | refine CW.condd_t rfl (by omega) ?_ | refine CW.skip ?_) | (show Post _ _ _ _ _; refine Post.seq ?_) | refine SW.nil ?_ | refine SW.pure rfl rfl ?_ | (show SW _ _ _ _ (⟨_, Op.indexAddr _ _ _, _, _, _, none⟩ :: _) _ _; refine SW.st (st_indexN rfl rfl (by assumption) (by omega)) rfl ?_) | (show SW _ _ _ _ (⟨_, Op.call ⟨.builtin .len, _, _⟩, _, _, _, none⟩ :: _) _ _; refine SW.st (st_len rfl) rfl ?_) | (show SW _ _ _ _ (⟨_, Op.load _ _, _, _, _, none⟩ :: _) _ _; refine SW.st (st_loadx hw rfl (hl.one hkn rfl)) rfl ?_))
    refine SW.build1 rfl rfl rfl rfl rfl fun b w1 hw1 hb hB => ?_
    replace hw := Ext.trans hw hw1
    replace hO := hO.ext hw1
    refine SW.append hO (Blk.sl1 (enc := encI) hB) hw.size rfl rfl rfl (by omega) (by omega) fun A2 c2 w2 hO1 hg => ?_
    replace hw := ext_grown hw hg (Nat.le_refl _) hO.row_ge
    repeat' (first | (show CW _ _ _ _ _ _; refine CW.region ?_) | (show Post _ _ _ _ _; first | refine Post.seq ?_ | refine Post.blk ?_) | refine SW.nil ?_ | refine SW.pure rfl rfl ?_ | (show SW _ _ _ _ (⟨_, Op.binOp _ _ _ _ _, _, _, _, none⟩ :: _) _ _; refine SW.st (st_add rfl rfl (by omega) (by omega)) rfl ?_))
    refine Post.again (k + 1, A2, c2) ⟨rfl, rfl, rfl, trivial⟩ (by simp only; omega) ⟨by simp only; omega, hw, ?_⟩
    rw [List.take_succ_eq_append_getElem (hl.lt hkn)]
    exact hO1
  · repeat' (first | (show CW _ _ _ _ _ _; first | refine CW.seq ?_ | refine CW.region ?_ | refine CW.condd_f rfl (by omega) ?_ | refine CW.ret ?_ | refine CW.exit ?_) | (show Post _ _ _ _ _; first | refine Post.seq ?_ | refine Post.seq_exit ?_ | refine Post.hit ?_ | refine Post.again_exit ?_) | refine SW.nil ?_ | refine SW.pure rfl rfl ?_ | (show SW _ _ _ _ (⟨_, Op.call ⟨.builtin .len, _, _⟩, _, _, _, none⟩ :: _) _ _; refine SW.st (st_len rfl) rfl ?_))
    obtain rfl : k = n := by omega
    refine Post.ret1 rfl rfl ⟨_, rfl, hw, A1, c1, rfl, ?_⟩
    rwa [List.take_of_length_le (by have := hl.len; omega)] at hO



theorem CloneInt_ans (A : Option Addr) (n c : Nat) (l : List Int) (w : World) (hl : Sl w 1 encI A n l) (hn : n * 8 ≤ 140737488355328) : Ans Try.prog 67 [.slice A n c] w (Copied w 3 1 encI n l) := by
  refine ans_of Try.func67 rfl Try.ntmps67 rfl ?_
  have hw := Ext.refl w
  repeat' (first | (show CW _ _ _ _ _ _; first | refine CW.seq ?_ | refine CW.region ?_) | (show Post _ _ _ _ _; refine Post.seq ?_) | refine SW.nil ?_ | refine SW.pure rfl rfl ?_)
  refine SW.st (st_eqnil rfl rfl) rfl ?_
  repeat' (first | (show CW _ _ _ _ _ _; first | refine CW.seq ?_ | refine CW.region ?_ | refine CW.cond rfl (fun h => ?_) (fun h => ?_) | refine CW.skip ?_ | refine CW.ret ?_) | (show Post _ _ _ _ _; first | refine Post.seq ?_ | refine Post.seq_ret ?_) | refine SW.nil ?_ | refine SW.pure rfl rfl ?_)
  · have hn0 : n = 0 := by
      rcases Nat.eq_zero_or_pos n with h0 | h0
      · exact h0
      · have := hl.base h0; simp_all
    subst hn0
    have : l = [] := List.eq_nil_of_length_eq_zero hl.len
    subst this
    exact Post.ret1 rfl rfl ⟨_, rfl, hw, none, 0, rfl, Own.nil_ _ _ _ _ _ _⟩
  · refine SW.build0 rfl fun b w1 hw1 hb => ?_
    replace hw := Ext.trans hw hw1
    repeat' (refine SW.pure rfl rfl ?_)
    refine SW.appendR (Nat.zero_add n) (List.nil_append l) (Own.nil_ w1 w.heap.size _ _ encI (some ⟨b, 0, none⟩)) (hl.ext hw) hw.size rfl rfl rfl (by omega) (by omega) fun A2 c2 w2 hO hg => ?_
    replace hw := ext_grown hw hg (Nat.le_refl _) (by simp [ownB])
    repeat' (first | (show CW _ _ _ _ _ _; refine CW.ret ?_) | (show Post _ _ _ _ _; refine Post.seq ?_) | refine SW.nil ?_ | refine SW.pure rfl rfl ?_)
    exact Post.ret1 rfl rfl ⟨_, rfl, hw, A2, c2, rfl, hO⟩

/-! P1.1 -/

end Go.Proofs.Ytfdmgflboibdoaa

/-
  Contracts: lists of regions; boot.Check and its reference; the law BootChecks.
-/
set_option linter.unusedVariables false
namespace Go.Proofs.Ytfdmgflboibdoaa
open Go.RowKit

instance : Enc encR 2 := ⟨fun _ => rfl, fun r u hu => by simp [encR] at hu; rcases hu with rfl | rfl <;> rfl⟩

/-- P2.2, of one list -/
def regionsOk (l : List Region) : Prop := l.length ≤ 40 ∧ ∀ (i : Nat) (h : i < l.length), (l[i]).ok ∧ ∀ (h0 : 0 < i), (l[i - 1]'(by omega)).From + (l[i - 1]'(by omega)).Size < (l[i]).From
noncomputable def regionsB (l : List Region) : Bool := @decide (regionsOk l) (Classical.propDecidable _)
theorem regionsB_t {l : List Region} (h : regionsOk l) : regionsB l = true := by unfold regionsB; exact @decide_eq_true _ (Classical.propDecidable _) h
theorem regionsB_f {l : List Region} (h : ¬ regionsOk l) : regionsB l = false := by unfold regionsB; exact @decide_eq_false _ (Classical.propDecidable _) h
theorem regionsB_iff {l : List Region} : regionsB l = true ↔ regionsOk l := by
  by_cases h : regionsOk l
  · simp [regionsB_t h, h]
  · simp [regionsB_f h, h]

theorem CheckRegion_ok {r : Region} (h : r.ok) (w : World) : Ans Try.prog 144 [.agg (encR r).toArray] w fun v _ => v = .int .i64 0 := (CheckRegion_ans r w).mono fun _ _ _ hv => by rw [hv, if_pos h]
theorem CheckRegion_no {r : Region} (h : ¬ r.ok) (w : World) : Ans Try.prog 144 [.agg (encR r).toArray] w fun v _ => v = .int .i64 1 := (CheckRegion_ans r w).mono fun _ _ _ hv => by rw [hv, if_neg h]
theorem RegionFault_ok {r : Region} (h : r.ok) (w : World) : Ans Try.prog 92 [.agg (encR r).toArray] w fun v _ => v = .int .i64 0 := (RegionFault_ans r w).mono fun _ _ _ hv => by rw [hv, if_pos h]
theorem RegionFault_no {r : Region} (h : ¬ r.ok) (w : World) : Ans Try.prog 92 [.agg (encR r).toArray] w fun v _ => v = .int .i64 1 := (RegionFault_ans r w).mono fun _ _ _ hv => by rw [hv, if_neg h]

theorem end_ok {r : Region} (h : r.ok) (w : World) : Ans Try.prog 101 [.agg (encR r).toArray] w fun v _ => v = .int .i64 (r.From + r.Size) := by
  obtain ⟨h1, h2, h3, h4⟩ := h
  refine ans_of Try.func101 rfl Try.ntmps101 rfl ?_
  refine CW.seq (CW.region (SW.box rfl rfl fun b w1 hw hb hB => ?_))
  repeat' (first | (show CW _ _ _ _ _ _; first | refine CW.seq ?_ | refine CW.region ?_ | refine CW.ret ?_) | (show Post _ _ _ _ _; refine Post.seq ?_) | refine SW.nil ?_ | refine SW.pure rfl rfl ?_ | (show SW _ _ _ _ (⟨_, Op.fieldAddr _ _ _, _, _, _, none⟩ :: _) _ _; refine SW.st (st_field rfl) rfl ?_) | (show SW _ _ _ _ (⟨_, Op.binOp _ _ _ _ _, _, _, _, none⟩ :: _) _ _; refine SW.st (st_add rfl rfl (by omega) (by omega)) rfl ?_) | (show SW _ _ _ _ (⟨_, Op.load _ _, _, _, _, none⟩ :: _) _ _; refine SW.st (st_load rfl (hB.cell rfl)) rfl ?_))
  exact Post.ret1 rfl rfl ⟨_, rfl, hw, rfl⟩

theorem regionsMay_ans (A : Option Addr) (n c : Nat) (l : List Region) (w : World) (hl : Sl w 2 encR A n l) (hn : n ≤ 9223372036854775807) :
    Ans Try.prog 122 [.slice A n c] w fun v _ => v = .bool (regionsB l) := by
  refine ans_of Try.func122 rfl Try.ntmps122 rfl ?_
  have hw := Ext.refl w
  have hA := hl.base
  have hll := hl.len
  repeat' (first | (show CW _ _ _ _ _ _; first | refine CW.seq ?_ | refine CW.region ?_ | refine CW.block ?_ | refine CW.condd rfl (fun h => ?_) (fun h => ?_) | refine CW.skip ?_ | refine CW.ret ?_) | (show Post _ _ _ _ _; first | refine Post.seq ?_ | refine Post.seq_ret ?_) | refine SW.nil ?_ | refine SW.pure rfl rfl ?_ | (show SW _ _ _ _ (⟨_, Op.call ⟨.builtin .len, _, _⟩, _, _, _, none⟩ :: _) _ _; refine SW.st (st_len rfl) rfl ?_))
  · refine Post.ret1 rfl rfl ⟨_, rfl, hw, ?_⟩
    rw [regionsB_f (fun h => by have := h.1; omega)]
  · refine CW.loop (fun k : Nat => [(0, .slice A n c), (3, .int .i64 (k : Int))]) (fun k w' => k ≤ n ∧ Ext w w' ∧ ∀ (i : Nat) (h : i < l.length), i < k → (l[i]).ok ∧ ∀ (h0 : 0 < i), (l[i - 1]'(by omega)).From + (l[i - 1]'(by omega)).Size < (l[i]).From)
      (fun k => n - k) 0 ⟨rfl, rfl, trivial⟩ ⟨by omega, hw, fun i h hi => by omega⟩ ?_
    clear hw
    rintro k w' ⟨hk, hw, hI⟩
    by_cases hkn : k < n
    · have hkl := hl.lt hkn
      by_cases hok : (l[k]).ok
      · by_cases hk0 : k = 0
        · subst hk0
          repeat' (first | (show CW _ _ _ _ _ _; first | refine CW.seq ?_ | refine CW.region ?_ | refine CW.block ?_ | refine CW.condfr rfl (by with_reducible rfl) ?_ | refine CW.condd_t rfl (by omega) ?_ | refine CW.condn_f rfl (by omega) ?_ | refine CW.skip ?_ | (apply CW.quiet1 mixed; (· kernel_rfl); rotate_left; intro w1 hw1; replace hw := Ext.trans hw hw1; clear hw1; rotate_right)) | (show Post _ _ _ _ _; first | refine Post.seq ?_ | refine Post.blk ?_) | refine SW.nil ?_ | (show SW _ _ _ _ (⟨_, _, _, _, _, some _⟩ :: _) _ _; first | refine SW.skip_t rfl rfl (by with_reducible rfl) rfl ?_ | refine SW.splitd_f rfl rfl rfl (by omega) ?_) | refine SW.pure rfl rfl ?_ | (show SW _ _ _ _ (⟨_, Op.binOp _ _ _ _ _, _, _, _, none⟩ :: _) _ _; refine SW.st (st_add rfl rfl (by omega) (by omega)) rfl ?_) | (show SW _ _ _ _ (⟨_, Op.indexAddr _ _ _, _, _, _, none⟩ :: _) _ _; refine SW.st (st_indexN rfl rfl (by assumption) (by omega)) rfl ?_) | (show SW _ _ _ _ (⟨_, Op.call ⟨.builtin .len, _, _⟩, _, _, _, none⟩ :: _) _ _; refine SW.st (st_len rfl) rfl ?_) | (show SW _ _ _ _ (⟨_, Op.load _ _, _, _, _, none⟩ :: _) _ _; refine SW.st (st_loadsx hw rfl rfl ((hl.all hkn))) rfl ?_) | (show SW _ _ _ _ (⟨_, Op.call ⟨.value (.func _), _, _⟩, _, _, _, none⟩ :: _) _ _; (refine SW.call rfl rfl (RegionFault_ok hok _) ?_; intro v w1 hw1 hv; subst hv; replace hw := Ext.trans hw hw1; clear hw1)) | exact SW.qnil rfl)
          refine Post.again (0 + 1) ⟨rfl, rfl, trivial⟩ (by omega) ⟨by omega, hw, fun i h hi => ?_⟩
          obtain rfl : i = 0 := by omega
          exact ⟨hok, fun h0 => by omega⟩
        · obtain ⟨j, rfl⟩ : ∃ j, k = j + 1 := ⟨k - 1, by omega⟩
          have hj : j < n := by omega
          have hp := (hI j (hl.lt hj) (by omega)).1
          have hp' := hp
          have hok' := hok
          unfold Region.ok at hp' hok'
          by_cases hlt : (l[j]'(hl.lt hj)).From + (l[j]'(hl.lt hj)).Size < (l[j + 1]).From
          all_goals
            repeat' (first | (show CW _ _ _ _ _ _; first | refine CW.seq ?_ | refine CW.region ?_ | refine CW.block ?_ | refine CW.condd_t rfl (by omega) ?_ | refine CW.condd_f rfl (by omega) ?_ | refine CW.condn_f rfl (by omega) ?_ | refine CW.skip ?_ | refine CW.ret ?_ | (apply CW.quiet1 mixed; (· kernel_rfl); rotate_left; intro w1 hw1; replace hw := Ext.trans hw hw1; clear hw1; rotate_right)) | (show Post _ _ _ _ _; first | refine Post.seq ?_ | refine Post.seq_ret ?_ | refine Post.blk ?_ | refine Post.blk_ret ?_ | refine Post.again_ret ?_) | refine SW.nil ?_ | (show SW _ _ _ _ (⟨_, _, _, _, _, some _⟩ :: _) _ _; first | refine SW.want_t rfl rfl (by with_reducible rfl) ?_ | refine SW.splitd_t rfl rfl rfl (by omega) ?_) | refine SW.pure rfl rfl ?_ | (show SW _ _ _ _ (⟨_, Op.fieldAddr _ _ _, _, _, _, none⟩ :: _) _ _; refine SW.st (st_field rfl) rfl ?_) | (show SW _ _ _ _ (⟨_, Op.binOp _ _ _ _ _, _, _, _, none⟩ :: _) _ _; first | refine SW.st (st_add rfl rfl (by omega) (by omega)) rfl ?_ | refine SW.st (st_sub rfl rfl (by omega) (by omega)) rfl ?_) | (show SW _ _ _ _ (⟨_, Op.indexAddr _ _ _, _, _, _, none⟩ :: _) _ _; first | refine SW.st (st_indexN rfl rfl (by assumption) (by omega)) rfl ?_ | refine SW.st (st_indexI (j) rfl rfl (by assumption) (by omega) (by omega)) rfl ?_) | (show SW _ _ _ _ (⟨_, Op.call ⟨.builtin .len, _, _⟩, _, _, _, none⟩ :: _) _ _; refine SW.st (st_len rfl) rfl ?_) | (show SW _ _ _ _ (⟨_, Op.load _ _, _, _, _, none⟩ :: _) _ _; first | refine SW.st (st_loadsx hw rfl rfl ((hl.all hkn))) rfl ?_ | refine SW.st (st_loadx hw rfl (hl.fld hkn rfl)) rfl ?_ | refine SW.st (st_loadx hw rfl (hl.fld hj rfl)) rfl ?_) | (show SW _ _ _ _ (⟨_, Op.call ⟨.value (.func _), _, _⟩, _, _, _, none⟩ :: _) _ _; (refine SW.call rfl rfl (RegionFault_ok hok _) ?_; intro v w1 hw1 hv; subst hv; replace hw := Ext.trans hw hw1; clear hw1)) | exact SW.qnil rfl)
          · refine Post.again (j + 1 + 1) ⟨rfl, rfl, trivial⟩ (by omega) ⟨by omega, hw, fun i h hi => ?_⟩
            by_cases hij : i = j + 1
            · subst hij
              exact ⟨hok, fun _ => hlt⟩
            · exact hI i h (by omega)
          · refine Post.ret1 rfl rfl ⟨_, rfl, hw, ?_⟩
            rw [regionsB_f (fun h => hlt ((h.2 (j + 1) hkl).2 (by omega)))]
      · repeat' (first | (show CW _ _ _ _ _ _; first | refine CW.seq ?_ | refine CW.region ?_ | refine CW.block ?_ | refine CW.condd_t rfl (by omega) ?_ | refine CW.condn_t rfl (by omega) ?_ | refine CW.skip ?_ | refine CW.ret ?_) | (show Post _ _ _ _ _; first | refine Post.seq ?_ | refine Post.seq_ret ?_ | refine Post.blk_ret ?_ | refine Post.again_ret ?_) | refine SW.nil ?_ | refine SW.pure rfl rfl ?_ | (show SW _ _ _ _ (⟨_, Op.indexAddr _ _ _, _, _, _, none⟩ :: _) _ _; refine SW.st (st_indexN rfl rfl (by assumption) (by omega)) rfl ?_) | (show SW _ _ _ _ (⟨_, Op.call ⟨.builtin .len, _, _⟩, _, _, _, none⟩ :: _) _ _; refine SW.st (st_len rfl) rfl ?_) | (show SW _ _ _ _ (⟨_, Op.load _ _, _, _, _, none⟩ :: _) _ _; refine SW.st (st_loadsx hw rfl rfl ((hl.all hkn))) rfl ?_) | (show SW _ _ _ _ (⟨_, Op.call ⟨.value (.func _), _, _⟩, _, _, _, none⟩ :: _) _ _; (refine SW.call rfl rfl (RegionFault_no hok _) ?_; intro v w1 hw1 hv; subst hv; replace hw := Ext.trans hw hw1; clear hw1)))
        refine Post.ret1 rfl rfl ⟨_, rfl, hw, ?_⟩
        rw [regionsB_f (fun h => hok (h.2 k hkl).1)]
    · repeat' (first | (show CW _ _ _ _ _ _; first | refine CW.seq ?_ | refine CW.region ?_ | refine CW.condd_f rfl (by omega) ?_ | refine CW.ret ?_ | refine CW.exit ?_) | (show Post _ _ _ _ _; first | refine Post.seq ?_ | refine Post.seq_exit ?_ | refine Post.hit ?_ | refine Post.again_exit ?_) | refine SW.nil ?_ | refine SW.pure rfl rfl ?_ | (show SW _ _ _ _ (⟨_, Op.call ⟨.builtin .len, _, _⟩, _, _, _, none⟩ :: _) _ _; refine SW.st (st_len rfl) rfl ?_))
      refine Post.ret1 rfl rfl ⟨_, rfl, hw, ?_⟩
      rw [regionsB_t ⟨by omega, fun i h => hI i h (by omega)⟩]
end Go.Proofs.Ytfdmgflboibdoaa

/-
  Contracts: lists of structs of integers, copied and held against each other.
-/
set_option linter.unusedVariables false
namespace Go.Proofs.Ytfdmgflboibdoaa
open Go.RowKit

def encBk (b : Block) : List Value := [.int .i64 b.At, .int .i64 b.Order, .int .i64 b.Ty]
instance : Enc encBk 3 := ⟨fun _ => rfl, fun r u hu => by simp [encBk] at hu; rcases hu with rfl | rfl | rfl <;> rfl⟩
def encSb (b : Slab) : List Value := [.int .i64 b.At, .int .i64 b.Free, .int .i64 b.First]
instance : Enc encSb 3 := ⟨fun _ => rfl, fun r u hu => by simp [encSb] at hu; rcases hu with rfl | rfl | rfl <;> rfl⟩
def Region.nums (r : Region) : List Int := [r.From, r.Size]
def Block.nums (r : Block) : List Int := [r.At, r.Order, r.Ty]
theorem Region.nums_inj {r s : Region} : r.nums = s.nums ↔ r = s := by cases r; cases s; simp [Region.nums]
theorem Block.nums_inj {r s : Block} : r.nums = s.nums ↔ r = s := by cases r; cases s; simp [Block.nums]

theorem own_lo {α : Type} {w : World} {lo : Nat} {e : TypeId} {sz : Nat} {enc : α → List Value} {A : Option Addr} {n c : Nat} {l : List α} (h : Own w lo e sz enc A n c l) {b : Nat} (hb : b ≤ lo) : Own w b e sz enc A n c l := h.low hb


theorem CloneBlock_ans (A : Option Addr) (n c : Nat) (l : List Block) (w : World) (hl : Sl w 3 encBk A n l) (hn : n * 24 ≤ 140737488355328) : Ans Try.prog 68 [.slice A n c] w (Copied w 86 3 encBk n l) := by
  refine ans_of Try.func68 rfl Try.ntmps68 rfl ?_
  have hw := Ext.refl w
  repeat' (first | (show CW _ _ _ _ _ _; first | refine CW.seq ?_ | refine CW.region ?_) | (show Post _ _ _ _ _; refine Post.seq ?_) | refine SW.nil ?_ | refine SW.pure rfl rfl ?_)
  refine SW.st (st_eqnil rfl rfl) rfl ?_
  repeat' (first | (show CW _ _ _ _ _ _; first | refine CW.seq ?_ | refine CW.region ?_ | refine CW.cond rfl (fun h => ?_) (fun h => ?_) | refine CW.skip ?_ | refine CW.ret ?_) | (show Post _ _ _ _ _; first | refine Post.seq ?_ | refine Post.seq_ret ?_) | refine SW.nil ?_ | refine SW.pure rfl rfl ?_)
  · have hn0 : n = 0 := by
      rcases Nat.eq_zero_or_pos n with h0 | h0
      · exact h0
      · have := hl.base h0; simp_all
    subst hn0
    have : l = [] := List.eq_nil_of_length_eq_zero hl.len
    subst this
    exact Post.ret1 rfl rfl ⟨_, rfl, hw, none, 0, rfl, Own.nil_ _ _ _ _ _ _⟩
  · refine SW.build0 rfl fun b w1 hw1 hb => ?_
    replace hw := Ext.trans hw hw1
    repeat' (refine SW.pure rfl rfl ?_)
    refine SW.appendR (Nat.zero_add n) (List.nil_append l) (Own.nil_ w1 w.heap.size _ _ encBk (some ⟨b, 0, none⟩)) (hl.ext hw) hw.size rfl rfl rfl (by omega) (by omega) fun A2 c2 w2 hO hg => ?_
    replace hw := ext_grown hw hg (Nat.le_refl _) (by simp [ownB])
    repeat' (first | (show CW _ _ _ _ _ _; refine CW.ret ?_) | (show Post _ _ _ _ _; refine Post.seq ?_) | refine SW.nil ?_ | refine SW.pure rfl rfl ?_)
    exact Post.ret1 rfl rfl ⟨_, rfl, hw, A2, c2, rfl, hO⟩


theorem blocks_ans (A : Option Addr) (n c : Nat) (l : List Block) (w : World) (hl : Sl w 3 encBk A n l) (hn : n * 24 ≤ 140737488355328) : Ans Try.prog 102 [.slice A n c] w (Copied w 86 3 encBk n l) := by
  refine ans_of Try.func102 rfl Try.ntmps102 rfl ?_
  have hw := Ext.refl w
  have hA := hl.base
  repeat' (first | (show CW _ _ _ _ _ _; first | refine CW.seq ?_ | refine CW.region ?_ | refine CW.block ?_) | (show Post _ _ _ _ _; refine Post.seq ?_) | refine SW.nil ?_ | refine SW.pure rfl rfl ?_)
  refine CW.loop (fun s : Nat × Option Addr × Nat => [(0, .slice A n c), (3, .slice s.2.1 s.1 s.2.2), (4, .int .i64 (s.1 : Int))])
    (fun s w' => s.1 ≤ n ∧ Ext w w' ∧ Own w' w.heap.size 86 3 encBk s.2.1 s.1 s.2.2 (l.take s.1)) (fun s => n - s.1) (0, none, 0) ⟨rfl, rfl, rfl, trivial⟩ ⟨by omega, hw, by simpa using Own.nil_ _ _ _ _ _ _⟩ ?_
  clear hw
  rintro ⟨k, A1, c1⟩ w' ⟨hk, hw, hO⟩
  simp only at hk hO ⊢
  by_cases hkn : k < n
  · repeat' (first | (show CW _ _ _ _ _ _; first | refine CW.seq ?_ | refine CW.region ?_ | refine CW.block ?_ | refine CW.condd_t rfl (by omega) ?_ | refine CW.skip ?_) | (show Post _ _ _ _ _; refine Post.seq ?_) | refine SW.nil ?_ | refine SW.pure rfl rfl ?_ | (show SW _ _ _ _ (⟨_, Op.indexAddr _ _ _, _, _, _, none⟩ :: _) _ _; refine SW.st (st_indexN rfl rfl (by assumption) (by omega)) rfl ?_) | (show SW _ _ _ _ (⟨_, Op.call ⟨.builtin .len, _, _⟩, _, _, _, none⟩ :: _) _ _; refine SW.st (st_len rfl) rfl ?_) | (show SW _ _ _ _ (⟨_, Op.load _ _, _, _, _, none⟩ :: _) _ _; refine SW.st (st_loadsx hw rfl rfl ((hl.all hkn))) rfl ?_))
    refine SW.build1 rfl rfl rfl rfl rfl fun b w1 hw1 hb hB => ?_
    replace hw := Ext.trans hw hw1
    replace hO := hO.ext hw1
    refine SW.append hO (Blk.sl1 (enc := encBk) hB) hw.size rfl rfl rfl (by omega) (by omega) fun A2 c2 w2 hO1 hg => ?_
    replace hw := ext_grown hw hg (Nat.le_refl _) hO.row_ge
    repeat' (first | (show CW _ _ _ _ _ _; refine CW.region ?_) | (show Post _ _ _ _ _; first | refine Post.seq ?_ | refine Post.blk ?_) | refine SW.nil ?_ | refine SW.pure rfl rfl ?_ | (show SW _ _ _ _ (⟨_, Op.binOp _ _ _ _ _, _, _, _, none⟩ :: _) _ _; refine SW.st (st_add rfl rfl (by omega) (by omega)) rfl ?_))
    refine Post.again (k + 1, A2, c2) ⟨rfl, rfl, rfl, trivial⟩ (by simp only; omega) ⟨by simp only; omega, hw, ?_⟩
    rw [List.take_succ_eq_append_getElem (hl.lt hkn)]
    exact hO1
  · repeat' (first | (show CW _ _ _ _ _ _; first | refine CW.seq ?_ | refine CW.region ?_ | refine CW.condd_f rfl (by omega) ?_ | refine CW.ret ?_ | refine CW.exit ?_) | (show Post _ _ _ _ _; first | refine Post.seq ?_ | refine Post.seq_exit ?_ | refine Post.hit ?_ | refine Post.again_exit ?_) | refine SW.nil ?_ | refine SW.pure rfl rfl ?_ | (show SW _ _ _ _ (⟨_, Op.call ⟨.builtin .len, _, _⟩, _, _, _, none⟩ :: _) _ _; refine SW.st (st_len rfl) rfl ?_))
    obtain rfl : k = n := by omega
    refine Post.ret1 rfl rfl ⟨_, rfl, hw, A1, c1, rfl, ?_⟩
    rwa [List.take_of_length_le (by have := hl.len; omega)] at hO


theorem sameBlocks_ans (A B : Option Addr) (n m c d : Nat) (xs ys : List Block) (w : World) (hx : Sl w 3 encBk A n xs) (hy : Sl w 3 encBk B m ys) (hn : n ≤ 2305843009213693952) :
    Ans Try.prog 71 [.slice A n c, .slice B m d] w fun v _ => v = .bool (decide (xs = ys)) := by
  refine ans_of Try.func71 rfl Try.ntmps71 rfl ?_
  have hl := hx.len
  have hl' := hy.len
  have hA := hx.base
  have hB := hy.base
  have hw := Ext.refl w
  repeat' (first | (show CW _ _ _ _ _ _; first | refine CW.seq ?_ | refine CW.region ?_ | refine CW.block ?_ | refine CW.condn rfl (fun h => ?_) (fun h => ?_) | refine CW.skip ?_ | refine CW.ret ?_) | (show Post _ _ _ _ _; first | refine Post.seq ?_ | refine Post.seq_ret ?_) | refine SW.nil ?_ | refine SW.pure rfl rfl ?_ | (show SW _ _ _ _ (⟨_, Op.call ⟨.builtin .len, _, _⟩, _, _, _, none⟩ :: _) _ _; refine SW.st (st_len rfl) rfl ?_))
  · refine Post.ret1 rfl rfl ⟨_, rfl, hw, ?_⟩
    have : xs ≠ ys := fun e => by subst e; omega
    simp [this]
  · have hnm : n = m := by omega
    refine CW.loop (fun k : Nat => [(0, .slice A n c), (1, .slice B m d), (5, .int .i64 (k : Int))])
      (fun k w' => k ≤ n ∧ Ext w w' ∧ ∀ j (h1 : j < xs.length) (h2 : j < ys.length), j < k → xs[j] = ys[j]) (fun k => n - k) 0 ⟨rfl, rfl, rfl, trivial⟩ ⟨by omega, hw, fun j _ _ h => by omega⟩ ?_
    clear hw
    rintro k w' ⟨hk, hw, heq⟩
    by_cases hkn : k < n
    · repeat' (first | (show CW _ _ _ _ _ _; first | refine CW.seq ?_ | refine CW.region ?_ | refine CW.block ?_ | refine CW.condd_t rfl (by omega) ?_ | refine CW.condn rfl (fun h => ?_) (fun h => ?_) | refine CW.skip ?_ | refine CW.ret ?_ | (apply CW.quiet1 mixed; (· kernel_rfl); rotate_left; intro w1 hw1; replace hw := Ext.trans hw hw1; clear hw1; rotate_right)) | (show Post _ _ _ _ _; first | refine Post.seq ?_ | refine Post.seq_ret ?_ | refine Post.blk ?_ | refine Post.blk_ret ?_ | refine Post.again_ret ?_) | refine SW.nil ?_ | refine SW.pure rfl rfl ?_ | (show SW _ _ _ _ (⟨_, Op.binOp _ _ _ _ _, _, _, _, none⟩ :: _) _ _; refine SW.st (st_add rfl rfl (by omega) (by omega)) rfl ?_) | (show SW _ _ _ _ (⟨_, Op.indexAddr _ _ _, _, _, _, none⟩ :: _) _ _; refine SW.st (st_indexN rfl rfl (by assumption) (by omega)) rfl ?_) | (show SW _ _ _ _ (⟨_, Op.call ⟨.builtin .len, _, _⟩, _, _, _, none⟩ :: _) _ _; refine SW.st (st_len rfl) rfl ?_) | (show SW _ _ _ _ (⟨_, Op.load _ _, _, _, _, none⟩ :: _) _ _; first | refine SW.st (st_loadsx hw rfl rfl ((hx.all hkn))) rfl ?_ | refine SW.st (st_loadsx hw rfl rfl ((hy.all (hnm ▸ hkn)))) rfl ?_) | (refine SW.st (st_neS (xs[k]'(hx.lt hkn)).nums (ys[k]'(hy.lt (hnm ▸ hkn))).nums rfl rfl rfl rfl) rfl ?_) | exact SW.qnil rfl)
      · refine Post.ret1 rfl rfl ⟨_, rfl, hw, ?_⟩
        have : xs ≠ ys := fun e => by subst e; exact h rfl
        simp [this]
      · refine Post.again (k + 1) ⟨rfl, rfl, rfl, trivial⟩ (by omega) ⟨by omega, hw, fun j h1 h2 hj => ?_⟩
        by_cases hjk : j = k
        · subst hjk; exact Block.nums_inj.1 (by assumption)
        · exact heq j h1 h2 (by omega)
    · repeat' (first | (show CW _ _ _ _ _ _; first | refine CW.seq ?_ | refine CW.region ?_ | refine CW.condd_f rfl (by omega) ?_ | refine CW.ret ?_ | refine CW.exit ?_) | (show Post _ _ _ _ _; first | refine Post.seq ?_ | refine Post.seq_exit ?_ | refine Post.hit ?_ | refine Post.again_exit ?_) | refine SW.nil ?_ | refine SW.pure rfl rfl ?_ | (show SW _ _ _ _ (⟨_, Op.call ⟨.builtin .len, _, _⟩, _, _, _, none⟩ :: _) _ _; refine SW.st (st_len rfl) rfl ?_))
      refine Post.ret1 rfl rfl ⟨_, rfl, hw, ?_⟩
      have : xs = ys := by
        apply List.ext_getElem (by omega)
        intro j h1 h2
        exact heq j h1 h2 (by omega)
      simp [this]

end Go.Proofs.Ytfdmgflboibdoaa

/-
  How an argument's reading is opened to what the contracts ask.
-/
set_option linter.unusedVariables false
set_option maxRecDepth 100000
namespace Go.Proofs.Ytfdmgflboibdoaa
open Go.ChangeShapes Go.WideShapes Go.ChangeAt Go.RowKit Go.Deep Go.Joins

def in64 (z : Int) : Prop := -9223372036854775808 ≤ z ∧ z ≤ 9223372036854775807

section
variable {H : Type} {enc : TypeId × Value → H} {W : World} {base : Nat} {spare : Nat → Bool} {held : Bool} {fuel : Nat} {cs : List Value} {x : DataW H × List MemPlace}

theorem in64_of_wf {z : Int} (h : (Lit.int .i64 z).wf = true) : in64 z := by
  have h1 : IntKind.i64.min = -9223372036854775808 := rfl
  have h2 : IntKind.i64.max = 9223372036854775807 := rfl
  simp only [Lit.wf, Bool.and_eq_true, decide_eq_true_eq] at h
  unfold in64
  omega

theorem el_int {t : TypeId} (ht : Try.prog.underlying t = some (.int .i64)) (h : DataW.trod enc Try.prog W base spare held fuel t cs = some x) : ∃ z : Int, cs = encI z ∧ in64 z := by
  obtain ⟨z, rfl, _, hw⟩ := DataW.trod_int ht h
  exact ⟨z, rfl, in64_of_wf hw⟩

/-- a slice, read as a list -/
theorem open_sl {α : Type} {t e sz : Nat} [S : SliceTy Try.prog t e sz] (hc : Try.prog.cellsOf e = sz) {en : α → List Value} {Good : α → Prop}
    (hel : ∀ fuel cs x, DataW.trod enc Try.prog W base spare held fuel e cs = some x → ∃ a : α, cs = en a ∧ Good a) (h : DataW.trod enc Try.prog W base spare held fuel t cs = some x) :
    ∃ A n c l, cs = [.slice A n c] ∧ Sl W sz en A n l ∧ n ≤ c ∧ c ≤ maxLen ∧ (∀ a ∈ l, Good a) ∧ ((x.1 = .nil ∧ n = 0) ∨ ∃ es sp, x.1 = .slice es sp ∧ es.length = n) := by
  rcases open_slice S.und h with ⟨h1, h2⟩ | ⟨a, len, cap, m, k, D, Pl, h1, hb, hl, hm, hmm, hx, hi⟩
  · exact ⟨none, 0, 0, [], h1, Sl.nil_ _ _ _ _, by simp, by simp, by simp, .inl ⟨by rw [h2], rfl⟩⟩
  · have hlm : len ≤ m := by rw [hmm]; split <;> omega
    have hex : ∀ i, i < len → ∃ q : α, Good q ∧ ∀ j u, (en q)[j]? = some u → W.cell? ((a.add (i * sz)).add j) = some u := fun i hlt => by
      obtain ⟨cs', hcs, ht⟩ := hi i (by omega)
      obtain ⟨q, rfl, hg⟩ := hel _ _ _ ht
      obtain ⟨_, hcl, hat⟩ := World.cells?_some hcs
      rw [hc] at hcl hat
      refine ⟨q, hg, fun j u hu => ?_⟩
      have hj : j < (en q).length := by
        rcases Nat.lt_or_ge j (en q).length with h | h
        · exact h
        · simp [List.getElem?_eq_none h] at hu
      rw [hat j (by omega)]
      exact hu
    by_cases h0 : len = 0
    · subst h0
      exact ⟨some a, 0, cap, [], h1, Sl.nil_ _ _ _ _, hl, hm, by simp, .inr ⟨_, _, by rw [hx], by simp⟩⟩
    have hch : ∃ f : Nat → α, ∀ i, i < len → Good (f i) ∧ ∀ j u, (en (f i))[j]? = some u → W.cell? ((a.add (i * sz)).add j) = some u := by
      have hne : Nonempty α := ⟨(hex 0 (by omega)).choose⟩
      exact ⟨fun i => if h : i < len then (hex i h).choose else Classical.choice hne, fun i h => by simp only [h, dif_pos]; exact (hex i h).choose_spec⟩
    obtain ⟨f, hf⟩ := hch
    refine ⟨some a, len, cap, (List.range len).map f, h1, ⟨by simp, fun _ => rfl, fun i hi' j u hu => ?_⟩, hl, hm, ?_, .inr ⟨_, _, by rw [hx], by simp⟩⟩
    · simp at hi'
      exact (hf i hi').2 j u (by simpa using hu)
    · intro q hq
      obtain ⟨i, hi', rfl⟩ := List.mem_map.1 hq
      exact (hf i (by simpa using hi')).1

theorem open_sl_arg {α : Type} {r : Reach} {b0 : Nat} {t e sz : Nat} [S : SliceTy Try.prog t e sz] (hc : Try.prog.cellsOf e = sz) {en : α → List Value} {Good : α → Prop}
    (hel : ∀ fuel cs x, DataW.trod enc Try.prog W base spare held fuel e cs = some x → ∃ a : α, cs = en a ∧ Good a) {v : Value} {d : DataW H} {p : List MemPlace} (hv : Value.okWide Try.prog W r b0 t v) (h : DataW.Trod enc Try.prog W base spare held t v d p) :
    ∃ A n c l, v = .slice A n c ∧ Sl W sz en A n l ∧ n ≤ c ∧ c ≤ maxLen ∧ (∀ a ∈ l, Good a) ∧ ((d = .nil ∧ n = 0) ∨ ∃ es sp, d = .slice es sp ∧ es.length = n) := by
  obtain ⟨a0, len, cap, rfl⟩ := okWide_slice S.und hv
  obtain ⟨fuel, hf⟩ := h
  obtain ⟨A, n, c, l, h1, h2, h3, h4, h5, h6⟩ := open_sl hc hel hf
  simp [Value.cells] at h1
  obtain ⟨rfl, rfl, rfl⟩ := h1
  exact ⟨a0, len, cap, l, rfl, h2, h3, h4, h5, h6⟩

theorem bound_sl {ts : List TypeId} {ds : List (DataW H)} (hsz : (DataW.weightsEach Try.prog ts ds).all (· ≤ reachBytes) = true) {j t e sz n b : Nat} {d : DataW H} [S : SliceTy Try.prog t e sz] (ht : ts[j]? = some t) (hd : ds[j]? = some d) (hb : Try.prog.bytesOf e = b)
    (h : (d = .nil ∧ n = 0) ∨ ∃ es sp, d = .slice es sp ∧ es.length = n) : n * b ≤ 140737488351232 := by
  rcases h with ⟨_, rfl⟩ | ⟨es, sp, rfl, rfl⟩
  · omega
  · have := sized_slice hsz ht hd S.und
    rw [hb] at this
    simp only [reachBytes] at this
    refine Nat.le_trans (Nat.mul_le_mul_right _ (Nat.le_add_right _ _)) this

theorem el_region (h : DataW.trod enc Try.prog W base spare held fuel 54 cs = some x) : ∃ r : Region, cs = encR r ∧ (in64 r.From ∧ in64 r.Size) := by
  obtain ⟨xs, n, _, _, hlen, hxl, hf⟩ := DataW.trod_struct Try.underlying54 h
  have hc : Try.prog.cellsOf 54 = 2 := by kernel_rfl
  have hi : Try.prog.cellsOf 3 = 1 := by kernel_rfl
  rw [hc] at hlen
  match cs, hlen with
  | [c0, c1], _ =>
    match xs, hxl with
    | [y0, y1], _ =>
      have h0 : DataW.trod enc Try.prog W base spare held n 3 (List.take (Try.prog.cellsOf 3) (List.drop 0 [c0, c1])) = some y0 := hf 0 _ rfl
      have h1 : DataW.trod enc Try.prog W base spare held n 3 (List.take (Try.prog.cellsOf 3) (List.drop 1 [c0, c1])) = some y1 := hf 1 _ rfl
      rw [hi] at h0 h1
      obtain ⟨a, ha, wa⟩ := el_int Try.underlying3 h0
      obtain ⟨b, hb, wb⟩ := el_int Try.underlying3 h1
      simp [encI] at ha hb
      subst ha hb
      exact ⟨⟨a, b⟩, rfl, wa, wb⟩
end

/-! bounds of what lies within arguments -/
section
variable {H : Type} {P : Program}
theorem bd_arg {ts : List TypeId} {ds : List (DataW H)} (h : (DataW.weightsEach P ts ds).all (· ≤ reachBytes) = true) {j : Nat} {t : TypeId} {d : DataW H} (ht : ts[j]? = some t) (hd : ds[j]? = some d) : ∀ y ∈ d.weights P t, y ≤ reachBytes := fun y hy => by
  simpa using List.all_eq_true.1 h _ (DataW.weights_mem_each ht hd y hy)
theorem bd_field {t : TypeId} {fs : Array Field} {parts : List (DataW H)} (hu : P.underlying t = some (.struct fs)) {j : Nat} {tj : TypeId} {dj : DataW H} (ht : (fs.toList.map (·.type))[j]? = some tj) (hd : parts[j]? = some dj) (h : ∀ y ∈ (DataW.agg parts).weights P t, y ≤ reachBytes) : ∀ y ∈ dj.weights P tj, y ≤ reachBytes := fun y hy => by
  apply h
  simp only [DataW.weights, hu]
  exact DataW.weights_mem_each ht hd y hy
theorem bd_sl {t e sz n b : Nat} {d : DataW H} [S : SliceTy P t e sz] (hb : P.bytesOf e = b) (h : (d = .nil ∧ n = 0) ∨ ∃ es sp, d = .slice es sp ∧ es.length = n) (hw : ∀ y ∈ d.weights P t, y ≤ reachBytes) : n * b ≤ 140737488351232 := by
  rcases h with ⟨_, rfl⟩ | ⟨es, sp, rfl, rfl⟩
  · omega
  · have := hw ((es.length + sp.length) * P.bytesOf e) (by simp [DataW.weights, S.und])
    rw [hb] at this
    simp only [reachBytes] at this
    exact Nat.le_trans (Nat.mul_le_mul_right _ (Nat.le_add_right _ _)) this
end

section
variable {H : Type} {enc : TypeId × Value → H} {W : World} {base : Nat} {spare : Nat → Bool} {held : Bool} {fuel : Nat} {cs : List Value} {x : DataW H × List MemPlace}
theorem el_block (h : DataW.trod enc Try.prog W base spare held fuel 86 cs = some x) : ∃ r : Block, cs = encBk r ∧ True := by
  obtain ⟨xs, n, _, _, hlen, hxl, hf⟩ := DataW.trod_struct Try.underlying86 h
  have hc : Try.prog.cellsOf 86 = 3 := by kernel_rfl
  have hi : Try.prog.cellsOf 3 = 1 := by kernel_rfl
  rw [hc] at hlen
  match cs, hlen with
  | [c0, c1, c2], _ =>
    match xs, hxl with
    | [y0, y1, y2], _ =>
      have h0 : DataW.trod enc Try.prog W base spare held n 3 (List.take (Try.prog.cellsOf 3) (List.drop 0 [c0, c1, c2])) = some y0 := hf 0 _ rfl
      have h1 : DataW.trod enc Try.prog W base spare held n 3 (List.take (Try.prog.cellsOf 3) (List.drop 1 [c0, c1, c2])) = some y1 := hf 1 _ rfl
      have h2 : DataW.trod enc Try.prog W base spare held n 3 (List.take (Try.prog.cellsOf 3) (List.drop 2 [c0, c1, c2])) = some y2 := hf 2 _ rfl
      rw [hi] at h0 h1 h2
      obtain ⟨a, ha, wa⟩ := el_int Try.underlying3 h0
      obtain ⟨b, hb, wb⟩ := el_int Try.underlying3 h1
      obtain ⟨c, hcc, wc⟩ := el_int Try.underlying3 h2
      simp [encI] at ha hb hcc
      subst ha hb hcc
      exact ⟨⟨a, b, c⟩, rfl, trivial⟩
end
end Go.Proofs.Ytfdmgflboibdoaa

/-
  Plain law: when a zone may be; the block beside a block.
-/
set_option linter.unusedVariables false
namespace Go.Proofs.Ytfdmgflboibdoaa

/-- 2^o -/
def pw (o : Int) : Int := 2 ^ o.toNat
theorem pw_cases {o : Int} (h0 : 0 ≤ o) (h4 : o ≤ 4) : (o = 0 ∧ pw o = 1) ∨ (o = 1 ∧ pw o = 2) ∨ (o = 2 ∧ pw o = 4) ∨ (o = 3 ∧ pw o = 8) ∨ (o = 4 ∧ pw o = 16) := by
  have : o = 0 ∨ o = 1 ∨ o = 2 ∨ o = 3 ∨ o = 4 := by omega
  rcases this with rfl | rfl | rfl | rfl | rfl <;> decide
theorem pw_le {o : Int} (h0 : 0 ≤ o) (h4 : o ≤ 4) : 1 ≤ pw o ∧ pw o ≤ 16 := by rcases pw_cases h0 h4 with h | h | h | h | h <;> omega
theorem pw_succ {o : Int} (h0 : 0 ≤ o) (h4 : o ≤ 4) : pw (o + 1) = 2 * pw o := by
  have : o = 0 ∨ o = 1 ∨ o = 2 ∨ o = 3 ∨ o = 4 := by omega
  rcases this with rfl | rfl | rfl | rfl | rfl <;> decide

/-- the block beside -/
def beside (a o : Int) : Int := if a % (2 * pw o) = 0 then a + pw o else a - pw o
theorem xor_fact : ∀ a < 256, ∀ o < 4, a % 2 ^ o = 0 → ((a ^^^ 2 ^ o : Nat) : Int) = if (a : Int) % (2 * 2 ^ o) = 0 then (a : Int) + 2 ^ o else (a : Int) - 2 ^ o := by decide +kernel
theorem xor_beside {a : Nat} {o : Int} (ha : a < 256) (h0 : 0 ≤ o) (h4 : o < 4) (h : (a : Int) % pw o = 0) : ((a ^^^ 2 ^ o.toNat : Nat) : Int) = beside a o := by
  have : o = 0 ∨ o = 1 ∨ o = 2 ∨ o = 3 := by omega
  rcases this with rfl | rfl | rfl | rfl
  · exact xor_fact a ha 0 (by omega) (by simp only [pw] at h; omega)
  · exact xor_fact a ha 1 (by omega) (by have : pw 1 = 2 := by decide
                                         rw [this] at h; simp; omega)
  · exact xor_fact a ha 2 (by omega) (by have : pw 2 = 4 := by decide
                                         rw [this] at h; simp; omega)
  · exact xor_fact a ha 3 (by omega) (by have : pw 3 = 8 := by decide
                                         rw [this] at h; simp; omega)

/-- P3.2: a block may be in a zone -/
def fitsZ (f t a o : Int) : Prop := 0 ≤ o ∧ o ≤ 4 ∧ f ≤ a ∧ a < t ∧ a % pw o = 0
instance (f t a o : Int) : Decidable (fitsZ f t a o) := inferInstanceAs (Decidable (_ ∧ _))
def tyOk (t : Int) : Prop := 0 ≤ t ∧ t ≤ 2
instance (t : Int) : Decidable (tyOk t) := inferInstanceAs (Decidable (_ ∧ _))
/-- a block and the next one -/
def nextOk (a b : Block) : Prop := a.At + pw a.Order ≤ b.At ∧ ¬ (b.Order < 4 ∧ a.Order = b.Order ∧ a.At = beside b.At b.Order)
instance (a b : Block) : Decidable (nextOk a b) := inferInstanceAs (Decidable (_ ∧ _))
def blkOk (f t : Int) (b : Block) : Prop := fitsZ f t b.At b.Order ∧ tyOk b.Ty
instance (f t : Int) (b : Block) : Decidable (blkOk f t b) := inferInstanceAs (Decidable (_ ∧ _))

/-- P3.1 -/
def zoneOk (f t : Int) : Prop := 0 ≤ f ∧ f ≤ t ∧ t ≤ 256 ∧ f % 16 = 0 ∧ t % 16 = 0
instance (f t : Int) : Decidable (zoneOk f t) := inferInstanceAs (Decidable (_ ∧ _))

/-- P3.3 -/
structure ZoneMay (z : Zone) : Prop where
  ok : zoneOk z.From z.To
  len : 8 * (z.Types.length : Int) = z.To - z.From
  types : ∀ t ∈ z.Types, tyOk t
  blk : ∀ (i : Nat) (h : i < z.Free.length), blkOk z.From z.To z.Free[i]
  next : ∀ (i : Nat) (h : i + 1 < z.Free.length), nextOk z.Free[i] z.Free[i + 1]
noncomputable def zoneB (z : Zone) : Bool := @decide (ZoneMay z) (Classical.propDecidable _)
theorem zoneB_t {z : Zone} (h : ZoneMay z) : zoneB z = true := by unfold zoneB; exact @decide_eq_true _ (Classical.propDecidable _) h
theorem zoneB_f {z : Zone} (h : ¬ ZoneMay z) : zoneB z = false := by unfold zoneB; exact @decide_eq_false _ (Classical.propDecidable _) h
theorem zoneB_iff {z : Zone} : zoneB z = true ↔ ZoneMay z := by
  by_cases h : ZoneMay z
  · simp [zoneB_t h, h]
  · simp [zoneB_f h, h]

/-- the reference's words for two buddies -/
theorem next_ref {f t : Int} {a b : Block} (ha : blkOk f t a) (hb : blkOk f t b) (h : a.At + pw a.Order ≤ b.At) :
    (b.Order < 4 ∧ a.Order = b.Order ∧ a.At = beside b.At b.Order) ↔ (b.Order < 4 ∧ a.Order = b.Order ∧ a.At + pw b.Order = b.At ∧ a.At % pw (b.Order + 1) = 0) := by
  obtain ⟨⟨h1, h2, h3, h4, h5⟩, _⟩ := ha
  obtain ⟨⟨g1, g2, g3, g4, g5⟩, _⟩ := hb
  rw [pw_succ g1 g2]
  unfold beside
  constructor
  · rintro ⟨e1, e2, e3⟩
    refine ⟨e1, e2, ?_⟩
    rw [e2] at h5 h
    have hp := pw_cases g1 g2
    generalize pw b.Order = q at *
    rcases hp with ⟨e, rfl⟩ | ⟨e, rfl⟩ | ⟨e, rfl⟩ | ⟨e, rfl⟩ | ⟨e, rfl⟩ <;> split at e3 <;> omega
  · rintro ⟨e1, e2, e3, e4⟩
    refine ⟨e1, e2, ?_⟩
    rw [e2] at h5 h
    have hp := pw_cases g1 g2
    generalize pw b.Order = q at *
    rcases hp with ⟨e, rfl⟩ | ⟨e, rfl⟩ | ⟨e, rfl⟩ | ⟨e, rfl⟩ | ⟨e, rfl⟩ <;> split <;> omega

/-- the place of the first one of which p holds; -1: none -/
def idxOf {α : Type} (p : α → Bool) (l : List α) : Int := if l.any p then (l.findIdx p : Int) else -1
/-- how many pages -/
def pagesOf (l : List Block) : Int := (l.map fun b => pw b.Order).sum
theorem pagesOf_take (l : List Block) (k : Nat) (h : k < l.length) : pagesOf (l.take (k + 1)) = pagesOf (l.take k) + pw l[k].Order := by
  unfold pagesOf
  rw [List.take_succ_eq_append_getElem h, List.map_append, List.sum_append]
  simp
theorem pagesOf_bound {z : Zone} (h : ZoneMay z) : ∀ k, k ≤ z.Free.length → 0 ≤ pagesOf (z.Free.take k) ∧ pagesOf (z.Free.take k) ≤ 16 * (k : Int)
  | 0, _ => by simp [pagesOf]
  | k + 1, hk => by
    have ih := pagesOf_bound h k (by omega)
    have hb := (h.blk k (by omega)).1
    have := pw_le hb.1 hb.2.1
    rw [pagesOf_take _ _ (by omega)]
    omega
theorem typeIdx {z : Zone} {a : Int} (hz : ZoneMay z) (h1 : z.From ≤ a) (h2 : a < z.To) : ∃ k : Nat, (a - z.From) / 8 = k ∧ k < z.Types.length := by
  have := hz.len
  exact ⟨((a - z.From) / 8).toNat, by omega, by omega⟩
end Go.Proofs.Ytfdmgflboibdoaa
