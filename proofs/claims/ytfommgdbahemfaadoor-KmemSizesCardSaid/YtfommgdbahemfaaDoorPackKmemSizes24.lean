/-
  More operations for the stepper: parts of strings, strings put together, an array as a slice, literals of six. No program in sight.
-/
import Derived.Test.YtfommgdbahemfaaDoorPackKmemSizes2
import Derived.Test.YtfommgdbahemfaaDoorPackKmemSizes23
import Derived.Test.YtfommgdbahemfaaDoorRows
import Derived.ProofKit
import Derived.LaidMore
import Derived.OpenShut
import Derived.Stop.Joined
set_option linter.unusedVariables false
set_option linter.unusedSimpArgs false
namespace Go.Proofs.YtfommgdbahemfaaDoor
open Go.RowKit

section
variable {P : Program} {L : Env} {w : World} {d : Option Nat} {T : TypeId} {pos : String} {af : Array Edge} {g : Option (Nat × Bool)}
theorem st_sliceStr {t : TypeId} [c : StrTy P t] {x lo hi : Operand} {s r : ByteArray} {i j : Int} (hx : opv L x = some (.string s)) (hlo : opv L lo = some (.int .i64 i)) (hhi : opv L hi = some (.int .i64 j)) (h0 : 0 ≤ i) (h1 : i ≤ j) (h2 : j ≤ s.size) (hr : s.extract i.toNat j.toNat = r) :
    St P ⟨d, .slice t x (some lo) (some hi) none, T, pos, af, g⟩ L w (.string r) :=
  ⟨fun _ a ha w' _ => by
    subst hr
    have e1 := ha.eval hx
    have e2 := ha.eval hlo
    have e3 := ha.eval hhi
    have h3 : i ≤ (j.toNat : Int) := by omega
    have h4 : ¬ max j 0 < i := by omega
    generalize a.eval = ρ at *
    simp [execOp, e1, e2, e3, Instr.sliceAt, Instr.slice, Instr.sliceBounds, Instr.sliceBound, asIntOf, run_underlying c.und, h0, h1, h2, h3, h4, show 0 ≤ j by omega]⟩
theorem st_addStr {t ty : TypeId} {x y : Operand} {s r : ByteArray} (hx : opv L x = some (.string s)) (hy : opv L y = some (.string r)) (hb : s.size + r.size ≤ 9223372036854775807) : St P ⟨d, .binOp .add t x y ty, T, pos, af, g⟩ L w (.string (s ++ r)) :=
  ⟨fun _ a ha w' _ => by
    have e1 := ha.eval hx
    have e2 := ha.eval hy
    generalize a.eval = ρ at *
    have h1 : ¬ IntKind.i64.max < ((s.size + r.size : Nat) : Int) := by
      have : IntKind.i64.max = 9223372036854775807 := rfl
      omega
    simp only [Int.natCast_add] at h1
    simp [go_sem, e1, e2, Op.stringOp, h1]
    omega⟩
theorem st_sliceAll {t e : TypeId} {len sz : Nat} [c : ArrTy P t len e sz] {x : Operand} {ad : Addr} (hx : opv L x = some (.pointer (some ad))) : St P ⟨d, .slice t x none none none, T, pos, af, g⟩ L w (.slice (some ad) len len) :=
  ⟨fun _ a ha w' _ => by
    have e1 := ha.eval hx
    generalize a.eval = ρ at *
    simp [execOp, e1, Instr.sliceAt, Instr.sureAddr, Instr.sliceBounds, run_underlying c.und, run_sizeOf c.size, add_zero]⟩
end

theorem fill_six {Z : List Value} {a b c d e f : Value} (hZ : Z.length = 6) (ha : a.cells = #[a]) (hb : b.cells = #[b]) (hc : c.cells = #[c]) (hd : d.cells = #[d]) (he : e.cells = #[e]) (hf : f.cells = #[f]) :
    Instr.fill (fun i => some (i * 1, 1)) Z.toArray [(0, a), (1, b), (2, c), (3, d), (4, e), (5, f)] = some #[a, b, c, d, e, f] := by
  match Z, hZ with
  | [z0, z1, z2, z3, z4, z5], _ => simp [Instr.fill, ha, hb, hc, hd, he, hf]

/-- '[]T{a, b, c, d, e, f}', of one cell each -/
theorem SW.build6 {α : Type} {P : Program} {n : Nat} {ops : Array Oper} {Q : Exit → Act → World → Prop} {rest : List Oper} {L : Env} {w : World} {d : Nat} {T : TypeId} {pos : String} {af : Array Edge} {t e : TypeId} {z : Value} {bytes : Nat} {enc : α → List Value}
    [S : SliceTy P t e 1] [E : ElemTy P e z 1 bytes] [C : Enc enc 1] {x0 x1 x2 x3 x4 x5 : Operand} {u0 u1 u2 u3 u4 u5 : Value} (l : List α)
    (h0 : opv L x0 = some u0) (h1 : opv L x1 = some u1) (h2 : opv L x2 = some u2) (h3 : opv L x3 = some u3) (h4 : opv L x4 = some u4) (h5 : opv L x5 = some u5)
    (ho : (u0.cells = #[u0] ∧ u1.cells = #[u1] ∧ u2.cells = #[u2] ∧ u3.cells = #[u3] ∧ u4.cells = #[u4] ∧ u5.cells = #[u5])) (hl : l.flatMap enc = [u0, u1, u2, u3, u4, u5]) (hl6 : l.length = 6)
    (hn : Nat.blt d n = true) (h : ∀ g w', Ext w w' → w.heap.size ≤ g → Own w' w.heap.size e 1 enc (some ⟨g, 0, none⟩) 6 6 l → SW P n ops (.eff Q) rest ((d, .slice (some ⟨g, 0, none⟩) 6 6) :: L) w') :
    SW P n ops (.eff Q) (⟨some d, .buildSlice t 6 #[(0, x0), (1, x1), (2, x2), (3, x3), (4, x4), (5, x5)], T, pos, af, none⟩ :: rest) L w :=
  ⟨fun q hq => by
    obtain ⟨i, hi, hz, hs', hby⟩ := elem_parts P e (z := z) (sz := 1) (bytes := bytes)
    simp only [swp]
    refine wpList_buildSlice rfl t e 6 _ rfl #[u0, u1, u2, u3, u4, u5] i z S.und hi hz (by rw [hs']; omega) (by rw [hs']; omega) ?_ ?_
    · have e1 : (Array.map (fun (p : Nat × Operand) => (p.1, q.eval p.2)) #[(0, x0), (1, x1), (2, x2), (3, x3), (4, x4), (5, x5)]).toList = [(0, u0), (1, u1), (2, u2), (3, u3), (4, u4), (5, u5)] := by
        simp [hq.eval h0, hq.eval h1, hq.eval h2, hq.eval h3, hq.eval h4, hq.eval h5]
      have e2 : ∀ X : Array Value, X = X.toList.toArray := fun X => rfl
      rw [e1, e2 (Array.map _ (Array.range _)), hs']
      obtain ⟨a0, a1, a2, a3, a4, a5⟩ := ho
      exact fill_six (by simp) a0 a1 a2 a3 a4 a5
    · refine (h w.heap.size _ (Ext.alloc w _) (Nat.le_refl _) ⟨hl6, .inr ⟨by omega, w.heap.size, _, rfl, Nat.le_refl _, Blk.new w e [u0, u1, u2, u3, u4, u5], Nat.le_refl _, by simp [maxLen], by simp, ?_⟩⟩).out _ (hq.put hn _)
      rw [hl]
      rfl⟩
end Go.Proofs.YtfommgdbahemfaaDoor

/-
  Contracts: strconv.Itoa of small numbers; kmem.name, kmem.mine, className.
-/
set_option linter.unusedVariables false
set_option linter.unusedSimpArgs false
namespace Go.Proofs.YtfommgdbahemfaaDoor
open Go.RowKit

/-- the sizes that there are always caches for, and their names -/
def kL : List Int := [1, 2, 4, 8, 16, 32]
def istr (k : Int) : ByteArray := if k = 1 then ⟨#[49]⟩ else if k = 2 then ⟨#[50]⟩ else if k = 4 then ⟨#[52]⟩ else if k = 8 then ⟨#[56]⟩ else if k = 16 then ⟨#[49, 54]⟩ else ⟨#[51, 50]⟩
def kstr (k : Int) : ByteArray := if k = 1 then ⟨#[107, 49]⟩ else if k = 2 then ⟨#[107, 50]⟩ else if k = 4 then ⟨#[107, 52]⟩ else if k = 8 then ⟨#[107, 56]⟩ else if k = 16 then ⟨#[107, 49, 54]⟩ else ⟨#[107, 51, 50]⟩
theorem kL_cases {k : Int} (h : k ∈ kL) : k = 1 ∨ k = 2 ∨ k = 4 ∨ k = 8 ∨ k = 16 ∨ k = 32 := by simpa [kL] using h

theorem small_ans (k : Int) (hk : k ∈ kL) (w : World) : Ans Tryd.prog 144 [.int .i64 k] w fun v _ => v = .string (istr k) := by
  refine ans_of Tryd.func144 rfl Tryd.ntmps144 rfl ?_
  have hw := Ext.refl w
  rcases kL_cases hk with rfl | rfl | rfl | rfl | rfl | rfl
  all_goals
    repeat' (first | (show CW _ _ _ _ _ _; first | refine CW.seq ?_ | refine CW.region ?_ | refine CW.condd_t rfl (by omega) ?_ | refine CW.condd_f rfl (by omega) ?_ | refine CW.skip ?_) | (show Post _ _ _ _ _; refine Post.seq ?_) | refine SW.nil ?_ | refine SW.pure rfl rfl ?_ | (show SW _ _ _ _ (⟨_, Op.binOp _ _ _ _ _, _, _, _, none⟩ :: _) _ _; first | refine SW.st (st_add rfl rfl (by omega) (by omega)) rfl ?_ | refine SW.st (st_mul rfl rfl (by omega) (by omega)) rfl ?_))
    refine SW.st (st_sliceStr rfl rfl rfl (by decide) (by decide) (of_decide_eq_true (by kernel_rfl)) rfl) rfl ?_
    repeat' (first | (show CW _ _ _ _ _ _; refine CW.ret ?_) | (show Post _ _ _ _ _; first | refine Post.seq ?_ | refine Post.seq_ret ?_) | refine SW.nil ?_ | refine SW.pure rfl rfl ?_)
    exact Post.ret1 rfl rfl ⟨_, rfl, hw, congrArg Value.string (by kernel_rfl)⟩
theorem FormatInt_ans (k : Int) (hk : k ∈ kL) (w : World) : Ans Tryd.prog 140 [.int .i64 k, .int .i64 10] w fun v _ => v = .string (istr k) := by
  refine ans_of Tryd.func140 rfl Tryd.ntmps140 rfl ?_
  have hw := Ext.refl w
  have hk' : 1 ≤ k ∧ k ≤ 32 := by rcases kL_cases hk with h | h | h | h | h | h <;> omega
  repeat' (first | (show CW _ _ _ _ _ _; first | refine CW.seq ?_ | refine CW.region ?_ | refine CW.condd_t rfl (by omega) ?_ | refine CW.ret ?_) | (show Post _ _ _ _ _; first | refine Post.seq ?_ | refine Post.seq_ret ?_) | refine SW.nil ?_ | (show SW _ _ _ _ (⟨_, _, _, _, _, some _⟩ :: _) _ _; first | refine SW.want_t rfl rfl (by with_reducible rfl) ?_ | refine SW.splitd_t rfl rfl rfl (by omega) ?_) | refine SW.pure rfl rfl ?_ | (show SW _ _ _ _ (⟨_, Op.call ⟨.value (.func _), _, _⟩, _, _, _, none⟩ :: _) _ _; (refine SW.call rfl rfl (small_ans k hk _) ?_; intro v w1 hw1 hv; subst hv; replace hw := Ext.trans hw hw1; clear hw1)))
  exact Post.ret1 rfl rfl ⟨_, rfl, hw, rfl⟩
theorem ItoaI_ans (k : Int) (hk : k ∈ kL) (w : World) : Ans Tryd.prog 135 [.int .i64 k] w fun v _ => v = .string (istr k) := by
  refine ans_of Tryd.func135 rfl Tryd.ntmps135 rfl ?_
  have hw := Ext.refl w
  repeat' (first | (show CW _ _ _ _ _ _; first | refine CW.seq ?_ | refine CW.region ?_ | refine CW.ret ?_) | (show Post _ _ _ _ _; refine Post.seq ?_) | refine SW.nil ?_ | refine SW.pure rfl rfl ?_ | (show SW _ _ _ _ (⟨_, Op.call ⟨.value (.func _), _, _⟩, _, _, _, none⟩ :: _) _ _; (refine SW.call rfl rfl (FormatInt_ans k hk _) ?_; intro v w1 hw1 hv; subst hv; replace hw := Ext.trans hw hw1; clear hw1)))
  exact Post.ret1 rfl rfl ⟨_, rfl, hw, rfl⟩
theorem Itoa_ans (k : Int) (hk : k ∈ kL) (w : World) : Ans Tryd.prog 113 [.int .i64 k] w fun v _ => v = .string (istr k) := by
  refine ans_of Tryd.func113 rfl Tryd.ntmps113 rfl ?_
  have hw := Ext.refl w
  repeat' (first | (show CW _ _ _ _ _ _; first | refine CW.seq ?_ | refine CW.region ?_ | refine CW.ret ?_) | (show Post _ _ _ _ _; refine Post.seq ?_) | refine SW.nil ?_ | refine SW.pure rfl rfl ?_ | (show SW _ _ _ _ (⟨_, Op.call ⟨.value (.func _), _, _⟩, _, _, _, none⟩ :: _) _ _; (refine SW.call rfl rfl (ItoaI_ans k hk _) ?_; intro v w1 hw1 hv; subst hv; replace hw := Ext.trans hw hw1; clear hw1)))
  exact Post.ret1 rfl rfl ⟨_, rfl, hw, rfl⟩
theorem kname_ans (k : Int) (hk : k ∈ kL) (w : World) : Ans Tryd.prog 75 [.int .i64 k] w fun v _ => v = .string (kstr k) := by
  refine ans_of Tryd.func75 rfl Tryd.ntmps75 rfl ?_
  have hw := Ext.refl w
  have e : (⟨#[107]⟩ : ByteArray) ++ istr k = kstr k := by rcases kL_cases hk with rfl | rfl | rfl | rfl | rfl | rfl <;> kernel_rfl
  have hs : (⟨#[107]⟩ : ByteArray).size + (istr k).size ≤ 9223372036854775807 := by rcases kL_cases hk with rfl | rfl | rfl | rfl | rfl | rfl <;> decide
  repeat' (first | (show CW _ _ _ _ _ _; first | refine CW.seq ?_ | refine CW.region ?_ | refine CW.ret ?_) | (show Post _ _ _ _ _; refine Post.seq ?_) | refine SW.nil ?_ | refine SW.pure rfl rfl ?_ | (show SW _ _ _ _ (⟨_, Op.call ⟨.value (.func _), _, _⟩, _, _, _, none⟩ :: _) _ _; (refine SW.call rfl rfl (Itoa_ans k hk _) ?_; intro v w1 hw1 hv; subst hv; replace hw := Ext.trans hw hw1; clear hw1)) | (refine SW.st ((st_addStr rfl rfl hs).eq (congrArg Value.string e)) rfl ?_))
  exact Post.ret1 rfl rfl ⟨_, rfl, hw, rfl⟩

/-- is a cache one of those that there are always -/
def mineB (c : KCache) : Bool := kL.any fun k => hasN (kstr k) c
structure SizesW (w : World) : Prop where
  sl : Sl w 1 encI (some ⟨1, 0, none⟩) 6 kL
theorem SizesW.ext {w w' : World} (h : SizesW w) (hx : Ext w w') : SizesW w' := ⟨h.sl.ext hx⟩
theorem mineF_ans (k : Int) (hk : k ∈ kL) (x : CRow) (c : KCache) (b1 : Nat) (w : World) (h1 : Blk w b1 79 (encC x)) (hx : RdC w x c) (hn : x.Names.n ≤ 9223372036854775807) :
    Ans Tryd.prog 73 ([.int .i64 k] ++ [.pointer (some ⟨b1, 0, none⟩)]) w fun v _ => v = .bool (hasN (kstr k) c) := by
  refine ans_of Tryd.func73 rfl Tryd.ntmps73 rfl ?_
  have hw := Ext.refl w
  repeat' (first | (show CW _ _ _ _ _ _; first | refine CW.seq ?_ | refine CW.region ?_ | refine CW.ret ?_ | (apply CW.quiet1 mixed; (· kernel_rfl); rotate_left; intro w1 hw1; replace hw := Ext.trans hw hw1; clear hw1; rotate_right)) | (show Post _ _ _ _ _; refine Post.seq ?_) | refine SW.nil ?_ | refine SW.pure rfl rfl ?_ | (show SW _ _ _ _ (⟨_, Op.fieldAddr _ _ _, _, _, _, none⟩ :: _) _ _; refine SW.st (st_field rfl) rfl ?_) | (show SW _ _ _ _ (⟨_, Op.load _ _, _, _, _, none⟩ :: _) _ _; refine SW.st (st_load rfl (h1.cell (i := 0) (v := .slice x.Names.A x.Names.n x.Names.c) rfl)) rfl ?_) | (show SW _ _ _ _ (⟨_, Op.call ⟨.value (.func _), _, _⟩, _, _, _, none⟩ :: _) _ _; first | refine SW.qcall rfl rfl (fun w1 hw1 => (kname_ans k hk _)) ?_ | refine SW.qcall rfl rfl (fun w1 hw1 => (ContainsString_ans _ _ _ _ _ _ (hx.names.ext (Ext.trans hw hw1)) hn)) ?_) | exact SW.qnil rfl)
  exact Post.ret1 rfl rfl ⟨_, rfl, hw, rfl⟩
theorem mine_ans (x : CRow) (c : KCache) (w : World) (hx : RdC w x c) (hn : x.Names.n ≤ 9223372036854775807) (hS : SizesW w) :
    Ans Tryd.prog 37 [.agg (encC x).toArray] w fun v _ => v = .bool (mineB c) := by
  refine ans_of Tryd.func37 rfl Tryd.ntmps37 rfl ?_
  refine CW.seq (CW.region (SW.box rfl rfl fun b1 w1 hw hb1b hb1 => ?_))
  repeat' (first | (show CW _ _ _ _ _ _; first | refine CW.seq ?_ | refine CW.region ?_) | (show Post _ _ _ _ _; refine Post.seq ?_) | refine SW.nil ?_ | refine SW.pure rfl rfl ?_ | (refine SW.st (st_sliceAll rfl) rfl ?_) | (refine SW.st (st_func (vs := [.pointer (some ⟨b1, 0, none⟩)]) rfl) rfl ?_))
  refine SW.call rfl rfl (ContainsFuncInt_ans _ _ _ kL _ (hS.sl.ext hw) _ [.pointer (some ⟨b1, 0, none⟩)] (fun k => hasN (kstr k) c) (fun k => .int .i64 k) (fun k => rfl) (fun k hk w1 hx1 => mineF_ans k hk x c b1 w1 (hb1.ext hx1) (hx.ext (Ext.trans hw hx1)) hn) (by omega)) fun v w4 hw4 hv => ?_
  subst hv
  replace hw := Ext.trans hw hw4
  repeat' (first | (show CW _ _ _ _ _ _; refine CW.ret ?_) | (show Post _ _ _ _ _; refine Post.seq ?_) | refine SW.nil ?_ | refine SW.pure rfl rfl ?_)
  exact Post.ret1 rfl rfl ⟨_, rfl, hw, rfl⟩

/-- the class of so many words -/
def classS (n : Int) : ByteArray := if n ≤ 1 then kstr 1 else if n ≤ 2 then kstr 2 else if n ≤ 4 then kstr 4 else if n ≤ 8 then kstr 8 else if n ≤ 16 then kstr 16 else if n ≤ 32 then kstr 32 else ⟨#[]⟩
def kN : List ByteArray := [kstr 1, kstr 2, kstr 4, kstr 8, kstr 16, kstr 32]
theorem classS_k {k : Int} (hk : k ∈ kL) : classS k = kstr k := by rcases kL_cases hk with rfl | rfl | rfl | rfl | rfl | rfl <;> rfl
theorem className_ans (n : Int) (w : World) : Ans Tryd.prog 84 [.int .i64 n] w fun v _ => v = .string (classS n) := by
  refine ans_of Tryd.func84 rfl Tryd.ntmps84 rfl ?_
  have hw := Ext.refl w
  repeat' (first | (show CW _ _ _ _ _ _; first | refine CW.seq ?_ | refine CW.region ?_) | (show Post _ _ _ _ _; refine Post.seq ?_) | refine SW.nil ?_ | refine SW.pure rfl rfl ?_)
  refine SW.build6 (enc := encI) kL rfl rfl rfl rfl rfl rfl ⟨rfl, rfl, rfl, rfl, rfl, rfl⟩ rfl rfl rfl fun g1 w1 hw1 hg1 hU => ?_
  replace hw := Ext.trans hw hw1
  replace hU := hU.sl
  repeat' (first | (show CW _ _ _ _ _ _; first | refine CW.seq ?_ | refine CW.region ?_) | (show Post _ _ _ _ _; refine Post.seq ?_) | refine SW.nil ?_ | refine SW.pure rfl rfl ?_)
  refine SW.build6 (enc := encStr) kN rfl rfl rfl rfl rfl rfl ⟨rfl, rfl, rfl, rfl, rfl, rfl⟩ rfl rfl rfl fun g2 w2 hw2 hg2 hV => ?_
  replace hw := Ext.trans hw hw2
  replace hU := hU.ext hw2
  replace hV := hV.sl
  repeat' (first | (show CW _ _ _ _ _ _; first | refine CW.seq ?_ | refine CW.region ?_ | refine CW.block ?_) | (show Post _ _ _ _ _; refine Post.seq ?_) | refine SW.nil ?_ | refine SW.pure rfl rfl ?_)
  have hAU := hU.base
  have hAV := hV.base
  refine CW.loop (fun i : Nat => [(0, .int .i64 n), (3, .slice (some ⟨g1, 0, none⟩) 6 6), (4, .slice (some ⟨g2, 0, none⟩) 6 6), (5, .int .i64 (i : Int))])
    (fun i w' => i ≤ 6 ∧ Ext w w' ∧ Sl w' 1 encI (some ⟨g1, 0, none⟩) 6 kL ∧ Sl w' 1 encStr (some ⟨g2, 0, none⟩) 6 kN ∧ ∀ (j : Nat) (hj : j < 6), j < i → (kL[j]'hj) < n) (fun i => 6 - i) 0
    ⟨rfl, rfl, rfl, rfl, trivial⟩ ⟨by omega, hw, hU, hV, fun j hj h => by omega⟩ ?_
  clear hw hU hV
  rintro i w' ⟨hi, hw, hU, hV, hI⟩
  by_cases hi6 : i < 6
  · obtain ⟨k, hk⟩ : ∃ k, kL[i]'hi6 = k := ⟨_, rfl⟩
    have g0 := hU.one hi6 (u := .int .i64 k) (by show encI (kL[i]'hi6) = _; rw [hk]; rfl)
    have g1' := hV.one hi6 (u := .string (kN[i]'hi6)) rfl
    by_cases hle : n ≤ k
    · repeat' (first | (show CW _ _ _ _ _ _; first | refine CW.seq ?_ | refine CW.region ?_ | refine CW.block ?_ | refine CW.condd_t rfl (by omega) ?_ | refine CW.skip ?_ | refine CW.ret ?_) | (show Post _ _ _ _ _; first | refine Post.seq ?_ | refine Post.seq_ret ?_ | refine Post.blk_ret ?_ | refine Post.again_ret ?_) | refine SW.nil ?_ | refine SW.pure rfl rfl ?_ | (show SW _ _ _ _ (⟨_, Op.indexAddr _ _ _, _, _, _, none⟩ :: _) _ _; refine SW.st (st_indexN rfl rfl (by assumption) (by omega)) rfl ?_) | (show SW _ _ _ _ (⟨_, Op.load _ _, _, _, _, none⟩ :: _) _ _; first | refine SW.st (st_load rfl g0) rfl ?_ | refine SW.st (st_load rfl (g1')) rfl ?_))
      refine Post.ret1 rfl rfl ⟨_, rfl, hw, congrArg Value.string ?_⟩
      have h0 : 0 < i → 1 < n := fun h => hI 0 (by decide) h
      have h1 : 1 < i → 2 < n := fun h => hI 1 (by decide) h
      have h2 : 2 < i → 4 < n := fun h => hI 2 (by decide) h
      have h3 : 3 < i → 8 < n := fun h => hI 3 (by decide) h
      have h4 : 4 < i → 16 < n := fun h => hI 4 (by decide) h
      subst hk
      unfold classS
      rcases (show i = 0 ∨ i = 1 ∨ i = 2 ∨ i = 3 ∨ i = 4 ∨ i = 5 by omega) with rfl | rfl | rfl | rfl | rfl | rfl
      · have hle : n ≤ 1 := hle
        rw [if_pos hle]; rfl
      · have hle : n ≤ 2 := hle
        rw [if_neg (by omega), if_pos hle]; rfl
      · have hle : n ≤ 4 := hle
        rw [if_neg (by omega), if_neg (by omega), if_pos hle]; rfl
      · have hle : n ≤ 8 := hle
        rw [if_neg (by omega), if_neg (by omega), if_neg (by omega), if_pos hle]; rfl
      · have hle : n ≤ 16 := hle
        rw [if_neg (by omega), if_neg (by omega), if_neg (by omega), if_neg (by omega), if_pos hle]; rfl
      · have hle : n ≤ 32 := hle
        rw [if_neg (by omega), if_neg (by omega), if_neg (by omega), if_neg (by omega), if_neg (by omega), if_pos hle]; rfl
    · repeat' (first | (show CW _ _ _ _ _ _; first | refine CW.seq ?_ | refine CW.region ?_ | refine CW.block ?_ | refine CW.condd_t rfl (by omega) ?_ | refine CW.condd_f rfl (by omega) ?_ | refine CW.skip ?_) | (show Post _ _ _ _ _; first | refine Post.seq ?_ | refine Post.blk ?_) | refine SW.nil ?_ | refine SW.pure rfl rfl ?_ | (show SW _ _ _ _ (⟨_, Op.binOp _ _ _ _ _, _, _, _, none⟩ :: _) _ _; refine SW.st (st_add rfl rfl (by omega) (by omega)) rfl ?_) | (show SW _ _ _ _ (⟨_, Op.indexAddr _ _ _, _, _, _, none⟩ :: _) _ _; refine SW.st (st_indexN rfl rfl (by assumption) (by omega)) rfl ?_) | (show SW _ _ _ _ (⟨_, Op.load _ _, _, _, _, none⟩ :: _) _ _; refine SW.st (st_load rfl g0) rfl ?_))
      refine Post.again (i + 1) ⟨rfl, rfl, rfl, rfl, trivial⟩ (by omega) ⟨by omega, hw, hU, hV, fun j hj h => ?_⟩
      by_cases e : j = i
      · subst e; omega
      · exact hI j hj (by omega)
  · obtain rfl : i = 6 := by omega
    have h0 : 32 < n := hI 5 (by decide) (by decide)
    repeat' (first | (show CW _ _ _ _ _ _; first | refine CW.seq ?_ | refine CW.region ?_ | refine CW.condd_f rfl (by omega) ?_ | refine CW.ret ?_ | refine CW.exit ?_) | (show Post _ _ _ _ _; first | refine Post.seq ?_ | refine Post.seq_exit ?_ | refine Post.hit ?_ | refine Post.again_exit ?_) | refine SW.nil ?_ | refine SW.pure rfl rfl ?_)
    refine Post.ret1 rfl rfl ⟨_, rfl, hw, congrArg Value.string ?_⟩
    unfold classS
    rw [if_neg (by omega), if_neg (by omega), if_neg (by omega), if_neg (by omega), if_neg (by omega), if_neg (by omega)]
end Go.Proofs.YtfommgdbahemfaaDoor

/-
  What the tied condition on kmem's table of sizes gives the walks.
-/
set_option linter.unusedVariables false
namespace Go.Proofs.YtfommgdbahemfaaDoor
open Go.RowKit

theorem sizes_named : Tryd.prog.globalNamed "paddock/kmem.sizes" = some 1 := by kernel_rfl
theorem sizes_type : (Tryd.prog.globals[1]?).map (·.type) = some 115 := by kernel_rfl

set_option maxRecDepth 100000 in
/-- the table of sizes, cell by cell -/
theorem sizes_cells {W : World} {cs : List Value} {fuel : Nat} {p : List MemPlace} {enc : TypeId × Value → Unit} {base : Nat} {spare : Nat → Bool} {held : Bool} (h : DataW.trod enc Tryd.prog W base spare held fuel 115 cs = some (Rows.laid_paddock_kmem_sizes, p)) :
    cs = [.int .i64 1, .int .i64 2, .int .i64 4, .int .i64 8, .int .i64 16, .int .i64 32] := by
  have c6 : Tryd.prog.cellsOf 115 = 6 := by kernel_rfl
  have c1 : Tryd.prog.cellsOf 3 = 1 := by kernel_rfl
  obtain ⟨xs, m, rfl, hx, hlen, hn, hel⟩ := DataW.trod_array Tryd.underlying115 h
  rw [c6] at hlen
  rw [c1] at hel
  simp only [Prod.mk.injEq] at hx
  have one : ∀ (a : Value) (u : Int) (x : DataW Unit × List MemPlace), DataW.trod enc Tryd.prog W base spare held m 3 [a] = some x → x.1 = .lit (.int .i64 u) → a = .int .i64 u := by
    intro a u x hx e
    obtain ⟨z0, e0, f0, _⟩ := DataW.trod_int Tryd.underlying3 hx
    rw [f0] at e
    simp at e e0
    rw [e0, e]
  match cs, hlen, xs, hn with
  | [a, b, c, d, e, f], _, [x0, x1, x2, x3, x4, x5], _ =>
    have hx1 := hx.1
    simp only [Rows.laid_paddock_kmem_sizes, List.map_cons, List.map_nil, DataW.agg.injEq, List.cons.injEq, and_true] at hx1
    obtain rfl := one a 1 x0 (hel 0 (by decide)) hx1.1.symm
    obtain rfl := one b 2 x1 (hel 1 (by decide)) hx1.2.1.symm
    obtain rfl := one c 4 x2 (hel 2 (by decide)) hx1.2.2.1.symm
    obtain rfl := one d 8 x3 (hel 3 (by decide)) hx1.2.2.2.1.symm
    obtain rfl := one e 16 x4 (hel 4 (by decide)) hx1.2.2.2.2.1.symm
    obtain rfl := one f 32 x5 (hel 5 (by decide)) hx1.2.2.2.2.2.symm
    rfl
theorem sizes_of {W : World} {ps : List MemPlace} (h : DataW.LaidVars Tryd.prog W [("paddock/kmem.sizes", Rows.laid_paddock_kmem_sizes)] ps) : SizesW W := by
  obtain ⟨g0, t0, cs0, f0, p0, q0, hg0, ht0, hv0, hd0, _⟩ := h
  obtain rfl := Option.some.inj (sizes_named.symm.trans hg0)
  obtain rfl := Option.some.inj (sizes_type.symm.trans ht0)
  have hc := sizes_cells hd0
  have hcell : ∀ i, W.cell? ⟨1, i, none⟩ = cs0.toList[i]? := fun i => by
    have := World.var?_cell hg0 hv0 i
    simpa using this
  refine ⟨⟨rfl, fun _ => rfl, fun i hi j u hu => ?_⟩⟩
  have hi6 : i < 6 := hi
  rw [add_add]
  show W.cell? ((⟨1, 0, none⟩ : Addr).add _) = _
  rw [addr_of, hcell, hc]
  have hj : j = 0 := by
    rcases Nat.eq_zero_or_pos j with h | h
    · exact h
    · rw [List.getElem?_eq_none (by simp [encI]; omega)] at hu; cases hu
  subst hj
  rcases (show i = 0 ∨ i = 1 ∨ i = 2 ∨ i = 3 ∨ i = 4 ∨ i = 5 by omega) with rfl | rfl | rfl | rfl | rfl | rfl
  all_goals simpa [kL, encI] using hu
theorem sizes_of_laid {W : World} {D1 D2 D3 : DataW Unit} (hp : ([("math/bits.deBruijn32tab", D1), ("math/bits.deBruijn64tab", D2), ("internal/strconv.uint64pow10", D3), ("paddock/kmem.sizes", Rows.laid_paddock_kmem_sizes)].all fun x => x.2.handleName?.isNone) = true)
    (h : laidMetH Tryd.prog [("math/bits.deBruijn32tab", D1), ("math/bits.deBruijn64tab", D2), ("internal/strconv.uint64pow10", D3), ("paddock/kmem.sizes", Rows.laid_paddock_kmem_sizes)] W) : SizesW W := by
  rw [MakeChecks.laidMetH_plain _ _ _ hp] at h
  obtain ⟨ps, ⟨_, _, _, _, _, _, _, _, _, _, ⟨_, _, _, _, _, _, _, _, _, _, ⟨_, _, _, _, _, _, _, _, _, _, h4, _⟩, _⟩, _⟩, _, _⟩ := h
  exact sizes_of h4
end Go.Proofs.YtfommgdbahemfaaDoor

/-
  Contracts: slab.Find and its reference; the law SlabFinds.
-/
set_option linter.unusedVariables false
namespace Go.Proofs.YtfommgdbahemfaaDoor
open Go.RowKit

/-- P5.8: the first slab where an object begins at an address -/
def objAt (s : KSystem) (a : Int) (i k : Nat) : Bool := if h : i < s.Caches.length then (if h' : k < s.Caches[i].Slabs.length then objB s.Caches[i].Size s.Caches[i].Per (s.Caches[i].Slabs[k]).At a else false) else false
theorem objAt_eq {s : KSystem} {a : Int} {i k : Nat} (h : i < s.Caches.length) (h' : k < s.Caches[i].Slabs.length) : objAt s a i k = objB s.Caches[i].Size s.Caches[i].Per (s.Caches[i].Slabs[k]).At a := by simp [objAt, h, h']
theorem objAt_out {s : KSystem} {a : Int} {i k : Nat} (h : i < s.Caches.length) (h' : ¬ k < s.Caches[i].Slabs.length) : objAt s a i k = false := by simp [objAt, h, h']
structure FoundAt (s : KSystem) (a : Int) (i k : Nat) : Prop where
  hi : i < s.Caches.length
  hk : k < s.Caches[i].Slabs.length
  obj : objAt s a i k = true
  ahead : ∀ i' k', (i' < i ∨ (i' = i ∧ k' < k)) → objAt s a i' k' = false
inductive FindR (s : KSystem) (a : Int) : Int × Int × Int → Prop where
  | bad (h : sysB s = false) : FindR s a (0, 0, 8)
  | none (h : sysB s = true) (hn : ∀ i k, objAt s a i k = false) : FindR s a (0, 0, 4)
  | free {i k : Nat} {out : List Int} (h : sysB s = true) (hF : FoundAt s a i k) (hC : ChainIs s.Words (s.Caches[i]'hF.hi).Size (s.Caches[i]'hF.hi).Per ((s.Caches[i]'hF.hi).Slabs[k]'hF.hk) out) (hm : a ∈ out) : FindR s a (0, 0, 4)
  | hit {i k : Nat} {out : List Int} (h : sysB s = true) (hF : FoundAt s a i k) (hC : ChainIs s.Words (s.Caches[i]'hF.hi).Size (s.Caches[i]'hF.hi).Per ((s.Caches[i]'hF.hi).Slabs[k]'hF.hk) out) (hm : a ∉ out) : FindR s a (i, k, 0)
theorem FoundAt.uniq {s : KSystem} {a : Int} {i k i' k' : Nat} (h : FoundAt s a i k) (h' : FoundAt s a i' k') : i = i' ∧ k = k' := by
  rcases (show i < i' ∨ (i = i' ∧ k < k') ∨ i' < i ∨ (i' = i ∧ k' < k) ∨ (i = i' ∧ k = k') by omega) with g | g | g | g | g
  · have := h'.ahead i k (.inl g); rw [h.obj] at this; cases this
  · have := h'.ahead i k (.inr g); rw [h.obj] at this; cases this
  · have := h.ahead i' k' (.inl g); rw [h'.obj] at this; cases this
  · have := h.ahead i' k' (.inr g); rw [h'.obj] at this; cases this
  · exact g
theorem FindR.det {s : KSystem} {a : Int} {u v : Int × Int × Int} (h : FindR s a u) (k : FindR s a v) : u = v := by
  cases h with
  | bad h => cases k with
    | bad => rfl
    | none h' => rw [h] at h'; cases h'
    | free h' => rw [h] at h'; cases h'
    | hit h' => rw [h] at h'; cases h'
  | none h hn => cases k with
    | bad h' => rw [h] at h'; cases h'
    | none => rfl
    | free => rfl
    | hit h' hF => exact absurd hF.obj (by rw [hn]; simp)
  | free h hF hC hm => cases k with
    | bad h' => rw [h] at h'; cases h'
    | none => rfl
    | free => rfl
    | hit h' hF' hC' hm' =>
      obtain ⟨rfl, rfl⟩ := hF.uniq hF'
      rw [hC.det hC'] at hm
      exact absurd hm hm'
  | hit h hF hC hm => cases k with
    | bad h' => rw [h] at h'; cases h'
    | none h' hn => exact absurd hF.obj (by rw [hn]; simp)
    | free h' hF' hC' hm' =>
      obtain ⟨rfl, rfl⟩ := hF.uniq hF'
      rw [hC.det hC'] at hm
      exact absurd hm' hm
    | hit h' hF' =>
      obtain ⟨rfl, rfl⟩ := hF.uniq hF'
      rfl
theorem ChainOut.hit {lo : Nat} {ws : List Int} {size per : Int} {x : Slab} {v : Value} {w : World} {out : List Int} (h : ChainOut lo ws size per x v w) (hC : ChainIs ws size per x out) :
    ∃ A c, v = .tuple #[.slice A out.length c, .bool true] ∧ Own w lo 3 1 encI A out.length c out ∧ out.length ≤ 17592186044416 := by
  rcases h with ⟨out', A5, c5, hC5, rfl, hO5, hl5⟩ | ⟨hno, _⟩
  · obtain rfl := hC.det hC5
    exact ⟨_, _, rfl, hO5, hl5⟩
  · exact absurd hC (hno out)
def findV (u : Int × Int × Int) : Value := .tuple #[.int .i64 u.1, .int .i64 u.2.1, .int .i64 u.2.2]

set_option maxHeartbeats 4000000 in
theorem Find_ans (r : SRow) (s : KSystem) (a : Int) (w : World) (hr : RdS w r s) (hf : s.fine) (ha : -9223372036854775808 ≤ a ∧ a ≤ 9223372036854775807) :
    Ans Tryd.prog 36 [.agg (encSys r).toArray, .int .i64 a] w fun v _ => ∃ u, FindR s a u ∧ v = findV u := by
  refine ans_of Tryd.func36 rfl Tryd.ntmps36 rfl ?_
  refine CW.seq (CW.region (SW.box rfl rfl fun b2 w1 hw hb2b hb2 => ?_))
  obtain ⟨q, hq⟩ : ∃ q, sysB s = q := ⟨_, rfl⟩
  have c1 : ∀ w', Ext w w' → Ans Tryd.prog 35 [.agg (encSys r).toArray] w' fun v _ => v = .int .i64 (if q then 0 else 8) := fun w' hx => by
    have := Scheck_ans r s w' (hr.ext hx) hf
    rwa [hq] at this
  cases q
  all_goals simp only [if_true, Bool.false_eq_true, if_false] at c1
  · repeat' (first | (show CW _ _ _ _ _ _; first | refine CW.seq ?_ | refine CW.region ?_ | refine CW.condn_t rfl (by omega) ?_ | refine CW.ret ?_) | (show Post _ _ _ _ _; first | refine Post.seq ?_ | refine Post.seq_ret ?_) | refine SW.nil ?_ | refine SW.pure rfl rfl ?_ | (show SW _ _ _ _ (⟨_, Op.load _ _, _, _, _, none⟩ :: _) _ _; refine SW.st (st_loads rfl rfl ((fun _ _ => hb2.cell))) rfl ?_) | (show SW _ _ _ _ (⟨_, Op.call ⟨.value (.func _), _, _⟩, _, _, _, none⟩ :: _) _ _; (refine SW.call rfl rfl (c1 _ hw) ?_; intro v w1 hw1 hv; subst hv; replace hw := Ext.trans hw hw1; replace hb2 := hb2.ext hw1; clear hw1)))
    exact Post.ret3 rfl rfl rfl rfl ⟨_, rfl, hw, (0, 0, 8), .bad hq, rfl⟩
  · have hM := sysB_iff.1 hq
    have hs := hf.small
    obtain ⟨cs, hc⟩ := hr.caches
    obtain ⟨z1, z2⟩ := hc.len
    have wl := hr.words.len
    have m1 := hs.words
    have m3 := hs.caches
    repeat' (first | (show CW _ _ _ _ _ _; first | refine CW.seq ?_ | refine CW.region ?_ | refine CW.block ?_ | refine CW.condn_f rfl (by omega) ?_ | refine CW.skip ?_) | (show Post _ _ _ _ _; refine Post.seq ?_) | refine SW.nil ?_ | refine SW.pure rfl rfl ?_ | (show SW _ _ _ _ (⟨_, Op.fieldAddr _ _ _, _, _, _, none⟩ :: _) _ _; refine SW.st (st_field rfl) rfl ?_) | (show SW _ _ _ _ (⟨_, Op.call ⟨.builtin .len, _, _⟩, _, _, _, none⟩ :: _) _ _; refine SW.st (st_len rfl) rfl ?_) | (show SW _ _ _ _ (⟨_, Op.load _ _, _, _, _, none⟩ :: _) _ _; first | refine SW.st (st_loads rfl rfl ((fun _ _ => hb2.cell))) rfl ?_ | refine SW.st (st_load rfl (hb2.cell rfl)) rfl ?_) | (show SW _ _ _ _ (⟨_, Op.call ⟨.value (.func _), _, _⟩, _, _, _, none⟩ :: _) _ _; (refine SW.call rfl rfl (c1 _ hw) ?_; intro v w1 hw1 hv; subst hv; replace hw := Ext.trans hw hw1; replace hb2 := hb2.ext hw1; clear hw1)))
    clear c1
    refine CW.loop (fun k : Nat => [(1, .int .i64 a), (2, .pointer (some ⟨b2, 0, none⟩)), (20, .slice r.Caches.A r.Caches.n r.Caches.c), (21, .int .i64 (r.Caches.n : Int)), (22, .int .i64 (k : Int))])
      (fun k w' => k ≤ r.Caches.n ∧ Ext w w' ∧ Blk w' b2 38 (encSys r) ∧ ∀ i' k', i' < k → objAt s a i' k' = false) (fun k => r.Caches.n - k) 0
      ⟨rfl, rfl, rfl, rfl, rfl, trivial⟩ ⟨by omega, hw, hb2, fun i' k' h => by omega⟩ ?_
    clear hw hb2
    rintro i w' ⟨hk, hw, hb2, hI⟩
    have hA := hc.row.base
    by_cases hin : i < r.Caches.n
    · have hic : i < cs.length := by omega
      have hil : i < s.Caches.length := by omega
      have hck := hc.each.get i hic hil
      have sm := hs.each _ (List.getElem_mem hil)
      have hCM := (hM.each i hil).may
      obtain ⟨l1, l2, l3⟩ := layoutF_ok hCM.lay
      have eS := hck.size
      have eP := hck.per
      have n2 := hck.slabs.len
      have m2 := sm.slabs
      have hS : 1 ≤ cs[i].Size ∧ cs[i].Size ≤ 64 := by omega
      have hP : 1 ≤ cs[i].Per ∧ cs[i].Per ≤ 64 := by omega
      repeat' (first | (show CW _ _ _ _ _ _; first | refine CW.seq ?_ | refine CW.region ?_ | refine CW.block ?_ | refine CW.condd_t rfl (by omega) ?_ | refine CW.skip ?_) | (show Post _ _ _ _ _; refine Post.seq ?_) | refine SW.nil ?_ | refine SW.pure rfl rfl ?_ | (show SW _ _ _ _ (⟨_, Op.indexAddr _ _ _, _, _, _, none⟩ :: _) _ _; refine SW.st (st_indexN rfl rfl (by assumption) (by omega)) rfl ?_) | (show SW _ _ _ _ (⟨_, Op.load _ _, _, _, _, none⟩ :: _) _ _; refine SW.st (st_loadsx hw rfl rfl ((hc.row.all hin))) rfl ?_))
      refine SW.alloc rfl fun b9 w1 hw1 hb9b hb9 => ?_
      repeat' (refine SW.pure rfl rfl ?_)
      refine SW.storeAgg hb9 rfl rfl rfl rfl (one_c _) fun w2 hb9' hg => ?_
      have hXX := hw1.own hb9b hg
      have hb9w : w.heap.size ≤ b9 := Nat.le_trans hw.size hb9b
      replace hw := Ext.trans hw hXX
      replace hb2 := hb2.ext hXX
      replace hb9 := hb9'
      clear hb9' hw1 hg hXX
      repeat' (first | (show CW _ _ _ _ _ _; first | refine CW.seq ?_ | refine CW.region ?_ | refine CW.block ?_) | (show Post _ _ _ _ _; refine Post.seq ?_) | refine SW.nil ?_ | refine SW.pure rfl rfl ?_ | (show SW _ _ _ _ (⟨_, Op.fieldAddr _ _ _, _, _, _, none⟩ :: _) _ _; refine SW.st (st_field rfl) rfl ?_) | (show SW _ _ _ _ (⟨_, Op.call ⟨.builtin .len, _, _⟩, _, _, _, none⟩ :: _) _ _; refine SW.st (st_len rfl) rfl ?_) | (show SW _ _ _ _ (⟨_, Op.load _ _, _, _, _, none⟩ :: _) _ _; refine SW.st (st_load rfl (hb9.cell rfl)) rfl ?_))
      refine CW.loop (fun k : Nat => [(1, .int .i64 a), (2, .pointer (some ⟨b2, 0, none⟩)), (8, .int .i64 (i : Int)), (9, .pointer (some ⟨b9, 0, none⟩)), (20, .slice r.Caches.A r.Caches.n r.Caches.c), (21, .int .i64 (r.Caches.n : Int)), (22, .int .i64 (i : Int)), (28, .slice cs[i].Slabs.A cs[i].Slabs.n cs[i].Slabs.c), (29, .int .i64 (cs[i].Slabs.n : Int)), (30, .int .i64 (k : Int))])
        (fun k w' => k ≤ cs[i].Slabs.n ∧ Ext w w' ∧ Blk w' b2 38 (encSys r) ∧ Blk w' b9 79 (encC cs[i]) ∧ ∀ k', k' < k → objAt s a i k' = false) (fun k => cs[i].Slabs.n - k) 0
        ⟨rfl, rfl, rfl, rfl, rfl, rfl, rfl, rfl, rfl, rfl, trivial⟩ ⟨by omega, hw, hb2, hb9, fun k' h => by omega⟩ ?_
      clear hw hb2 hb9
      rintro k w' ⟨hk, hw, hb2, hb9, hJ⟩
      have hA1 := hck.slabs.base
      by_cases hkn : k < cs[i].Slabs.n
      · have hkl : k < s.Caches[i].Slabs.length := by omega
        obtain ⟨x, hx⟩ : ∃ x, s.Caches[i].Slabs[k] = x := ⟨_, rfl⟩
        have gS := hck.slabs.all hkn
        rw [hx] at gS
        have ht := (hCM.ats (hM.heap)) x (by rw [← hx]; exact List.getElem_mem hkl)
        obtain ⟨out0, hC⟩ := (hCM.slabs k hkl).chain
        rw [hx] at hC
        have eO := objAt_eq (a := a) hil hkl
        rw [hx, ← eS, ← eP] at eO
        obtain ⟨o, ho⟩ : ∃ o, objB cs[i].Size cs[i].Per x.At a = o := ⟨_, rfl⟩
        rw [ho] at eO
        have cO : ∀ w', Ans Tryd.prog 70 [.agg (encC cs[i]).toArray, .int .i64 x.At, .int .i64 a] w' fun v _ => v = .bool o := fun w' => by
          have := object_ans cs[i] x.At a w' hS hP ht ha
          rwa [ho] at this
        repeat' (first | (show CW _ _ _ _ _ _; first | refine CW.seq ?_ | refine CW.region ?_ | refine CW.block ?_ | refine CW.condd_t rfl (by omega) ?_ | refine CW.skip ?_) | (show Post _ _ _ _ _; refine Post.seq ?_) | refine SW.nil ?_ | refine SW.pure rfl rfl ?_ | (show SW _ _ _ _ (⟨_, Op.indexAddr _ _ _, _, _, _, none⟩ :: _) _ _; refine SW.st (st_indexN rfl rfl (by assumption) (by omega)) rfl ?_) | (show SW _ _ _ _ (⟨_, Op.load _ _, _, _, _, none⟩ :: _) _ _; refine SW.st (st_loadsx hw rfl rfl gS) rfl ?_))
        refine SW.alloc rfl fun b11 w1 hw1 hb11b hb11 => ?_
        repeat' (refine SW.pure rfl rfl ?_)
        refine SW.storeAgg hb11 rfl rfl rfl rfl (Enc.one (enc := encSb) _) fun w2 hb11' hg => ?_
        have hXX := hw1.own hb11b hg
        have hb11w : w.heap.size ≤ b11 := Nat.le_trans hw.size hb11b
        replace hw := Ext.trans hw hXX
        replace hb2 := hb2.ext hXX
        replace hb9 := hb9.ext hXX
        replace hb11 := hb11'
        clear hb11' hw1 hg hXX
        cases o
        · repeat' (first | (show CW _ _ _ _ _ _; first | refine CW.seq ?_ | refine CW.region ?_ | refine CW.condt rfl ?_ | refine CW.exit ?_) | (show Post _ _ _ _ _; first | refine Post.seq ?_ | refine Post.seq_exit ?_ | refine Post.hit ?_) | refine SW.nil ?_ | refine SW.pure rfl rfl ?_ | (show SW _ _ _ _ (⟨_, Op.fieldAddr _ _ _, _, _, _, none⟩ :: _) _ _; refine SW.st (st_field rfl) rfl ?_) | (show SW _ _ _ _ (⟨_, Op.binOp _ _ _ _ _, _, _, _, none⟩ :: _) _ _; refine SW.st (st_add rfl rfl (by omega) (by omega)) rfl ?_) | (show SW _ _ _ _ (⟨_, Op.load _ _, _, _, _, none⟩ :: _) _ _; first | refine SW.st (st_load rfl (hb11.cell rfl)) rfl ?_ | refine SW.st (st_loads rfl rfl ((fun _ _ => hb9.cell))) rfl ?_) | (show SW _ _ _ _ (⟨_, Op.call ⟨.value (.func _), _, _⟩, _, _, _, none⟩ :: _) _ _; (refine SW.call rfl rfl (cO _) ?_; intro v w1 hw1 hv; subst hv; replace hw := Ext.trans hw hw1; replace hb2 := hb2.ext hw1; replace hb9 := hb9.ext hw1; clear hw1)))
          exact Post.again (k + 1) ⟨rfl, rfl, rfl, rfl, rfl, rfl, rfl, rfl, rfl, rfl, trivial⟩ (by omega) ⟨by omega, hw, hb2, hb9, fun k' h => by
            by_cases e : k' = k
            · subst e; exact eO
            · exact hJ k' (by omega)⟩
        · have hFo : FoundAt s a i k := ⟨hil, hkl, eO, fun i' k' h => by
            rcases h with h | ⟨rfl, h⟩
            · exact hI i' k' h
            · exact hJ k' h⟩
          repeat' (first | (show CW _ _ _ _ _ _; first | refine CW.seq ?_ | refine CW.region ?_ | refine CW.condf rfl ?_ | refine CW.skip ?_) | (show Post _ _ _ _ _; refine Post.seq ?_) | refine SW.nil ?_ | refine SW.pure rfl rfl ?_ | (show SW _ _ _ _ (⟨_, Op.fieldAddr _ _ _, _, _, _, none⟩ :: _) _ _; refine SW.st (st_field rfl) rfl ?_) | (show SW _ _ _ _ (⟨_, Op.load _ _, _, _, _, none⟩ :: _) _ _; first | refine SW.st (st_load rfl (hb11.cell rfl)) rfl ?_ | refine SW.st (st_loads rfl rfl ((fun _ _ => hb9.cell))) rfl ?_ | refine SW.st (st_loads rfl rfl ((fun _ _ => hb2.cell))) rfl ?_ | refine SW.st (st_loads rfl rfl ((fun _ _ => hb11.cell))) rfl ?_) | (show SW _ _ _ _ (⟨_, Op.call ⟨.value (.func _), _, _⟩, _, _, _, none⟩ :: _) _ _; (refine SW.call rfl rfl (cO _) ?_; intro v w1 hw1 hv; subst hv; replace hw := Ext.trans hw hw1; replace hb2 := hb2.ext hw1; replace hb9 := hb9.ext hw1; replace hb11 := hb11.ext hw1; clear hw1)))
          refine SW.call rfl rfl (chain_ans r cs[i] x s.Words _ (hr.words.ext hw) (by omega) hS hP ht) fun v w5 hw5 hv5 => ?_
          rw [eS, eP] at hv5
          rcases hv5 with ⟨out, A5, c5, hC5, rfl, hO5, hl5⟩ | ⟨hno, rfl⟩
          · replace hw := Ext.trans hw hw5
            obtain rfl := hC.det hC5
            have cN : ∀ w', Ext w5 w' → Ans Tryd.prog 72 [.slice A5 out0.length c5, .int .i64 a] w' fun v _ => v = .bool (decide (a ∈ out0)) := fun w' hx => ContainsInt_ans _ _ _ _ _ _ (hO5.sl.ext hx) (by omega)
            have h55 := Ext.refl w5
            repeat' (first | (show CW _ _ _ _ _ _; first | refine CW.seq ?_ | refine CW.region ?_) | (show Post _ _ _ _ _; refine Post.seq ?_) | refine SW.nil ?_ | refine SW.pure rfl rfl ?_)
            refine SW.call rfl rfl (cN _ h55) fun v w6 hw6 hv => ?_
            subst hv
            replace hw := Ext.trans hw hw6
            by_cases hm : a ∈ out0
            · rw [decide_eq_true hm]
              repeat' (first | (show CW _ _ _ _ _ _; first | refine CW.seq ?_ | refine CW.region ?_ | refine CW.condtr rfl (by with_reducible rfl) ?_ | refine CW.ret ?_) | (show Post _ _ _ _ _; first | refine Post.seq ?_ | refine Post.seq_ret ?_ | refine Post.blk_ret ?_ | refine Post.again_ret ?_) | refine SW.nil ?_ | refine SW.pure rfl rfl ?_)
              exact Post.ret3 rfl rfl rfl rfl ⟨_, rfl, hw, (0, 0, 4), .free hq hFo (by rw [hx]; exact hC) hm, rfl⟩
            · rw [decide_eq_false hm]
              repeat' (first | (show CW _ _ _ _ _ _; first | refine CW.seq ?_ | refine CW.region ?_ | refine CW.condfr rfl (by with_reducible rfl) ?_ | refine CW.skip ?_ | refine CW.ret ?_) | (show Post _ _ _ _ _; first | refine Post.seq ?_ | refine Post.seq_ret ?_ | refine Post.blk_ret ?_ | refine Post.again_ret ?_) | refine SW.nil ?_ | refine SW.pure rfl rfl ?_)
              exact Post.ret3 rfl rfl rfl rfl ⟨_, rfl, hw, (i, k, 0), .hit hq hFo (by rw [hx]; exact hC) hm, rfl⟩
          · exact absurd hC (hno out0)
      · repeat' (first | (show CW _ _ _ _ _ _; first | refine CW.seq ?_ | refine CW.region ?_ | refine CW.condd_f rfl (by omega) ?_ | refine CW.exit ?_) | (show Post _ _ _ _ _; first | refine Post.seq ?_ | refine Post.seq_exit ?_ | refine Post.hit ?_ | refine Post.blk ?_ | refine Post.again_exit ?_) | refine SW.nil ?_ | refine SW.pure rfl rfl ?_ | (show SW _ _ _ _ (⟨_, Op.binOp _ _ _ _ _, _, _, _, none⟩ :: _) _ _; refine SW.st (st_add rfl rfl (by omega) (by omega)) rfl ?_))
        exact Post.again (i + 1) ⟨rfl, rfl, rfl, rfl, rfl, trivial⟩ (by omega) ⟨by omega, hw, hb2, fun i' k' h => by
          by_cases e : i' = i
          · subst e
            by_cases hk' : k' < s.Caches[i'].Slabs.length
            · exact hJ k' (by omega)
            · exact objAt_out hil hk'
          · exact hI i' k' (by omega)⟩
    · repeat' (first | (show CW _ _ _ _ _ _; first | refine CW.seq ?_ | refine CW.region ?_ | refine CW.condd_f rfl (by omega) ?_ | refine CW.ret ?_ | refine CW.exit ?_) | (show Post _ _ _ _ _; first | refine Post.seq ?_ | refine Post.seq_exit ?_ | refine Post.hit ?_ | refine Post.again_exit ?_) | refine SW.nil ?_ | refine SW.pure rfl rfl ?_)
      exact Post.ret3 rfl rfl rfl rfl ⟨_, rfl, hw, (0, 0, 4), .none hq (fun i' k' => by
        by_cases h : i' < s.Caches.length
        · exact hI i' k' (by omega)
        · simp [objAt, h]), rfl⟩

set_option maxHeartbeats 4000000 in
theorem FoundOf_ans (r : SRow) (s : KSystem) (a : Int) (w : World) (hr : RdS w r s) (hf : s.fine) :
    Ans Tryd.prog 82 [.agg (encSys r).toArray, .int .i64 a] w fun v _ => ∃ u, FindR s a u ∧ v = findV u := by
  refine ans_of Tryd.func82 rfl Tryd.ntmps82 rfl ?_
  refine CW.seq (CW.region (SW.box rfl rfl fun b2 w1 hw hb2b hb2 => ?_))
  obtain ⟨q, hq⟩ : ∃ q, sysB s = q := ⟨_, rfl⟩
  have c1 : ∀ w', Ext w w' → Ans Tryd.prog 39 [.agg (encSys r).toArray] w' fun v _ => v = .bool q := fun w' hx => by
    have := SMay_ans r s w' (hr.ext hx) hf
    rwa [hq] at this
  cases q
  · repeat' (first | (show CW _ _ _ _ _ _; first | refine CW.seq ?_ | refine CW.region ?_ | refine CW.condt rfl ?_ | refine CW.ret ?_) | (show Post _ _ _ _ _; first | refine Post.seq ?_ | refine Post.seq_ret ?_) | refine SW.nil ?_ | refine SW.pure rfl rfl ?_ | (show SW _ _ _ _ (⟨_, Op.load _ _, _, _, _, none⟩ :: _) _ _; refine SW.st (st_loads rfl rfl ((fun _ _ => hb2.cell))) rfl ?_) | (show SW _ _ _ _ (⟨_, Op.call ⟨.value (.func _), _, _⟩, _, _, _, none⟩ :: _) _ _; (refine SW.call rfl rfl (c1 _ hw) ?_; intro v w1 hw1 hv; subst hv; replace hw := Ext.trans hw hw1; replace hb2 := hb2.ext hw1; clear hw1)))
    exact Post.ret3 rfl rfl rfl rfl ⟨_, rfl, hw, (0, 0, 8), .bad hq, rfl⟩
  · have hM := sysB_iff.1 hq
    have hs := hf.small
    obtain ⟨cs, hc⟩ := hr.caches
    obtain ⟨z1, z2⟩ := hc.len
    have wl := hr.words.len
    have m1 := hs.words
    have m3 := hs.caches
    repeat' (first | (show CW _ _ _ _ _ _; first | refine CW.seq ?_ | refine CW.region ?_ | refine CW.block ?_ | refine CW.condf rfl ?_ | refine CW.skip ?_) | (show Post _ _ _ _ _; refine Post.seq ?_) | refine SW.nil ?_ | refine SW.pure rfl rfl ?_ | (show SW _ _ _ _ (⟨_, Op.load _ _, _, _, _, none⟩ :: _) _ _; refine SW.st (st_loads rfl rfl ((fun _ _ => hb2.cell))) rfl ?_) | (show SW _ _ _ _ (⟨_, Op.call ⟨.value (.func _), _, _⟩, _, _, _, none⟩ :: _) _ _; (refine SW.call rfl rfl (c1 _ hw) ?_; intro v w1 hw1 hv; subst hv; replace hw := Ext.trans hw hw1; replace hb2 := hb2.ext hw1; clear hw1)))
    clear c1
    refine CW.loop (fun k : Nat => [(1, .int .i64 a), (2, .pointer (some ⟨b2, 0, none⟩)), (7, .int .i64 (k : Int))])
      (fun k w' => k ≤ r.Caches.n ∧ Ext w w' ∧ Blk w' b2 38 (encSys r) ∧ ∀ i' k', i' < k → objAt s a i' k' = false) (fun k => r.Caches.n - k) 0
      ⟨rfl, rfl, rfl, trivial⟩ ⟨by omega, hw, hb2, fun i' k' h => by omega⟩ ?_
    clear hw hb2
    rintro i w' ⟨hk, hw, hb2, hI⟩
    have hA := hc.row.base
    by_cases hin : i < r.Caches.n
    · have hic : i < cs.length := by omega
      have hil : i < s.Caches.length := by omega
      have hck := hc.each.get i hic hil
      have sm := hs.each _ (List.getElem_mem hil)
      have hCM := (hM.each i hil).may
      obtain ⟨l1, l2, l3⟩ := layoutF_ok hCM.lay
      have eS := hck.size
      have eP := hck.per
      have n2 := hck.slabs.len
      have m2 := sm.slabs
      have hS : 1 ≤ cs[i].Size ∧ cs[i].Size ≤ 64 := by omega
      have hP : 1 ≤ cs[i].Per ∧ cs[i].Per ≤ 64 := by omega
      have g4 := hc.row.fld hin (j := 4) (u := .slice cs[i].Slabs.A cs[i].Slabs.n cs[i].Slabs.c) rfl
      repeat' (first | (show CW _ _ _ _ _ _; first | refine CW.seq ?_ | refine CW.region ?_ | refine CW.block ?_ | refine CW.condd_t rfl (by omega) ?_ | refine CW.skip ?_) | (show Post _ _ _ _ _; refine Post.seq ?_) | refine SW.nil ?_ | refine SW.pure rfl rfl ?_ | (show SW _ _ _ _ (⟨_, Op.fieldAddr _ _ _, _, _, _, none⟩ :: _) _ _; refine SW.st (st_field rfl) rfl ?_) | (show SW _ _ _ _ (⟨_, Op.call ⟨.builtin .len, _, _⟩, _, _, _, none⟩ :: _) _ _; refine SW.st (st_len rfl) rfl ?_) | (show SW _ _ _ _ (⟨_, Op.load _ _, _, _, _, none⟩ :: _) _ _; refine SW.st (st_load rfl (hb2.cell rfl)) rfl ?_))
      refine CW.loop (fun k : Nat => [(1, .int .i64 a), (2, .pointer (some ⟨b2, 0, none⟩)), (7, .int .i64 (i : Int)), (8, .int .i64 (k : Int))])
        (fun k w' => k ≤ cs[i].Slabs.n ∧ Ext w w' ∧ Blk w' b2 38 (encSys r) ∧ ∀ k', k' < k → objAt s a i k' = false) (fun k => cs[i].Slabs.n - k) 0
        ⟨rfl, rfl, rfl, rfl, trivial⟩ ⟨by omega, hw, hb2, fun k' h => by omega⟩ ?_
      clear hw hb2
      rintro k w' ⟨hk, hw, hb2, hJ⟩
      have hA1 := hck.slabs.base
      by_cases hkn : k < cs[i].Slabs.n
      · have hkl : k < s.Caches[i].Slabs.length := by omega
        obtain ⟨x, hx⟩ : ∃ x, s.Caches[i].Slabs[k] = x := ⟨_, rfl⟩
        have gS := hck.slabs.all hkn
        rw [hx] at gS
        have ht := (hCM.ats (hM.heap)) x (by rw [← hx]; exact List.getElem_mem hkl)
        obtain ⟨out0, hC⟩ := (hCM.slabs k hkl).chain
        rw [hx] at hC
        have eO := objAt_eq (a := a) hil hkl
        rw [hx, ← eS, ← eP] at eO
        obtain ⟨o, ho⟩ : ∃ o, objB cs[i].Size cs[i].Per x.At a = o := ⟨_, rfl⟩
        rw [ho] at eO
        have cO : ∀ w', Ans Tryd.prog 118 [.agg (encC cs[i]).toArray, .int .i64 x.At, .int .i64 a] w' fun v _ => v = .bool o := fun w' => by
          have := isObject_ans cs[i] x.At a w' hS hP ht
          rwa [ho] at this
        repeat' (first | (show CW _ _ _ _ _ _; first | refine CW.seq ?_ | refine CW.region ?_ | refine CW.block ?_ | refine CW.condd_t rfl (by omega) ?_ | refine CW.skip ?_) | (show Post _ _ _ _ _; refine Post.seq ?_) | refine SW.nil ?_ | refine SW.pure rfl rfl ?_ | (show SW _ _ _ _ (⟨_, Op.fieldAddr _ _ _, _, _, _, none⟩ :: _) _ _; refine SW.st (st_field rfl) rfl ?_) | (show SW _ _ _ _ (⟨_, Op.indexAddr _ _ _, _, _, _, none⟩ :: _) _ _; refine SW.st (st_indexN rfl rfl (by assumption) (by omega)) rfl ?_) | (show SW _ _ _ _ (⟨_, Op.call ⟨.builtin .len, _, _⟩, _, _, _, none⟩ :: _) _ _; refine SW.st (st_len rfl) rfl ?_) | (show SW _ _ _ _ (⟨_, Op.load _ _, _, _, _, none⟩ :: _) _ _; first | refine SW.st (st_load rfl (hb2.cell rfl)) rfl ?_ | refine SW.st (st_loadx hw rfl g4) rfl ?_ | refine SW.st (st_loadsx hw rfl rfl gS) rfl ?_))
        refine SW.alloc rfl fun b9 w1 hw1 hb9b hb9 => ?_
        skip
        refine SW.storeAgg hb9 rfl rfl rfl rfl (Enc.one (enc := encSb) _) fun w2 hb9' hg => ?_
        have hXX := hw1.own hb9b hg
        have hb9w : w.heap.size ≤ b9 := Nat.le_trans hw.size hb9b
        replace hw := Ext.trans hw hXX
        replace hb2 := hb2.ext hXX
        replace hb9 := hb9'
        clear hb9' hw1 hg hXX
        cases o
        · repeat' (first | (show CW _ _ _ _ _ _; first | refine CW.seq ?_ | refine CW.region ?_ | refine CW.condt rfl ?_ | refine CW.exit ?_ | (apply CW.quiet1 mixed; (· kernel_rfl); rotate_left; intro w1 hw1; replace hw := Ext.trans hw hw1; replace hb2 := hb2.ext hw1; replace hb9 := hb9.ext hw1; clear hw1; rotate_right)) | (show Post _ _ _ _ _; first | refine Post.seq ?_ | refine Post.seq_exit ?_ | refine Post.hit ?_) | refine SW.nil ?_ | refine SW.pure rfl rfl ?_ | (show SW _ _ _ _ (⟨_, Op.fieldAddr _ _ _, _, _, _, none⟩ :: _) _ _; refine SW.st (st_field rfl) rfl ?_) | (show SW _ _ _ _ (⟨_, Op.binOp _ _ _ _ _, _, _, _, none⟩ :: _) _ _; refine SW.st (st_add rfl rfl (by omega) (by omega)) rfl ?_) | (show SW _ _ _ _ (⟨_, Op.indexAddr _ _ _, _, _, _, none⟩ :: _) _ _; refine SW.st (st_indexN rfl rfl (by assumption) (by omega)) rfl ?_) | (show SW _ _ _ _ (⟨_, Op.load _ _, _, _, _, none⟩ :: _) _ _; first | refine SW.st (st_load rfl (hb9.cell rfl)) rfl ?_ | refine SW.st (st_load rfl (hb2.cell rfl)) rfl ?_ | refine SW.st (st_loadsx hw rfl rfl ((hc.row.all hin))) rfl ?_) | (show SW _ _ _ _ (⟨_, Op.call ⟨.value (.func _), _, _⟩, _, _, _, none⟩ :: _) _ _; refine SW.qcall rfl rfl (fun w1 hw1 => (cO _)) ?_) | exact SW.qnil rfl)
          exact Post.again (k + 1) ⟨rfl, rfl, rfl, rfl, trivial⟩ (by omega) ⟨by omega, hw, hb2, fun k' h => by
            by_cases e : k' = k
            · subst e; exact eO
            · exact hJ k' (by omega)⟩
        · have hFo : FoundAt s a i k := ⟨hil, hkl, eO, fun i' k' h => by
            rcases h with h | ⟨rfl, h⟩
            · exact hI i' k' h
            · exact hJ k' h⟩
          repeat' (first | (show CW _ _ _ _ _ _; refine CW.seq ?_) | (show Post _ _ _ _ _; refine Post.seq ?_) | refine SW.nil ?_)
          (apply CW.quiet1 mixed; (· kernel_rfl); rotate_left; intro w1 hw1; replace hw := Ext.trans hw hw1; replace hb2 := hb2.ext hw1; replace hb9 := hb9.ext hw1; clear hw1; rotate_right)
          repeat' (first | (show CW _ _ _ _ _ _; first | refine CW.seq ?_ | refine CW.condf rfl ?_ | refine CW.skip ?_) | (show Post _ _ _ _ _; refine Post.seq ?_) | refine SW.pure rfl rfl ?_ | (show SW _ _ _ _ (⟨_, Op.fieldAddr _ _ _, _, _, _, none⟩ :: _) _ _; refine SW.st (st_field rfl) rfl ?_) | (show SW _ _ _ _ (⟨_, Op.indexAddr _ _ _, _, _, _, none⟩ :: _) _ _; refine SW.st (st_indexN rfl rfl (by assumption) (by omega)) rfl ?_) | (show SW _ _ _ _ (⟨_, Op.load _ _, _, _, _, none⟩ :: _) _ _; first | refine SW.st (st_load rfl (hb9.cell rfl)) rfl ?_ | refine SW.st (st_load rfl (hb2.cell rfl)) rfl ?_ | refine SW.st (st_loadsx hw rfl rfl ((hc.row.all hin))) rfl ?_) | (show SW _ _ _ _ (⟨_, Op.call ⟨.value (.func _), _, _⟩, _, _, _, none⟩ :: _) _ _; refine SW.qcall rfl rfl (fun w1 hw1 => (cO _)) ?_) | exact SW.qnil rfl)
          refine CW.any 12 mixed (rb_tail (by kernel_rfl)) rfl fun w1 hw1 hRB => ?_
          replace hw := Ext.trans hw hw1; replace hb2 := hb2.ext hw1; replace hb9 := hb9.ext hw1; clear hw1
          refine SA.take 0 hRB rfl (by kernel_rfl) (by kernel_rfl) rfl ?_
          repeat ((show SW _ _ _ _ (⟨_, Op.load _ _, _, _, _, none⟩ :: _) _ _; refine SW.st (st_loads rfl rfl ((fun _ _ => hb2.cell))) rfl ?_))
          refine SW.tknil ?_
          refine SA.take 1 hRB rfl (by kernel_rfl) (by kernel_rfl) rfl ?_
          repeat ((show SW _ _ _ _ (⟨_, Op.fieldAddr _ _ _, _, _, _, none⟩ :: _) _ _; refine SW.st (st_field rfl) rfl ?_))
          refine SW.tknil ?_
          refine SA.take 2 hRB rfl (by kernel_rfl) (by kernel_rfl) rfl ?_
          repeat ((show SW _ _ _ _ (⟨_, Op.load _ _, _, _, _, none⟩ :: _) _ _; refine SW.st (st_load rfl (hb2.cell rfl)) rfl ?_))
          refine SW.tknil ?_
          refine SA.take 3 hRB rfl (by kernel_rfl) (by kernel_rfl) rfl ?_
          repeat (refine SW.pure rfl rfl ?_)
          refine SW.tknil ?_
          refine SA.take 4 hRB rfl (by kernel_rfl) (by kernel_rfl) rfl ?_
          repeat ((show SW _ _ _ _ (⟨_, Op.indexAddr _ _ _, _, _, _, none⟩ :: _) _ _; refine SW.st (st_indexN rfl rfl (by assumption) (by omega)) rfl ?_))
          refine SW.tknil ?_
          refine SA.take 5 hRB rfl (by kernel_rfl) (by kernel_rfl) rfl ?_
          repeat ((show SW _ _ _ _ (⟨_, Op.load _ _, _, _, _, none⟩ :: _) _ _; refine SW.st (st_loadsx hw rfl rfl ((hc.row.all hin))) rfl ?_))
          refine SW.tknil ?_
          refine SA.take 6 hRB rfl (by kernel_rfl) (by kernel_rfl) rfl ?_
          repeat ((show SW _ _ _ _ (⟨_, Op.load _ _, _, _, _, none⟩ :: _) _ _; refine SW.st (st_loads rfl rfl ((fun _ _ => hb9.cell))) rfl ?_))
          refine SW.tknil ?_
          refine SA.one 7 rfl (by kernel_rfl) rfl ?_
          refine SW.call rfl rfl (freeIn_ans r cs[i] x s.Words _ (hr.words.ext hw) (by omega) hS hP ht) fun v w5 hXX hv5 => ?_
          replace hw := Ext.trans hw hXX
          rw [eS, eP] at hv5
          have hv6 := ChainOut.hit hv5 hC
          obtain ⟨A5, c5, rfl, hO5, hl5⟩ := hv6
          refine SW.nil (Post.sa hXX ?_)
          refine SA.take 8 hRB rfl (by kernel_rfl) (by kernel_rfl) rfl ?_
          repeat (refine SW.pure rfl rfl ?_)
          refine SW.tknil ?_
          refine SA.take 9 hRB rfl (by kernel_rfl) (by kernel_rfl) rfl ?_
          repeat (refine SW.pure rfl rfl ?_)
          refine SW.tknil ?_
          refine SA.take 10 hRB rfl (by kernel_rfl) (by kernel_rfl) rfl ?_
          repeat (refine SW.pure rfl rfl ?_)
          refine SW.tknil ?_
          refine SA.take 11 hRB rfl (by kernel_rfl) (by kernel_rfl) rfl ?_
          repeat (refine SW.pure rfl rfl ?_)
          refine SW.tknil ?_
          refine SA.done (by kernel_rfl) ?_
          repeat' (first | (show CW _ _ _ _ _ _; first | refine CW.seq ?_ | refine CW.region ?_ | refine CW.block ?_) | (show Post _ _ _ _ _; first | refine Post.seq ?_ | refine Post.np ?_) | refine SW.nil ?_ | refine SW.pure rfl rfl ?_)
          refine CW.loop (fun j : Nat => [(1, .int .i64 a), (7, .int .i64 (i : Int)), (8, .int .i64 (k : Int)), (10, .slice A5 out0.length c5), (12, .int .i64 (j : Int))])
            (fun j w' => j ≤ out0.length ∧ Ext w w' ∧ (∃ lo, Own w' lo 3 1 encI A5 out0.length c5 out0) ∧ ∀ (m : Nat) (h : m < out0.length), m < j → out0[m] ≠ a) (fun j => out0.length - j) 0
            ⟨rfl, rfl, rfl, rfl, rfl, trivial⟩ ⟨by omega, hw, ⟨_, hO5⟩, fun m h h' => by omega⟩ ?_
          clear hw hO5
          rintro j w' ⟨hj, hw, ⟨lo, hO5⟩, hM5⟩
          have hA5 := hO5.sl.base
          by_cases hjn : j < out0.length
          · have gM := hO5.sl.one hjn (u := .int .i64 out0[j]) rfl
            by_cases hxa : out0[j] = a
            · repeat' (first | (show CW _ _ _ _ _ _; first | refine CW.seq ?_ | refine CW.region ?_ | refine CW.block ?_ | refine CW.condd_t rfl (by omega) ?_ | refine CW.skip ?_ | refine CW.ret ?_) | (show Post _ _ _ _ _; first | refine Post.seq ?_ | refine Post.seq_ret ?_ | refine Post.blk_ret ?_ | refine Post.again_ret ?_) | refine SW.nil ?_ | refine SW.pure rfl rfl ?_ | (show SW _ _ _ _ (⟨_, Op.indexAddr _ _ _, _, _, _, none⟩ :: _) _ _; refine SW.st (st_indexN rfl rfl (by assumption) (by omega)) rfl ?_) | (show SW _ _ _ _ (⟨_, Op.call ⟨.builtin .len, _, _⟩, _, _, _, none⟩ :: _) _ _; refine SW.st (st_len rfl) rfl ?_) | (show SW _ _ _ _ (⟨_, Op.load _ _, _, _, _, none⟩ :: _) _ _; refine SW.st (st_load rfl gM) rfl ?_))
              all_goals first | (exfalso; omega) | skip
              exact Post.ret3 rfl rfl rfl rfl ⟨_, rfl, hw, (0, 0, 4), .free hq hFo (by rw [hx]; exact hC) (hxa ▸ List.getElem_mem hjn), rfl⟩
            · repeat' (first | (show CW _ _ _ _ _ _; first | refine CW.seq ?_ | refine CW.region ?_ | refine CW.block ?_ | refine CW.condd_t rfl (by omega) ?_ | refine CW.condd_f rfl (by omega) ?_ | refine CW.skip ?_) | (show Post _ _ _ _ _; first | refine Post.seq ?_ | refine Post.blk ?_) | refine SW.nil ?_ | refine SW.pure rfl rfl ?_ | (show SW _ _ _ _ (⟨_, Op.binOp _ _ _ _ _, _, _, _, none⟩ :: _) _ _; refine SW.st (st_add rfl rfl (by omega) (by omega)) rfl ?_) | (show SW _ _ _ _ (⟨_, Op.indexAddr _ _ _, _, _, _, none⟩ :: _) _ _; refine SW.st (st_indexN rfl rfl (by assumption) (by omega)) rfl ?_) | (show SW _ _ _ _ (⟨_, Op.call ⟨.builtin .len, _, _⟩, _, _, _, none⟩ :: _) _ _; refine SW.st (st_len rfl) rfl ?_) | (show SW _ _ _ _ (⟨_, Op.load _ _, _, _, _, none⟩ :: _) _ _; refine SW.st (st_load rfl gM) rfl ?_))
              all_goals first | (exfalso; omega) | skip
              exact Post.again (j + 1) ⟨rfl, rfl, rfl, rfl, rfl, trivial⟩ (by omega) ⟨by omega, hw, ⟨lo, hO5⟩, fun m h h' => by
                by_cases em : m = j
                · subst em; exact hxa
                · exact hM5 m h (by omega)⟩
          · repeat' (first | (show CW _ _ _ _ _ _; first | refine CW.seq ?_ | refine CW.region ?_ | refine CW.condd_f rfl (by omega) ?_ | refine CW.ret ?_ | refine CW.exit ?_) | (show Post _ _ _ _ _; first | refine Post.seq ?_ | refine Post.seq_ret ?_ | refine Post.seq_exit ?_ | refine Post.hit ?_ | refine Post.blk_ret ?_ | refine Post.again_exit ?_ | refine Post.again_ret ?_) | refine SW.nil ?_ | refine SW.pure rfl rfl ?_ | (show SW _ _ _ _ (⟨_, Op.call ⟨.builtin .len, _, _⟩, _, _, _, none⟩ :: _) _ _; refine SW.st (st_len rfl) rfl ?_))
            exact Post.ret3 rfl rfl rfl rfl ⟨_, rfl, hw, (i, k, 0), .hit hq hFo (by rw [hx]; exact hC) (fun hm => by
              obtain ⟨m, hm1, hm2⟩ := List.getElem_of_mem hm
              exact hM5 m hm1 (by omega) hm2), rfl⟩
      · repeat' (first | (show CW _ _ _ _ _ _; first | refine CW.seq ?_ | refine CW.region ?_ | refine CW.condd_f rfl (by omega) ?_ | refine CW.exit ?_) | (show Post _ _ _ _ _; first | refine Post.seq ?_ | refine Post.seq_exit ?_ | refine Post.hit ?_ | refine Post.blk ?_ | refine Post.again_exit ?_) | refine SW.nil ?_ | refine SW.pure rfl rfl ?_ | (show SW _ _ _ _ (⟨_, Op.fieldAddr _ _ _, _, _, _, none⟩ :: _) _ _; refine SW.st (st_field rfl) rfl ?_) | (show SW _ _ _ _ (⟨_, Op.binOp _ _ _ _ _, _, _, _, none⟩ :: _) _ _; refine SW.st (st_add rfl rfl (by omega) (by omega)) rfl ?_) | (show SW _ _ _ _ (⟨_, Op.indexAddr _ _ _, _, _, _, none⟩ :: _) _ _; refine SW.st (st_indexN rfl rfl (by assumption) (by omega)) rfl ?_) | (show SW _ _ _ _ (⟨_, Op.call ⟨.builtin .len, _, _⟩, _, _, _, none⟩ :: _) _ _; refine SW.st (st_len rfl) rfl ?_) | (show SW _ _ _ _ (⟨_, Op.load _ _, _, _, _, none⟩ :: _) _ _; first | refine SW.st (st_load rfl (hb2.cell rfl)) rfl ?_ | refine SW.st (st_loadx hw rfl g4) rfl ?_))
        exact Post.again (i + 1) ⟨rfl, rfl, rfl, trivial⟩ (by omega) ⟨by omega, hw, hb2, fun i' k' h => by
          by_cases e : i' = i
          · subst e
            by_cases hk' : k' < s.Caches[i'].Slabs.length
            · exact hJ k' (by omega)
            · exact objAt_out hil hk'
          · exact hI i' k' (by omega)⟩
    · repeat' (first | (show CW _ _ _ _ _ _; first | refine CW.seq ?_ | refine CW.region ?_ | refine CW.condd_f rfl (by omega) ?_ | refine CW.ret ?_ | refine CW.exit ?_) | (show Post _ _ _ _ _; first | refine Post.seq ?_ | refine Post.seq_exit ?_ | refine Post.hit ?_ | refine Post.again_exit ?_) | refine SW.nil ?_ | refine SW.pure rfl rfl ?_ | (show SW _ _ _ _ (⟨_, Op.fieldAddr _ _ _, _, _, _, none⟩ :: _) _ _; refine SW.st (st_field rfl) rfl ?_) | (show SW _ _ _ _ (⟨_, Op.call ⟨.builtin .len, _, _⟩, _, _, _, none⟩ :: _) _ _; refine SW.st (st_len rfl) rfl ?_) | (show SW _ _ _ _ (⟨_, Op.load _ _, _, _, _, none⟩ :: _) _ _; refine SW.st (st_load rfl (hb2.cell rfl)) rfl ?_))
      exact Post.ret3 rfl rfl rfl rfl ⟨_, rfl, hw, (0, 0, 4), .none hq (fun i' k' => by
        by_cases h : i' < s.Caches.length
        · exact hI i' k' (by omega)
        · simp [objAt, h]), rfl⟩

end Go.Proofs.YtfommgdbahemfaaDoor
