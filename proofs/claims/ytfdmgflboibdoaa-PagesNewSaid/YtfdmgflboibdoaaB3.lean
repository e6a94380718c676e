/-
  Contracts: boot.joined; inRegions, drawn.
-/
import Derived.Test.YtfdmgflboibdoaaB2
set_option linter.unusedVariables false
namespace Go.Proofs.Ytfdmgflboibdoaa
open Go.RowKit

/-- which pages are in regions, with one more, or one less -/
def withReg (l : List Region) (r : Region) (b : Bool) (i : Nat) : Bool := if r.From ≤ (i : Int) ∧ (i : Int) < r.From + r.Size then b else inReg l i

theorem Bjoined_ans (A : Option Addr) (n c N : Nat) (hN : N = 256) (l : List Region) (r : Region) (q : Bool) (w : World) (hl : Sl w 2 encR A n l) (hok : ∀ r ∈ l, r.ok) (hr : r.ok) (hn : n ≤ 9223372036854775807) :
    Ans Try.prog 146 [.slice A n c, .agg (encR r).toArray, .bool q] w (RegsOut w.heap.size (runs (withReg l r q) N)) := by
  refine ans_of Try.func146 rfl Try.ntmps146 rfl ?_
  have hA := hl.base
  obtain ⟨f, hf⟩ := Int.eq_ofNat_of_zero_le hr.1
  obtain ⟨s, hs⟩ := Int.eq_ofNat_of_zero_le (show 0 ≤ r.Size by have := hr.2.1; omega)
  have h256 := hr.2.2.2
  refine CW.seq (CW.region (SW.box rfl rfl fun b w1 hw hb hB => ?_))
  repeat' (first | (show CW _ _ _ _ _ _; first | refine CW.seq ?_ | refine CW.region ?_) | (show Post _ _ _ _ _; refine Post.seq ?_) | refine SW.nil ?_ | refine SW.pure rfl rfl ?_)
  refine SW.call rfl rfl (Bpages_ans _ _ _ _ _ (hl.ext hw) hok hn) fun v w2 hw2 hv => ?_
  obtain ⟨M, d, rfl, hO⟩ := hv
  have hlo := hw.size
  replace hw := Ext.trans hw hw2
  replace hB := hB.ext hw2
  replace hO := hO.low hlo
  have hMb := hO.sl.base
  have e0 : marksOf (fun i => inReg l i) 256 = marksOf (fun i => if f ≤ i ∧ i < f + 0 then q else inReg l i) 256 := marksOf_congr fun i _ => by
    rw [if_neg (by omega)]
  rw [e0] at hO
  repeat' (first | (show CW _ _ _ _ _ _; first | refine CW.seq ?_ | refine CW.region ?_ | refine CW.block ?_) | (show Post _ _ _ _ _; refine Post.seq ?_) | refine SW.nil ?_ | refine SW.pure rfl rfl ?_ | (show SW _ _ _ _ (⟨_, Op.fieldAddr _ _ _, _, _, _, none⟩ :: _) _ _; refine SW.st (st_field rfl) rfl ?_) | (show SW _ _ _ _ (⟨_, Op.load _ _, _, _, _, none⟩ :: _) _ _; refine SW.st (st_load rfl (hB.cell rfl)) rfl ?_))
  refine CW.loop (fun j : Nat => [(0, .slice A n c), (2, .bool q), (4, .pointer (some ⟨b, 0, none⟩)), (7, .slice M 256 d), (8, .int .i64 ((f + j : Nat) : Int))])
    (fun j w' => j ≤ s ∧ Ext w w' ∧ Blk w' b 54 (encR r) ∧ Own w' w.heap.size 4 1 encB M 256 d (marksOf (fun i => if f ≤ i ∧ i < f + j then q else inReg l i) 256)) (fun j => s - j) 0
    ⟨rfl, rfl, rfl, rfl, by rw [hf]; rfl, trivial⟩ ⟨by omega, hw, hB, hO⟩ ?_
  clear hw hO hw2 e0
  clear hB
  rintro j w' ⟨hj, hw, hB, hO⟩
  by_cases hjs : j < s
  · repeat' (first | (show CW _ _ _ _ _ _; first | refine CW.seq ?_ | refine CW.region ?_ | refine CW.block ?_ | refine CW.condd_t rfl (by omega) ?_ | refine CW.skip ?_) | (show Post _ _ _ _ _; refine Post.seq ?_) | refine SW.nil ?_ | refine SW.pure rfl rfl ?_ | (show SW _ _ _ _ (⟨_, Op.indexAddr _ _ _, _, _, _, none⟩ :: _) _ _; refine SW.st (st_indexN rfl rfl (by assumption) (by omega)) rfl ?_) | (show SW _ _ _ _ (⟨_, Op.load _ _, _, _, _, none⟩ :: _) _ _; refine SW.st (st_loads rfl rfl ((fun _ _ => hB.cell))) rfl ?_) | (show SW _ _ _ _ (⟨_, Op.call ⟨.value (.func _), _, _⟩, _, _, _, none⟩ :: _) _ _; (refine SW.call rfl rfl (end_ok hr _) ?_; intro v w1 hw1 hv; subst hv; replace hw := Ext.trans hw hw1; replace hB := hB.ext hw1; replace hO := hO.ext hw1; clear hw1)))
    refine SW.storeO (f + j) 0 q hO rfl rfl rfl (by omega) (by omega) (by rw [add_zero]) rfl fun w3 hO3 hg => ?_
    replace hw := ext_grown hw hg (Nat.le_refl _) hO.row_ge
    replace hB := hB.grown hg (fun e => hO.ne_blk hB rfl e.symm)
    rw [marksOf_set] at hO3
    repeat' (first | (show CW _ _ _ _ _ _; refine CW.region ?_) | (show Post _ _ _ _ _; first | refine Post.seq ?_ | refine Post.blk ?_) | refine SW.nil ?_ | refine SW.pure rfl rfl ?_ | (show SW _ _ _ _ (⟨_, Op.binOp _ _ _ _ _, _, _, _, none⟩ :: _) _ _; refine SW.st (st_add rfl rfl (by omega) (by omega)) rfl ?_))
    refine Post.again (j + 1) ⟨rfl, rfl, rfl, rfl, rfl, trivial⟩ (by omega) ⟨by omega, hw, hB, ?_⟩
    have e : marksOf (fun i => if f ≤ i ∧ i < f + (j + 1) then q else inReg l i) 256 = marksOf (fun i => if i = f + j then q else if f ≤ i ∧ i < f + j then q else inReg l i) 256 := marksOf_congr fun i _ => by
      by_cases hi : i = f + j
      · rw [if_pos (by omega), if_pos hi]
      · rw [if_neg hi]
        by_cases h2 : f ≤ i ∧ i < f + j
        · rw [if_pos (by omega), if_pos h2]
        · rw [if_neg (by omega), if_neg h2]
    rw [e]; exact hO3
  · obtain rfl : j = s := by omega
    have e : marksOf (fun i => if f ≤ i ∧ i < f + j then q else inReg l i) 256 = marksOf (withReg l r q) 256 := marksOf_congr fun i _ => by
      unfold withReg
      rw [hf, hs]
      by_cases h2 : f ≤ i ∧ i < f + j
      · rw [if_pos h2, if_pos (by omega)]
      · rw [if_neg h2, if_neg (by omega)]
    rw [e] at hO
    repeat' (first | (show CW _ _ _ _ _ _; first | refine CW.seq ?_ | refine CW.region ?_ | refine CW.condd_f rfl (by omega) ?_ | refine CW.exit ?_) | (show Post _ _ _ _ _; first | refine Post.seq ?_ | refine Post.seq_exit ?_ | refine Post.hit ?_ | refine Post.again_exit ?_) | refine SW.nil ?_ | refine SW.pure rfl rfl ?_ | (show SW _ _ _ _ (⟨_, Op.load _ _, _, _, _, none⟩ :: _) _ _; refine SW.st (st_loads rfl rfl ((fun _ _ => hB.cell))) rfl ?_) | (show SW _ _ _ _ (⟨_, Op.call ⟨.value (.func _), _, _⟩, _, _, _, none⟩ :: _) _ _; (refine SW.call rfl rfl (end_ok hr _) ?_; intro v w1 hw1 hv; subst hv; replace hw := Ext.trans hw hw1; replace hB := hB.ext hw1; replace hO := hO.ext hw1; clear hw1)))
    have hcall : ∀ w', Sl w' 1 encB M 256 (marksOf (withReg l r q) 256) → Ans Try.prog 86 [.slice M 256 d] w' (RegsOut w'.heap.size (runs (withReg l r q) N)) := fun w' h => by
      have hO' : Sl w' 1 encB M N (marksOf (withReg l r q) N) := by rw [hN]; exact h
      have h1 := Bregions_ans M d N hN (withReg l r q) _ hO'
      rwa [show Value.slice M N d = .slice M 256 d by rw [hN]] at h1
    refine SW.call rfl rfl (hcall _ hO.sl) fun v w3 hw3 hv => ?_
    have hw3' := Ext.trans hw hw3
    repeat' (first | (show CW _ _ _ _ _ _; refine CW.ret ?_) | (show Post _ _ _ _ _; refine Post.seq ?_) | refine SW.nil ?_ | refine SW.pure rfl rfl ?_)
    obtain ⟨A2, c2, rfl, hO2⟩ := hv
    exact Post.ret1 rfl rfl ⟨_, rfl, hw3', A2, c2, rfl, hO2.low hw.size⟩

theorem inRegions_ans (A : Option Addr) (n c : Nat) (l : List Region) (x : Int) (w : World) (hl : Sl w 2 encR A n l) (hok : ∀ r ∈ l, r.ok) (hn : n ≤ 9223372036854775807) :
    Ans Try.prog 90 [.slice A n c, .int .i64 x] w fun v _ => v = .bool (inReg l x) := by
  refine ans_of Try.func90 rfl Try.ntmps90 rfl ?_
  have hw := Ext.refl w
  have hA := hl.base
  repeat' (first | (show CW _ _ _ _ _ _; first | refine CW.seq ?_ | refine CW.region ?_ | refine CW.block ?_) | (show Post _ _ _ _ _; refine Post.seq ?_) | refine SW.nil ?_ | refine SW.pure rfl rfl ?_)
  refine CW.loop (fun k : Nat => [(0, .slice A n c), (1, .int .i64 x), (5, .int .i64 (k : Int))]) (fun k w' => k ≤ n ∧ Ext w w' ∧ inReg (l.take k) x = false) (fun k => n - k) 0 ⟨rfl, rfl, rfl, trivial⟩ ⟨by omega, hw, rfl⟩ ?_
  clear hw
  rintro k w' ⟨hk, hw, hI⟩
  by_cases hkn : k < n
  · have hkl := hl.lt hkn
    have hrok := hok (l[k]) (List.getElem_mem hkl)
    have h1 := hrok.1
    have h2 := hrok.2.1
    have h3 := hrok.2.2.2
    have h0 := hl.fld hkn (j := 0) (u := .int .i64 (l[k]).From) rfl
    have h4 := hl.fld hkn (j := 1) (u := .int .i64 (l[k]).Size) rfl
    have et := inReg_take hkl x
    repeat' (first | (show CW _ _ _ _ _ _; first | refine CW.seq ?_ | refine CW.region ?_ | refine CW.block ?_ | refine CW.condd_t rfl (by omega) ?_ | refine CW.condd rfl (fun h => ?_) (fun h => ?_) | refine CW.skip ?_ | refine CW.ret ?_ | (apply CW.quiet1 mixed; (· kernel_rfl); rotate_left; intro w1 hw1; replace hw := Ext.trans hw hw1; clear hw1; rotate_right)) | (show Post _ _ _ _ _; first | refine Post.seq ?_ | refine Post.seq_ret ?_ | refine Post.blk ?_ | refine Post.blk_ret ?_ | refine Post.again_ret ?_) | refine SW.nil ?_ | refine SW.pure rfl rfl ?_ | (show SW _ _ _ _ (⟨_, Op.fieldAddr _ _ _, _, _, _, none⟩ :: _) _ _; refine SW.st (st_field rfl) rfl ?_) | (show SW _ _ _ _ (⟨_, Op.binOp _ _ _ _ _, _, _, _, none⟩ :: _) _ _; first | refine SW.st (st_add rfl rfl (by omega) (by omega)) rfl ?_ | refine SW.st (st_sub rfl rfl (by omega) (by omega)) rfl ?_) | (show SW _ _ _ _ (⟨_, Op.indexAddr _ _ _, _, _, _, none⟩ :: _) _ _; refine SW.st (st_indexN rfl rfl (by assumption) (by omega)) rfl ?_) | (show SW _ _ _ _ (⟨_, Op.call ⟨.builtin .len, _, _⟩, _, _, _, none⟩ :: _) _ _; refine SW.st (st_len rfl) rfl ?_) | (show SW _ _ _ _ (⟨_, Op.load _ _, _, _, _, none⟩ :: _) _ _; first | refine SW.st (st_loadx hw rfl h0) rfl ?_ | refine SW.st (st_loadx hw rfl h4) rfl ?_) | (show SW _ _ _ _ (⟨_, Op.call ⟨.value (.func _), _, _⟩, _, _, _, none⟩ :: _) _ _; refine SW.qcall rfl rfl (fun w1 hw1 => (In_ans _ _ _ _)) ?_) | exact SW.qnil rfl)
    · refine Post.ret1 rfl rfl ⟨_, rfl, hw, ?_⟩
      congr 1
      symm
      unfold inReg
      rw [List.any_eq_true]
      exact ⟨l[k], List.getElem_mem hkl, by simp; omega⟩
    · refine Post.again (k + 1) ⟨rfl, rfl, rfl, trivial⟩ (by omega) ⟨by omega, hw, ?_⟩
      rw [et, hI, Bool.false_or]
      by_cases hh : (l[k]).From ≤ x
      · have : ¬ x < (l[k]).From + (l[k]).Size := by omega
        simp [this]
      · simp [hh]
  · repeat' (first | (show CW _ _ _ _ _ _; first | refine CW.seq ?_ | refine CW.region ?_ | refine CW.condd_f rfl (by omega) ?_ | refine CW.ret ?_ | refine CW.exit ?_) | (show Post _ _ _ _ _; first | refine Post.seq ?_ | refine Post.seq_exit ?_ | refine Post.hit ?_ | refine Post.again_exit ?_) | refine SW.nil ?_ | refine SW.pure rfl rfl ?_ | (show SW _ _ _ _ (⟨_, Op.call ⟨.builtin .len, _, _⟩, _, _, _, none⟩ :: _) _ _; refine SW.st (st_len rfl) rfl ?_))
    refine Post.ret1 rfl rfl ⟨_, rfl, hw, ?_⟩
    rw [List.take_of_length_le (by have := hl.len; omega)] at hI
    rw [hI]

theorem drawn_ans (g : FuncId) (cap : List Value) (N : Nat) (hN : N = 256) (p : Nat → Bool) (w : World) [Body Try.prog g]
    (hF : ∀ (z : Int) (w' : World), 0 ≤ z → z < 256 → Ext w w' → Ans Try.prog g ([.int .i64 z] ++ cap) w' fun u _ => u = .bool (p z.toNat)) :
    Ans Try.prog 88 [.func (.func g) #[] cap.toArray] w (RegsOut w.heap.size (runs p N)) := by
  refine ans_of Try.func88 rfl Try.ntmps88 rfl ?_
  have hw := Ext.refl w
  repeat' (first | (show CW _ _ _ _ _ _; first | refine CW.seq ?_ | refine CW.region ?_ | refine CW.block ?_) | (show Post _ _ _ _ _; refine Post.seq ?_) | refine SW.nil ?_ | refine SW.pure rfl rfl ?_)
  refine CW.loop (fun s : Nat × Option Addr × Nat => [(0, .func (.func g) #[] cap.toArray), (3, .slice s.2.1 (runs p s.1).length s.2.2), (4, .int .i64 (s.1 : Int))])
    (fun s w' => s.1 ≤ N ∧ Ext w w' ∧ Own w' w.heap.size 54 2 encR s.2.1 (runs p s.1).length s.2.2 (runs p s.1)) (fun s => N - s.1) (0, none, 0) ⟨rfl, rfl, rfl, trivial⟩ ⟨by omega, hw, Own.nil_ _ _ _ _ _ _⟩ ?_
  clear hw
  rintro ⟨k, A1, c1⟩ w' ⟨hk, hw, hO⟩
  simp only at hk hO ⊢
  have hok := runs_ok p k
  have hlen := hok.len
  by_cases hkn : k < N
  · obtain ⟨bk, hbk⟩ : ∃ b, p k = b := ⟨_, rfl⟩
    have f1 : ∀ w', Ext w w' → Ans Try.prog g ([.int .i64 (k : Int)] ++ cap) w' fun u _ => u = .bool bk := fun w' h => by
      have := hF (k : Int) w' (by omega) (by omega) h
      rwa [Int.toNat_natCast, hbk] at this
    cases bk
    · have e : runs p (k + 1) = runs p k := by simp [runs, hbk]
      repeat' (first | (show CW _ _ _ _ _ _; first | refine CW.seq ?_ | refine CW.region ?_ | refine CW.block ?_ | refine CW.condd_t rfl (by omega) ?_ | refine CW.condt rfl ?_ | refine CW.skip ?_ | refine CW.exit ?_) | (show Post _ _ _ _ _; first | refine Post.seq ?_ | refine Post.seq_exit ?_ | refine Post.hit ?_) | refine SW.nil ?_ | refine SW.pure rfl rfl ?_ | (show SW _ _ _ _ (⟨_, Op.binOp _ _ _ _ _, _, _, _, none⟩ :: _) _ _; refine SW.st (st_add rfl rfl (by omega) (by omega)) rfl ?_) | (refine SW.callv rfl rfl rfl (f1 _ hw) ?_; intro v w1 hw1 hv; subst hv; replace hw := Ext.trans hw hw1; replace hO := hO.ext hw1; clear hw1))
      refine Post.again (k + 1, A1, c1) ⟨rfl, by simp only [e]; rfl, rfl, trivial⟩ (by simp only; omega) ⟨by simp only; omega, hw, by simp only; rw [e]; exact hO⟩
    · by_cases hq : 0 < k ∧ p (k - 1) = true
      · obtain ⟨init, r, hr, hre⟩ := hok.last hq.1 hq.2
        have e : runs p (k + 1) = init ++ [⟨r.From, r.Size + 1⟩] := by simp [runs, hbk, hq, hr, bump_concat]
        have hrr := hok.rng r (by rw [hr]; simp)
        have f2 : ∀ w', Ext w w' → Ans Try.prog g ([.int .i64 ((k : Int) - 1)] ++ cap) w' fun u _ => u = .bool true := fun w' h => by
          have := hF ((k : Int) - 1) w' (by omega) (by omega) h
          rwa [show ((k : Int) - 1).toNat = k - 1 by omega, hq.2] at this
        have hq1 := hq.1
        rw [hr] at hO hlen ⊢
        have hil : (init ++ [r]).length = init.length + 1 := by simp
        rw [hil] at hO hlen
        rw [hil]
        have hA1 := hO.sl.base
        have hget : (init ++ [r])[init.length]'(by simp) = r := by simp
        have hsh : (init ++ [r]).set init.length ⟨r.From, r.Size + 1⟩ = init ++ [⟨r.From, r.Size + 1⟩] := by simp
        repeat' (first | (show CW _ _ _ _ _ _; first | refine CW.seq ?_ | refine CW.region ?_ | refine CW.block ?_ | refine CW.condtr rfl (by with_reducible rfl) ?_ | refine CW.condd_t rfl (by omega) ?_ | refine CW.condf rfl ?_ | refine CW.skip ?_) | (show Post _ _ _ _ _; refine Post.seq ?_) | refine SW.nil ?_ | (show SW _ _ _ _ (⟨_, _, _, _, _, some _⟩ :: _) _ _; first | refine SW.want_t rfl rfl (by with_reducible rfl) ?_ | refine SW.splitd_t rfl rfl rfl (by omega) ?_) | refine SW.pure rfl rfl ?_ | (show SW _ _ _ _ (⟨_, Op.fieldAddr _ _ _, _, _, _, none⟩ :: _) _ _; refine SW.st (st_field rfl) rfl ?_) | (show SW _ _ _ _ (⟨_, Op.binOp _ _ _ _ _, _, _, _, none⟩ :: _) _ _; refine SW.st (st_sub rfl rfl (by omega) (by omega)) rfl ?_) | (show SW _ _ _ _ (⟨_, Op.indexAddr _ _ _, _, _, _, none⟩ :: _) _ _; refine SW.st (st_indexI (init.length) rfl rfl (by assumption) (by omega) (by omega)) rfl ?_) | (show SW _ _ _ _ (⟨_, Op.call ⟨.builtin .len, _, _⟩, _, _, _, none⟩ :: _) _ _; refine SW.st (st_len rfl) rfl ?_) | (refine SW.callv rfl rfl rfl (f1 _ hw) ?_; intro v w1 hw1 hv; subst hv; replace hw := Ext.trans hw hw1; replace hO := hO.ext hw1; clear hw1) | (refine SW.callv rfl rfl rfl (f2 _ hw) ?_; intro v w1 hw1 hv; subst hv; replace hw := Ext.trans hw hw1; replace hO := hO.ext hw1; clear hw1))
        have hall := hO.sl.all (i := init.length) (by omega)
        rw [hget] at hall
        refine SW.st (st_load rfl (hall 1 (.int .i64 r.Size) rfl)) rfl ?_
        repeat' (first | (show SW _ _ _ _ (⟨_, Op.fieldAddr _ _ _, _, _, _, none⟩ :: _) _ _; refine SW.st (st_field rfl) rfl ?_) | (show SW _ _ _ _ (⟨_, Op.binOp _ _ _ _ _, _, _, _, none⟩ :: _) _ _; refine SW.st (st_add rfl rfl (by omega) (by omega)) rfl ?_) | (show SW _ _ _ _ (⟨_, Op.indexAddr _ _ _, _, _, _, none⟩ :: _) _ _; refine SW.st (st_indexI (init.length) rfl rfl (by assumption) (by omega) (by omega)) rfl ?_))
        refine SW.storeO init.length 1 ⟨r.From, r.Size + 1⟩ hO rfl rfl rfl (by omega) (by omega) rfl (by rw [hget]; rfl) fun w2 hO2 hg => ?_
        replace hw := ext_grown hw hg (Nat.le_refl _) hO.row_ge
        repeat' (first | (show CW _ _ _ _ _ _; refine CW.region ?_) | (show Post _ _ _ _ _; first | refine Post.seq ?_ | refine Post.blk ?_) | refine SW.nil ?_ | refine SW.pure rfl rfl ?_ | (show SW _ _ _ _ (⟨_, Op.binOp _ _ _ _ _, _, _, _, none⟩ :: _) _ _; refine SW.st (st_add rfl rfl (by omega) (by omega)) rfl ?_))
        refine Post.again (k + 1, A1, c1) ⟨rfl, by simp only [e]; simp [get]; rfl, rfl, trivial⟩ (by simp only; omega) ⟨by simp only; omega, hw, ?_⟩
        simp only [e]
        rw [hsh] at hO2
        simpa using hO2
      · have e : runs p (k + 1) = runs p k ++ [⟨(k : Int), 1⟩] := by
          simp only [runs, hbk, if_true]
          rw [if_neg hq]
        by_cases hk0 : k = 0
        all_goals
          have f2 : 0 < k → ∀ w', Ext w w' → Ans Try.prog g ([.int .i64 ((k : Int) - 1)] ++ cap) w' fun u _ => u = .bool false := fun h0 w' h => by
            have := hF ((k : Int) - 1) w' (by omega) (by omega) h
            have hp : p (k - 1) = false := by
              cases hh : p (k - 1) with
              | false => rfl
              | true => exact absurd ⟨h0, hh⟩ hq
            rwa [show ((k : Int) - 1).toNat = k - 1 by omega, hp] at this
          repeat' (first | (show CW _ _ _ _ _ _; first | refine CW.seq ?_ | refine CW.region ?_ | refine CW.block ?_ | refine CW.condfr rfl (by with_reducible rfl) ?_ | refine CW.condd_t rfl (by omega) ?_ | refine CW.condf rfl ?_ | refine CW.skip ?_) | (show Post _ _ _ _ _; refine Post.seq ?_) | refine SW.nil ?_ | (show SW _ _ _ _ (⟨_, _, _, _, _, some _⟩ :: _) _ _; first | refine SW.want_t rfl rfl (by with_reducible rfl) ?_ | refine SW.skip_t rfl rfl (by with_reducible rfl) rfl ?_ | refine SW.splitd_t rfl rfl rfl (by omega) ?_ | refine SW.splitd_f rfl rfl rfl (by omega) ?_) | refine SW.pure rfl rfl ?_ | (show SW _ _ _ _ (⟨_, Op.build _ _, _, _, _, none⟩ :: _) _ _; refine SW.st (st_build rfl rfl) rfl ?_) | (show SW _ _ _ _ (⟨_, Op.binOp _ _ _ _ _, _, _, _, none⟩ :: _) _ _; refine SW.st (st_sub rfl rfl (by omega) (by omega)) rfl ?_) | (refine SW.callv rfl rfl rfl (f1 _ hw) ?_; intro v w1 hw1 hv; subst hv; replace hw := Ext.trans hw hw1; replace hO := hO.ext hw1; clear hw1) | (refine SW.callv rfl rfl rfl (f2 (by omega) _ hw) ?_; intro v w1 hw1 hv; subst hv; replace hw := Ext.trans hw hw1; replace hO := hO.ext hw1; clear hw1))
          refine SW.build1 rfl rfl rfl rfl rfl fun b w1 hw1 hb hB => ?_
          replace hw := Ext.trans hw hw1
          replace hO := hO.ext hw1
          refine SW.append hO (Blk.slR (r := ⟨(k : Int), 1⟩) hB rfl) hw.size rfl rfl rfl (by omega) (by omega) fun A2 c2 w2 hO1 hg => ?_
          replace hw := ext_grown hw hg (Nat.le_refl _) hO.row_ge
          repeat' (first | (show CW _ _ _ _ _ _; refine CW.region ?_) | (show Post _ _ _ _ _; first | refine Post.seq ?_ | refine Post.blk ?_) | refine SW.nil ?_ | refine SW.pure rfl rfl ?_ | (show SW _ _ _ _ (⟨_, Op.binOp _ _ _ _ _, _, _, _, none⟩ :: _) _ _; refine SW.st (st_add rfl rfl (by omega) (by omega)) rfl ?_))
          refine Post.again (k + 1, A2, c2) ⟨rfl, by simp only [e]; simp [get]; rfl, rfl, trivial⟩ (by simp only; omega) ⟨by simp only; omega, hw, ?_⟩
          simp only [e]
          simpa using hO1
  · repeat' (first | (show CW _ _ _ _ _ _; first | refine CW.seq ?_ | refine CW.region ?_ | refine CW.condd_f rfl (by omega) ?_ | refine CW.ret ?_ | refine CW.exit ?_) | (show Post _ _ _ _ _; first | refine Post.seq ?_ | refine Post.seq_exit ?_ | refine Post.hit ?_ | refine Post.again_exit ?_) | refine SW.nil ?_ | refine SW.pure rfl rfl ?_)
    obtain rfl : k = N := by omega
    exact Post.ret1 rfl rfl ⟨_, rfl, hw, A1, c1, rfl, hO⟩
end Go.Proofs.Ytfdmgflboibdoaa
