/-
  Contracts: regions of pages: boot.regions, boot.joined; drawn, inRegions.
-/
import Derived.Test.YtfdmgflboibdoaaB1
set_option linter.unusedVariables false
namespace Go.Proofs.Ytfdmgflboibdoaa
open Go.RowKit

/-- a list of regions, new -/
def RegsOut (lo : Nat) (l : List Region) (v : Value) (w : World) : Prop := ∃ A c, v = .slice A l.length c ∧ Own w lo 54 2 encR A l.length c l

theorem Blk.slR {w : World} {b : Nat} {t : TypeId} {r : Region} {vs : List Value} (h : Blk w b t vs) (e : vs = encR r) : Sl w 2 encR (some ⟨b, 0, none⟩) 1 [r] := by subst e; exact Blk.sl1 h

theorem Bregions_ans (A : Option Addr) (c N : Nat) (hN : N = 256) (p : Nat → Bool) (w : World) (hl : Sl w 1 encB A N (marksOf p N)) :
    Ans Try.prog 86 [.slice A N c] w (RegsOut w.heap.size (runs p N)) := by
  refine ans_of Try.func86 rfl Try.ntmps86 rfl ?_
  have hw := Ext.refl w
  have hA := hl.base
  have hcell : ∀ k, k < N → w.cell? ((A.getD default).add (k * 1)) = some (.bool (p k)) := fun k hk => hl.one hk (by rw [marksOf_get]; rfl)
  repeat' (first | (show CW _ _ _ _ _ _; first | refine CW.seq ?_ | refine CW.region ?_ | refine CW.block ?_) | (show Post _ _ _ _ _; refine Post.seq ?_) | refine SW.nil ?_ | refine SW.pure rfl rfl ?_ | (show SW _ _ _ _ (⟨_, Op.call ⟨.builtin .len, _, _⟩, _, _, _, none⟩ :: _) _ _; refine SW.st (st_len rfl) rfl ?_))
  refine CW.loop (fun s : Nat × Option Addr × Nat => [(3, .slice s.2.1 (runs p s.1).length s.2.2), (7, .slice A N c), (8, .int .i64 (N : Int)), (9, .int .i64 (s.1 : Int))])
    (fun s w' => s.1 ≤ N ∧ Ext w w' ∧ Own w' w.heap.size 54 2 encR s.2.1 (runs p s.1).length s.2.2 (runs p s.1)) (fun s => N - s.1) (0, none, 0) ⟨rfl, rfl, rfl, rfl, trivial⟩ ⟨by omega, hw, Own.nil_ _ _ _ _ _ _⟩ ?_
  clear hw
  rintro ⟨k, A1, c1⟩ w' ⟨hk, hw, hO⟩
  simp only at hk hO ⊢
  have hok := runs_ok p k
  have hlen := hok.len
  by_cases hkn : k < N
  · obtain ⟨bk, hbk⟩ : ∃ b, p k = b := ⟨_, rfl⟩
    have hc := hcell k hkn
    rw [hbk] at hc
    cases bk
    · have e : runs p (k + 1) = runs p k := by simp [runs, hbk]
      repeat' (first | (show CW _ _ _ _ _ _; first | refine CW.seq ?_ | refine CW.region ?_ | refine CW.block ?_ | refine CW.condd_t rfl (by omega) ?_ | refine CW.condt rfl ?_ | refine CW.skip ?_) | (show Post _ _ _ _ _; first | refine Post.seq ?_ | refine Post.blk ?_) | refine SW.nil ?_ | refine SW.pure rfl rfl ?_ | (show SW _ _ _ _ (⟨_, Op.binOp _ _ _ _ _, _, _, _, none⟩ :: _) _ _; first | refine SW.st (st_add rfl rfl (by omega) (by omega)) rfl ?_ | refine SW.st (st_sub rfl rfl (by omega) (by omega)) rfl ?_) | (show SW _ _ _ _ (⟨_, Op.indexAddr _ _ _, _, _, _, none⟩ :: _) _ _; refine SW.st (st_indexN rfl rfl (by assumption) (by omega)) rfl ?_) | (show SW _ _ _ _ (⟨_, Op.call ⟨.builtin .len, _, _⟩, _, _, _, none⟩ :: _) _ _; refine SW.st (st_len rfl) rfl ?_) | (show SW _ _ _ _ (⟨_, Op.load _ _, _, _, _, none⟩ :: _) _ _; refine SW.st (st_loadx hw rfl hc) rfl ?_))
      refine Post.again (k + 1, A1, c1) ⟨by rw [e]; rfl, rfl, rfl, rfl, trivial⟩ (by simp only; omega) ⟨by simp only; omega, hw, by simp only; rw [e]; exact hO⟩
    · by_cases hq : 0 < k ∧ p (k - 1) = true
      · obtain ⟨init, r, hr, hre⟩ := hok.last hq.1 hq.2
        have e : runs p (k + 1) = init ++ [⟨r.From, r.Size + 1⟩] := by simp [runs, hbk, hq, hr, bump_concat]
        have hrr := hok.rng r (by rw [hr]; simp)
        have hrok : r.ok := ⟨hrr.1, hrr.2.1, by omega, by omega⟩
        rw [hr] at hO hlen ⊢
        have hil : (init ++ [r]).length = init.length + 1 := by simp
        rw [hil] at hO hlen
        rw [hil]
        have hA1 := hO.sl.base
        have hget : (init ++ [r])[init.length]'(by simp) = r := by simp
        have hall := hO.sl.all (i := init.length) (by omega)
        rw [hget] at hall
        have hsh : (init ++ [r]).set init.length ⟨r.From, r.Size + 1⟩ = init ++ [⟨r.From, r.Size + 1⟩] := by simp
        refine CW.seq ?_
        repeat' (first | (show CW _ _ _ _ _ _; first | refine CW.seq ?_ | refine CW.region ?_ | refine CW.block ?_ | refine CW.condd_t rfl (by omega) ?_ | refine CW.condf rfl ?_ | refine CW.skip ?_) | (show Post _ _ _ _ _; refine Post.seq ?_) | refine SW.nil ?_ | (show SW _ _ _ _ (⟨_, _, _, _, _, some _⟩ :: _) _ _; first | refine SW.want_t rfl rfl (by with_reducible rfl) ?_ | refine SW.splitd_t rfl rfl rfl (by omega) ?_) | refine SW.pure rfl rfl ?_ | (show SW _ _ _ _ (⟨_, Op.binOp _ _ _ _ _, _, _, _, none⟩ :: _) _ _; refine SW.st (st_sub rfl rfl (by omega) (by omega)) rfl ?_) | (show SW _ _ _ _ (⟨_, Op.indexAddr _ _ _, _, _, _, none⟩ :: _) _ _; first | refine SW.st (st_indexN rfl rfl (by assumption) (by omega)) rfl ?_ | refine SW.st (st_indexI (init.length) rfl rfl (by assumption) (by omega) (by omega)) rfl ?_) | (show SW _ _ _ _ (⟨_, Op.call ⟨.builtin .len, _, _⟩, _, _, _, none⟩ :: _) _ _; refine SW.st (st_len rfl) rfl ?_) | (show SW _ _ _ _ (⟨_, Op.load _ _, _, _, _, none⟩ :: _) _ _; refine SW.st (st_loadx hw rfl hc) rfl ?_))
        refine SW.st (st_loads rfl rfl hall) rfl ?_
        repeat' (first | (show CW _ _ _ _ _ _; first | refine CW.region ?_ | refine CW.condd_t rfl (by omega) ?_) | (show Post _ _ _ _ _; refine Post.seq ?_) | refine SW.nil ?_ | (show SW _ _ _ _ (⟨_, _, _, _, _, some _⟩ :: _) _ _; refine SW.want_t rfl rfl (by with_reducible rfl) ?_) | refine SW.pure rfl rfl ?_ | (show SW _ _ _ _ (⟨_, Op.fieldAddr _ _ _, _, _, _, none⟩ :: _) _ _; refine SW.st (st_field rfl) rfl ?_) | (show SW _ _ _ _ (⟨_, Op.indexAddr _ _ _, _, _, _, none⟩ :: _) _ _; refine SW.st (st_indexI (init.length) rfl rfl (by assumption) (by omega) (by omega)) rfl ?_) | (show SW _ _ _ _ (⟨_, Op.call ⟨.value (.func _), _, _⟩, _, _, _, none⟩ :: _) _ _; (refine SW.call rfl rfl (end_ok hrok _) ?_; intro v w1 hw1 hv; subst hv; replace hw := Ext.trans hw hw1; replace hO := hO.ext hw1; clear hw1)))
        have hall := hO.sl.all (i := init.length) (by omega)
        rw [hget] at hall
        refine SW.st (st_load rfl (hall 1 (.int .i64 r.Size) rfl)) rfl ?_
        repeat' (first | (show SW _ _ _ _ (⟨_, Op.fieldAddr _ _ _, _, _, _, none⟩ :: _) _ _; refine SW.st (st_field rfl) rfl ?_) | (show SW _ _ _ _ (⟨_, Op.binOp _ _ _ _ _, _, _, _, none⟩ :: _) _ _; refine SW.st (st_add rfl rfl (by omega) (by omega)) rfl ?_) | (show SW _ _ _ _ (⟨_, Op.indexAddr _ _ _, _, _, _, none⟩ :: _) _ _; refine SW.st (st_indexI (init.length) rfl rfl (by assumption) (by omega) (by omega)) rfl ?_))
        refine SW.storeO init.length 1 ⟨r.From, r.Size + 1⟩ hO rfl rfl rfl (by omega) (by omega) rfl (by rw [hget]; rfl) fun w2 hO2 hg => ?_
        replace hw := ext_grown hw hg (Nat.le_refl _) hO.row_ge
        repeat' (first | (show CW _ _ _ _ _ _; refine CW.region ?_) | (show Post _ _ _ _ _; first | refine Post.seq ?_ | refine Post.blk ?_) | refine SW.nil ?_ | refine SW.pure rfl rfl ?_ | (show SW _ _ _ _ (⟨_, Op.binOp _ _ _ _ _, _, _, _, none⟩ :: _) _ _; refine SW.st (st_add rfl rfl (by omega) (by omega)) rfl ?_))
        refine Post.again (k + 1, A1, c1) ⟨by simp only [e]; simp [get]; rfl, rfl, rfl, rfl, trivial⟩ (by simp only; omega) ⟨by simp only; omega, hw, ?_⟩
        simp only [e]
        rw [hsh] at hO2
        simpa using hO2
      · have e : runs p (k + 1) = runs p k ++ [⟨(k : Int), 1⟩] := by
          simp only [runs, hbk, if_true]
          rw [if_neg hq]
        have hbl : ∀ r ∈ runs p k, r.From + r.Size < (k : Int) := hok.below fun h0 => by
          cases hh : p (k - 1) with
          | false => rfl
          | true => exact absurd ⟨h0, hh⟩ hq
        have hA1 := hO.sl.base
        rcases List.eq_nil_or_concat (runs p k) with hn | ⟨init, r, hr⟩
        · rw [hn] at hO hlen e ⊢
          simp only [List.length_nil]
          repeat' (first | (show CW _ _ _ _ _ _; first | refine CW.seq ?_ | refine CW.region ?_ | refine CW.block ?_ | refine CW.condfr rfl (by with_reducible rfl) ?_ | refine CW.condd_t rfl (by omega) ?_ | refine CW.condf rfl ?_ | refine CW.skip ?_) | (show Post _ _ _ _ _; refine Post.seq ?_) | refine SW.nil ?_ | (show SW _ _ _ _ (⟨_, _, _, _, _, some _⟩ :: _) _ _; first | refine SW.skip_t rfl rfl (by with_reducible rfl) rfl ?_ | refine SW.splitd_f rfl rfl rfl (by omega) ?_) | refine SW.pure rfl rfl ?_ | (show SW _ _ _ _ (⟨_, Op.build _ _, _, _, _, none⟩ :: _) _ _; refine SW.st (st_build rfl rfl) rfl ?_) | (show SW _ _ _ _ (⟨_, Op.binOp _ _ _ _ _, _, _, _, none⟩ :: _) _ _; refine SW.st (st_sub rfl rfl (by omega) (by omega)) rfl ?_) | (show SW _ _ _ _ (⟨_, Op.indexAddr _ _ _, _, _, _, none⟩ :: _) _ _; refine SW.st (st_indexN rfl rfl (by assumption) (by omega)) rfl ?_) | (show SW _ _ _ _ (⟨_, Op.call ⟨.builtin .len, _, _⟩, _, _, _, none⟩ :: _) _ _; refine SW.st (st_len rfl) rfl ?_) | (show SW _ _ _ _ (⟨_, Op.load _ _, _, _, _, none⟩ :: _) _ _; refine SW.st (st_loadx hw rfl hc) rfl ?_))
          refine SW.build1 rfl rfl rfl rfl rfl fun b w1 hw1 hb hB => ?_
          replace hw := Ext.trans hw hw1
          replace hO := hO.ext hw1
          refine SW.append hO (Blk.slR (r := ⟨(k : Int), 1⟩) hB rfl) hw.size rfl rfl rfl (by simp) (by simp) fun A2 c2 w2 hO1 hg => ?_
          replace hw := ext_grown hw hg (Nat.le_refl _) hO.row_ge
          repeat' (first | (show CW _ _ _ _ _ _; refine CW.region ?_) | (show Post _ _ _ _ _; first | refine Post.seq ?_ | refine Post.blk ?_) | refine SW.nil ?_ | refine SW.pure rfl rfl ?_ | (show SW _ _ _ _ (⟨_, Op.binOp _ _ _ _ _, _, _, _, none⟩ :: _) _ _; refine SW.st (st_add rfl rfl (by omega) (by omega)) rfl ?_))
          refine Post.again (k + 1, A2, c2) ⟨by simp only [e]; rfl, rfl, rfl, rfl, trivial⟩ (by simp only; omega) ⟨by simp only; omega, hw, ?_⟩
          simp only [e]
          exact hO1
        · have hr' : runs p k = init ++ [r] := by simpa using hr
          have hrr := hok.rng r (by rw [hr']; simp)
          have hrok : r.ok := ⟨hrr.1, hrr.2.1, by omega, by omega⟩
          have hrl := hbl r (by rw [hr']; simp)
          rw [hr'] at hO hlen e ⊢
          have hil : (init ++ [r]).length = init.length + 1 := by simp
          rw [hil] at hO hlen
          rw [hil]
          have hA1 := hO.sl.base
          have hget : (init ++ [r])[init.length]'(by simp) = r := by simp
          have hall := hO.sl.all (i := init.length) (by omega)
          rw [hget] at hall
          repeat' (first | (show CW _ _ _ _ _ _; first | refine CW.seq ?_ | refine CW.region ?_ | refine CW.block ?_ | refine CW.condd_t rfl (by omega) ?_ | refine CW.condf rfl ?_ | refine CW.skip ?_) | (show Post _ _ _ _ _; refine Post.seq ?_) | refine SW.nil ?_ | (show SW _ _ _ _ (⟨_, _, _, _, _, some _⟩ :: _) _ _; first | refine SW.want_t rfl rfl (by with_reducible rfl) ?_ | refine SW.splitd_t rfl rfl rfl (by omega) ?_) | refine SW.pure rfl rfl ?_ | (show SW _ _ _ _ (⟨_, Op.binOp _ _ _ _ _, _, _, _, none⟩ :: _) _ _; refine SW.st (st_sub rfl rfl (by omega) (by omega)) rfl ?_) | (show SW _ _ _ _ (⟨_, Op.indexAddr _ _ _, _, _, _, none⟩ :: _) _ _; first | refine SW.st (st_indexN rfl rfl (by assumption) (by omega)) rfl ?_ | refine SW.st (st_indexI (init.length) rfl rfl (by assumption) (by omega) (by omega)) rfl ?_) | (show SW _ _ _ _ (⟨_, Op.call ⟨.builtin .len, _, _⟩, _, _, _, none⟩ :: _) _ _; refine SW.st (st_len rfl) rfl ?_) | (show SW _ _ _ _ (⟨_, Op.load _ _, _, _, _, none⟩ :: _) _ _; refine SW.st (st_loadx hw rfl hc) rfl ?_))
          refine SW.st (st_loads rfl rfl hall) rfl ?_
          repeat' (first | (show CW _ _ _ _ _ _; first | refine CW.region ?_ | refine CW.condd_f rfl (by omega) ?_) | (show Post _ _ _ _ _; refine Post.seq ?_) | refine SW.nil ?_ | (show SW _ _ _ _ (⟨_, _, _, _, _, some _⟩ :: _) _ _; refine SW.want_t rfl rfl (by with_reducible rfl) ?_) | refine SW.pure rfl rfl ?_ | (show SW _ _ _ _ (⟨_, Op.build _ _, _, _, _, none⟩ :: _) _ _; refine SW.st (st_build rfl rfl) rfl ?_) | (show SW _ _ _ _ (⟨_, Op.call ⟨.value (.func _), _, _⟩, _, _, _, none⟩ :: _) _ _; (refine SW.call rfl rfl (end_ok hrok _) ?_; intro v w1 hw1 hv; subst hv; replace hw := Ext.trans hw hw1; replace hO := hO.ext hw1; clear hw1)))
          refine SW.build1 rfl rfl rfl rfl rfl fun b w1 hw1 hb hB => ?_
          replace hw := Ext.trans hw hw1
          replace hO := hO.ext hw1
          refine SW.append hO (Blk.slR (r := ⟨(k : Int), 1⟩) hB rfl) hw.size rfl rfl rfl (by omega) (by omega) fun A2 c2 w2 hO1 hg => ?_
          replace hw := ext_grown hw hg (Nat.le_refl _) hO.row_ge
          repeat' (first | (show CW _ _ _ _ _ _; refine CW.region ?_) | (show Post _ _ _ _ _; first | refine Post.seq ?_ | refine Post.blk ?_) | refine SW.nil ?_ | refine SW.pure rfl rfl ?_ | (show SW _ _ _ _ (⟨_, Op.binOp _ _ _ _ _, _, _, _, none⟩ :: _) _ _; refine SW.st (st_add rfl rfl (by omega) (by omega)) rfl ?_))
          refine Post.again (k + 1, A2, c2) ⟨by simp only [e]; simp [get]; rfl, rfl, rfl, rfl, trivial⟩ (by simp only; omega) ⟨by simp only; omega, hw, ?_⟩
          simp only [e]
          simpa using hO1
  · repeat' (first | (show CW _ _ _ _ _ _; first | refine CW.seq ?_ | refine CW.region ?_ | refine CW.condd_f rfl (by omega) ?_ | refine CW.ret ?_ | refine CW.exit ?_) | (show Post _ _ _ _ _; first | refine Post.seq ?_ | refine Post.seq_exit ?_ | refine Post.hit ?_ | refine Post.again_exit ?_) | refine SW.nil ?_ | refine SW.pure rfl rfl ?_)
    obtain rfl : k = N := by omega
    exact Post.ret1 rfl rfl ⟨_, rfl, hw, A1, c1, rfl, hO⟩
end Go.Proofs.Ytfdmgflboibdoaa
