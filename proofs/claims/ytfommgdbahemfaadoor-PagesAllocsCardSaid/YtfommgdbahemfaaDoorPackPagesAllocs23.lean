/-
  Texts of the claim PagesAllocs, part 23: what its theorem leans on.
-/
import Derived.Test.YtfommgdbahemfaaDoorPackPagesAllocs22
import Derived.Test.YtfommgdbahemfaaDoorPackPagesAllocs18
import Derived.Test.YtfommgdbahemfaaDoorPackPagesAllocs19
set_option linter.unusedVariables false
set_option linter.unusedSimpArgs false
namespace Go.Proofs.YtfommgdbahemfaaDoor
open Go.RowKit
structure NotI (k : HK) (p : HP) (o : Option Nat) : Prop where
 m : ∀ g, o = some g → ob k.m ≠ some g
 t0 : ∀ g, o = some g → ob p.u0.Types ≠ some g
 t1 : ∀ g, o = some g → ob p.u1.Types ≠ some g
 pg : ∀ g, o = some g → ∀ y ∈ p.ls, ob y.Pages ≠ some g
theorem NotI.nil (k : HK) (p : HP) : NotI k p none := ⟨fun g e => (by cases e), fun g e => (by cases e), fun g e => (by cases e), fun g e => (by cases e)⟩
theorem RQ.fresh {wb w : World} {k : HK} {p : HP} {s : Zone × Zone} {L : List PList} {o : Option Nat} (Q : RQ wb w k p s L) (h : ∀ g, o = some g → w.heap.size ≤ g) : NotI k p o := by
 refine ⟨fun g e e2 => ?_, fun g e e2 => ?_, fun g e e2 => ?_, fun g e y hy e2 => ?_⟩
 ·have := h g e; have := Q.mins.lt_size g e2; omega
 ·have := h g e; have := Q.zs.z0.types.lt_size g e2; omega
 ·have := h g e; have := Q.zs.z1.types.lt_size g e2; omega
 ·obtain ⟨j, hj, rfl⟩ := List.getElem_of_mem hy
  have := h g e
  have := (Q.ls.each.get j hj (by rw [← Q.ls.each.len]; exact hj)).pages.lt_size g e2
  omega
theorem NotI.either {k : HK} {p : HP} {o o' : Option Nat} (h : NotI k p o) (h' : ∀ g, o' = some g → o = some g ∨ NotI k p (some g)) : NotI k p o' := by
 refine ⟨fun g e => ?_, fun g e => ?_, fun g e => ?_, fun g e => ?_⟩
 ·rcases h' g e with h1 | h1
  ·exact h.m g h1
  ·exact h1.m g rfl
 ·rcases h' g e with h1 | h1
  ·exact h.t0 g h1
  ·exact h1.t0 g rfl
 ·rcases h' g e with h1 | h1
  ·exact h.t1 g h1
  ·exact h1.t1 g rfl
 ·rcases h' g e with h1 | h1
  ·exact h.pg g h1
  ·exact h1.pg g rfl
theorem NotI.putU {k : HK} {p : HP} {o : Option Nat} {n zi : Nat} {u : ZRow} (h : NotI k p o) (hlt : ∀ g, o = some g → g < n) (hu : ∀ g, ownB u.Types.A u.Types.c = some g → n ≤ g) : NotI k (putU p zi u) o := by
 have hn : ∀ g, o = some g → ob u.Types ≠ some g := fun g e e2 => by have := hlt g e; have := hu g e2; omega
 unfold Proofs.YtfommgdbahemfaaDoor.putU
 split
 ·exact ⟨h.m, hn, h.t1, h.pg⟩
 ·exact ⟨h.m, h.t0, hn, h.pg⟩
theorem RQ.atInt {wb w w' : World} {k : HK} {p : HP} {s : Zone × Zone} {L : List PList} {o : Option Nat} (Q : RQ wb w k p s L) (hg : w.grownBy w' o) (hG : GrT w w' 3) (hn : NotI k p o) (hb : ∀ g, o = some g → wb.heap.size ≤ g) : RQ wb w' k p s L := by
 refine ⟨Q.zs.atPages hg hG (fun g e u hu => ?_), Q.mins.apart hg (fun g e e2 => hn.m g e2 e), Q.live.grT hG rfl, ⟨Q.ls.row.grT hG rfl, ⟨Q.ls.each.len, fun j h1 h2 => ?_⟩⟩, ext_grown Q.base hg (Nat.le_refl _) hb⟩
 ·simp only [List.mem_cons, List.not_mem_nil, or_false] at hu
  rcases hu with rfl | rfl
  ·exact hn.t0 g e
  ·exact hn.t1 g e
 ·have hj := Q.ls.each.get j h1 h2
  exact ⟨hj.cpu, hj.zone, hj.ty, hj.pages.apart hg (fun g e e2 => hn.pg g e2 _ (List.getElem_mem h1) e)⟩
theorem Sl.allAt {α : Type} {w : World} {sz : Nat} {enc : α → List Value} {A : Option Addr} {n : Nat} {l : List α} (h : Sl w sz enc A n l) {i : Nat} {x : α} (hi : i < l.length) (hx : l[i] = x) : ∀ (j : Nat) (v : Value), (enc x)[j]? = some v → w.cell? (((A.getD default).add (i * sz)).add j) = some v := fun j v hj => by
 subst hx
 exact h.cell i hi j v hj
def tqV : Option ((Zone × Zone) × List PList × Int) → Int
 | Option.none => -1
 | some q => q.2.2
set_option maxHeartbeats 16000000 in
theorem tried_ans (k : HK) (p : HP) (s : Zone × Zone) (L : List PList) (m0 m1 cpu : Int) (zi : Nat) (o t f : Int) (wb w : World) (Q : RQ wb w k p s L) (hM : MinOk k.M m0 m1) (hv : VS s) (hs : LsS L) (hpg : ∀ l ∈ L, 1 ≤ l.Pages.length ∧ l.Pages.length ≤ 8) (hcnt : L.length ≤ 256) (hzi : zi < 2) (ho : 0 ≤ o ∧ o ≤ 4) (hf : 0 ≤ f ∧ f ≤ 15) :
  AnsX Tryd.prog 51 [.agg (encH (k.h p)).toArray, .int .i64 cpu, .int .i64 (zi : Int), .int .i64 o, .int .i64 t, .int .i64 f] w fun v w' => ∃ q, TryR m0 m1 cpu zi o t f s L q ∧ ∃ p', v = .tuple #[.agg (encH (k.h p')).toArray, .int .i64 (tqV q)] ∧ RQ wb w' k p' (trS s q) (trL L q) ∧ G2 w w' k.g k.g := by
 refine ansx_of Tryd.func51 rfl Tryd.ntmps51 rfl ?_
 refine CW.seq (CW.region (SW.box rfl rfl fun b6 w1 hw hb6b hb6 => ?_))
 refine SW.alloc rfl fun b12 w2 hw2 hb12b hb12 => ?_
 have hb6w : w.heap.size ≤ b6 := hb6b
 have hb12w : w.heap.size ≤ b12 := Nat.le_trans hw.size hb12b
 have hne : b6 ≠ b12 := by have := hb6.lt; omega
 replace hb12 : Blk w2 b12 35 (encH .zero) := hb12
 (replace hw := Ext.trans hw hw2; replace hb6 := hb6.ext hw2)
 have hwb := Q.base
 have Q0 := Q
 replace Q := Q.ext hw
 have hE := (G2.refl w k.g k.g).ext hw
 have hwbs : wb.heap.size ≤ w.heap.size := hwb.size
 obtain ⟨l1, l2⟩ := Q.ls.rd.len
 obtain ⟨uz, huz, hoz⟩ := Q.zone hv hzi
 have hzm := hv.zof (zi : Int)
 obtain ⟨z, hz⟩ : ∃ z, zof s (zi : Int) = z := ⟨_, rfl⟩
 rw [hz] at hoz hzm
 obtain ⟨q1, q2, q3, q4⟩ := may_fit hoz hzm
 have hA := Q.zs.row.sl.base
 have hpp : ∀ l ∈ L, l.Pages.length * 8 ≤ 140737488355328 := fun l hl => by have := hpg l hl; omega
 have cE : ∀ w' (b : Bool), decide (enoughP m0 m1 s zi o f) = b → RQ wb w' k p s L → Ans Tryd.prog 100 [.agg (encH (k.h p)).toArray, .int .i64 (zi : Int), .int .i64 o, .int .i64 f] w' fun v _ => v = .bool b := fun w' b hb hq => by
  have := enough_ans k p s L m0 m1 zi o f wb w' hq hM hv hzi ho hf
  rwa [hb] at this
 rcases (show (o = 0 ∧ khere L ⟨cpu, (zi : Int), t, []⟩ = true) ∨ ((o = 0 ∧ khere L ⟨cpu, (zi : Int), t, []⟩ = false) ∨ 0 < o) by
  cases e : khere L ⟨cpu, (zi : Int), t, []⟩
  ·by_cases h0 : o = 0
   ·exact .inr (.inl ⟨h0, rfl⟩)
   ·exact .inr (.inr (by omega))
  ·by_cases h0 : o = 0
   ·exact .inl ⟨h0, rfl⟩
   ·exact .inr (.inr (by omega))) with ⟨ho0, hkh⟩ | hcase
 ·obtain ⟨hkl, hkey⟩ := khere_t hkh
  have h18 := hpg _ (List.getElem_mem hkl)
  have epg := pagesAt_t hkh hkl
  obtain ⟨pgs, hpgs⟩ : ∃ pgs, pagesAt L ⟨cpu, (zi : Int), t, []⟩ = pgs := ⟨_, rfl⟩
  rw [← epg, hpgs] at h18
  clear epg hkey
  repeat' (first | (show CW _ _ _ _ _ _; first | refine CW.seq ?_ | refine CW.region ?_ | refine CW.condd_t rfl (by omega) ?_) | (show Post _ _ _ _ _; refine Post.seq ?_) | refine SW.nil ?_ | refine SW.pure rfl rfl ?_ | (show SW _ _ _ _ (⟨_, Op.load _ _, _, _, _, none⟩ :: _) _ _; refine SW.st (st_loads rfl rfl ((fun _ _ => hb6.cell))) rfl ?_))
  refine SW.call rfl rfl (listOf_ans (k.h p) L p.ls ⟨cpu, (zi : Int), t, []⟩ _ Q.ls.rd hs (by simp only; omega) hpp) fun v w4 hXX hv => ?_
  obtain ⟨A, c, rfl, hP⟩ := hv
  rw [hpgs] at hP
  replace hP := hP.low (Q.low)
  simp only [hpgs]
  (replace hw := Ext.trans hw hXX; replace hb6 := hb6.ext hXX; replace hb12 := hb12.ext hXX; replace Q := Q.ext hXX; replace hE := hE.ext hXX)
  have hpn : pgs ≠ [] := fun e => by rw [e] at h18; simp at h18
  have hlast : pgs.length - 1 < pgs.length := by omega
  have hgl := getLast_at hpn hlast rfl
  obtain ⟨a, ha⟩ : ∃ a, pgs.getLast hpn = a := ⟨_, rfl⟩
  rw [ha] at hgl
  have hTry : TryR m0 m1 cpu zi o t f s L (some (s, popL L ⟨cpu, (zi : Int), t, []⟩ pgs, a)) := by
   have := TryR.list (m0 := m0) (m1 := m1) (fl := f) (s := s) ho0 hkh (by rw [hpgs]; exact hpn)
   simp only [hpgs, ha] at this
   exact this
  have hPle := hP.le
  have hA0 := hP.sl.base
  have hpre := hP.pre (i := pgs.length - 1) (by omega)
  rw [← List.dropLast_eq_take] at hpre
  repeat' (first | (show CW _ _ _ _ _ _; first | refine CW.seq ?_ | refine CW.region ?_ | refine CW.condd_t rfl (by omega) ?_) | (show Post _ _ _ _ _; refine Post.seq ?_) | refine SW.nil ?_ | refine SW.pure rfl rfl ?_ | (show SW _ _ _ _ (⟨_, Op.call ⟨.builtin .len, _, _⟩, _, _, _, none⟩ :: _) _ _; refine SW.st (st_len rfl) rfl ?_))
  refine CW.anyF 16 17 (fun w2 => Own w2 wb.heap.size 3 1 encI A pgs.length c pgs) mixed (by kernel_rfl) fun w1 hw1 hRB => ?_
  replace hw := Ext.trans hw hw1; replace hb6 := hb6.ext hw1; replace hb12 := hb12.ext hw1; replace Q := Q.ext hw1; replace hE := hE.ext hw1; replace hP := hP.ext hw1; replace hpre := hpre.ext hw1; clear hw1
  refine SF.take 0 [] [] hRB rfl (by kernel_rfl) (by kernel_rfl) (by kernel_rfl) ?_
  repeat ((show SW _ _ _ _ (⟨_, Op.load _ _, _, _, _, none⟩ :: _) _ _; refine SW.st (st_loads rfl rfl ((fun _ _ => hb6.cell))) rfl ?_))
  refine SW.tknil ?_
  refine SF.take 1 [] [] hRB rfl (by kernel_rfl) (by kernel_rfl) (by kernel_rfl) ?_
  repeat (refine SW.pure rfl rfl ?_)
  refine SW.tknil ?_
  refine SF.take 2 [] [] hRB rfl (by kernel_rfl) (by kernel_rfl) (by kernel_rfl) ?_
  repeat (refine SW.pure rfl rfl ?_)
  refine SW.tknil ?_
  refine SF.take 3 [] [] hRB rfl (by kernel_rfl) (by kernel_rfl) (by kernel_rfl) ?_
  repeat (refine SW.pure rfl rfl ?_)
  refine SW.tknil ?_
  refine SF.take 4 [] [] hRB rfl (by kernel_rfl) (by kernel_rfl) (by kernel_rfl) ?_
  repeat (refine SW.pure rfl rfl ?_)
  refine SW.tknil ?_
  refine SF.take 5 [] [] hRB rfl (by kernel_rfl) (by kernel_rfl) (by kernel_rfl) ?_
  repeat (refine SW.pure rfl rfl ?_)
  refine SW.tknil ?_
  refine SF.take 6 [] [] hRB rfl (by kernel_rfl) (by kernel_rfl) (by kernel_rfl) ?_
  repeat ((show SW _ _ _ _ (⟨_, Op.call ⟨.builtin .len, _, _⟩, _, _, _, none⟩ :: _) _ _; refine SW.st (st_len rfl) rfl ?_))
  refine SW.tknil ?_
  refine SF.take 7 [] [] hRB rfl (by kernel_rfl) (by kernel_rfl) (by kernel_rfl) ?_
  repeat ((show SW _ _ _ _ (⟨_, Op.binOp _ _ _ _ _, _, _, _, none⟩ :: _) _ _; refine SW.st (st_sub rfl rfl (by omega) (by omega)) rfl ?_))
  refine SW.tknil ?_
  refine SF.take 8 [] [] hRB rfl (by kernel_rfl) (by kernel_rfl) (by kernel_rfl) ?_
  repeat ((refine SW.st (st_sliceHi (k := pgs.length - 1) rfl (congrArg (fun z => some (Value.int .i64 z)) (by omega)) (by omega)) rfl ?_))
  refine SW.tknil ?_
  refine SF.take2 10 [] hRB rfl (by kernel_rfl) (by kernel_rfl) (by kernel_rfl) (pureV_st rfl) (fun w2 hS => pureV_st rfl) rfl ?_
  refine SF.take2 11 [] hRB rfl (by kernel_rfl) (by kernel_rfl) (by kernel_rfl) (pureV_st rfl) (fun w2 hS => pureV_st rfl) rfl ?_
  refine SF.take2 12 [] hRB rfl (by kernel_rfl) (by kernel_rfl) (by kernel_rfl) (st_len rfl) (fun w2 hS => st_len rfl) rfl ?_
  refine SF.take2 13 [] hRB rfl (by kernel_rfl) (by kernel_rfl) (by kernel_rfl) (st_sub rfl rfl (by omega) (by omega)) (fun w2 hS => st_sub rfl rfl (by omega) (by omega)) rfl ?_
  refine SF.take2 14 [] hRB rfl (by kernel_rfl) (by kernel_rfl) (by kernel_rfl) (st_indexI (pgs.length - 1) rfl rfl (by assumption) (by omega) (by omega)) (fun w2 hS => st_indexI (pgs.length - 1) rfl rfl (by assumption) (by omega) (by omega)) rfl ?_
  refine SF.take2 15 [] hRB rfl (by kernel_rfl) (by kernel_rfl) (by kernel_rfl) (st_load rfl (hP.sl.one hlast (congrArg encI hgl.symm))) (fun w2 hS => st_load rfl (hS.sl.one hlast (congrArg encI hgl.symm))) rfl ?_
  refine SF.one 9 rfl (by kernel_rfl) rfl ?_
  refine SW.call rfl rfl (setList2_ans (k.h p) L p.ls (withPg ⟨cpu, (zi : Int), t, []⟩ pgs.dropLast) ⟨cpu, (zi : Int), t, ⟨A, pgs.length - 1, c⟩⟩ wb.heap.size _ Q.ls ⟨rfl, rfl, rfl, hpre⟩ hs Q.low (by simp only; omega)) fun v w5 hXX hv => ?_
  obtain ⟨sl, R, rfl, hL'⟩ := hv
  (replace hw := Ext.trans hw hXX; replace hb6 := hb6.ext hXX; replace hb12 := hb12.ext hXX; replace Q := Q.ext hXX; replace hE := hE.ext hXX; replace hP := hP.ext hXX)
  refine SW.nil (Post.sf hXX ?_)
  refine SF.turn rfl (by kernel_rfl) rfl ?_
  refine SW.storeAgg hb12 rfl rfl rfl rfl (one_h ⟨⟨some ⟨k.g, 0, none⟩, 2, k.c⟩, k.m, k.cp, sl, k.lv⟩) fun w6 hR2 hg => ?_
  have hG := hb12.gr hg
  have Q6 := Q.own hg (Nat.le_trans hwbs hb12w) hG rfl
  have hE6 := hE.new hg hb12w
  rw [putL_pop hs hkh] at hL'
  have hL6 := hL'.grT hG rfl
  have hS := hP.grT hG rfl
  refine SW.nil (Post.sg hS ?_)
  refine SG.last rfl (by kernel_rfl) (by kernel_rfl) ?_
  repeat' (first | (show CW _ _ _ _ _ _; refine CW.ret ?_) | (show Post _ _ _ _ _; first | refine Post.seq ?_ | refine Post.seq_ret ?_ | refine Post.np ?_) | refine SW.nil ?_ | refine SW.pure rfl rfl ?_)
  exact Post.ret2c rfl rfl rfl hR2 rfl ⟨_, rfl, _, hTry, ⟨p.u0, p.u1, sl, R⟩, rfl, ⟨Q6.zs, Q6.mins, Q6.live, hL6, Q6.base⟩, hE6⟩
 ·have hno : ¬ (o = 0 ∧ khere L ⟨cpu, (zi : Int), t, []⟩ = true) := fun h => by
   rcases hcase with h1 | h1
   ·rw [h.2] at h1; cases h1.2
   ·omega
  have hcase0 := hcase
  by_cases he : enoughP m0 m1 s zi o f
  ·have cE' := fun w' => cE w' true (decide_eq_true he)
   rcases hcase with hcase | hcase
   focus
    obtain ⟨ho0, hkh⟩ := hcase
    have epg := pagesAt_f hkh
    repeat' (first | (show CW _ _ _ _ _ _; first | refine CW.seq ?_ | refine CW.region ?_ | refine CW.condd_t rfl (by omega) ?_) | (show Post _ _ _ _ _; refine Post.seq ?_) | refine SW.nil ?_ | refine SW.pure rfl rfl ?_ | (show SW _ _ _ _ (⟨_, Op.load _ _, _, _, _, none⟩ :: _) _ _; refine SW.st (st_loads rfl rfl ((fun _ _ => hb6.cell))) rfl ?_))
    refine SW.call rfl rfl (listOf_ans (k.h p) L p.ls ⟨cpu, (zi : Int), t, []⟩ _ Q.ls.rd hs (by simp only; omega) hpp) fun v w4 hXX hv => ?_
    obtain ⟨A, c, rfl, hP⟩ := hv
    rw [epg] at hP
    simp only [epg, List.length_nil]
    clear hP
    (replace hw := Ext.trans hw hXX; replace hb6 := hb6.ext hXX; replace hb12 := hb12.ext hXX; replace Q := Q.ext hXX; replace hE := hE.ext hXX; replace hoz := hoz.ext hXX)
   all_goals
    repeat' (first | (show CW _ _ _ _ _ _; first | refine CW.seq ?_ | refine CW.region ?_ | refine CW.condd_f rfl (by omega) ?_ | refine CW.condf rfl ?_ | refine CW.skip ?_) | (show Post _ _ _ _ _; refine Post.seq ?_) | refine SW.nil ?_ | refine SW.pure rfl rfl ?_ | (show SW _ _ _ _ (⟨_, Op.fieldAddr _ _ _, _, _, _, none⟩ :: _) _ _; refine SW.st (st_field rfl) rfl ?_) | (show SW _ _ _ _ (⟨_, Op.indexAddr _ _ _, _, _, _, none⟩ :: _) _ _; refine SW.st (st_indexN rfl rfl (by assumption) (by omega)) rfl ?_) | (show SW _ _ _ _ (⟨_, Op.call ⟨.builtin .len, _, _⟩, _, _, _, none⟩ :: _) _ _; refine SW.st (st_len rfl) rfl ?_) | (show SW _ _ _ _ (⟨_, Op.load _ _, _, _, _, none⟩ :: _) _ _; first | refine SW.st (st_loads rfl rfl ((fun _ _ => hb6.cell))) rfl ?_ | refine SW.st (st_load rfl (hb6.cell (i := 0) (v := .slice (some ⟨k.g, 0, none⟩) 2 k.c) rfl)) rfl ?_ | refine SW.st (st_loads rfl rfl ((Q.zs.row.sl.allAt hzi huz))) rfl ?_) | (show SW _ _ _ _ (⟨_, Op.call ⟨.value (.func _), _, _⟩, _, _, _, none⟩ :: _) _ _; (refine SW.call rfl rfl (cE' _ Q) ?_; intro v w1 hw1 hv; subst hv; replace hw := Ext.trans hw hw1; replace hb6 := hb6.ext hw1; replace hb12 := hb12.ext hw1; replace Q := Q.ext hw1; replace hE := hE.ext hw1; replace hoz := hoz.ext hw1; clear hw1)))
    refine SW.call rfl rfl (TakenOf_ans uz z o t _ hoz.rd q1 q2 ⟨by omega, by omega⟩ ⟨by omega, by omega⟩) fun v w4 hXX hv' => ?_
    obtain ⟨u, hT, r', rfl, hOz⟩ := hv'
    replace hOz := hOz.low Q.low
    (replace hw := Ext.trans hw hXX; replace hb6 := hb6.ext hXX; replace hb12 := hb12.ext hXX; replace Q := Q.ext hXX; replace hE := hE.ext hXX)
    repeat' (refine SW.pure rfl rfl ?_)
    refine SW.alloc rfl fun b15 w1 hw1 hb15b hb15 => ?_
    skip
    refine SW.storeAgg hb15 rfl rfl rfl rfl (one_z r') fun w2 hb15' hg => ?_
    have hXX := hw1.own hb15b hg
    have hb15w : w.heap.size ≤ b15 := Nat.le_trans hw.size hb15b
    replace hw := Ext.trans hw hXX
    replace hb6 := hb6.ext hXX
    replace hb12 := hb12.ext hXX
    replace Q := Q.ext hXX
    replace hE := hE.ext hXX
    replace hOz := hOz.ext hXX
    replace hb15 := hb15'
    clear hb15' hw1 hg hXX
    rw [← hz] at hT
    refine Classical.byCases (p := ¬ u.2.2 = 0) (fun hu => ?_) (fun hu => ?_)
    focus
     repeat' (first | (show CW _ _ _ _ _ _; first | refine CW.seq ?_ | refine CW.region ?_ | refine CW.condn_t rfl (by omega) ?_) | (show Post _ _ _ _ _; refine Post.seq ?_) | refine SW.nil ?_ | refine SW.pure rfl rfl ?_ | (show SW _ _ _ _ (⟨_, Op.load _ _, _, _, _, none⟩ :: _) _ _; refine SW.st (st_loads rfl rfl ((fun _ _ => hb6.cell))) rfl ?_))
     refine SW.storeAgg hb12 rfl rfl rfl rfl (one_h (k.h p)) fun w6 hR2 hg => ?_
     have hG := hb12.gr hg
     have Q6 := Q.own hg (Nat.le_trans hwbs hb12w) hG rfl
     have hE6 := hE.new hg hb12w
     repeat' (first | (show CW _ _ _ _ _ _; refine CW.ret ?_) | (show Post _ _ _ _ _; first | refine Post.seq ?_ | refine Post.seq_ret ?_) | refine SW.nil ?_ | refine SW.pure rfl rfl ?_)
     exact Post.ret2c rfl rfl rfl hR2 rfl ⟨_, rfl, _, .none hno he hT hu, p, rfl, Q6, hE6⟩
    replace hu := Classical.not_not.1 hu
    repeat' (first | (show CW _ _ _ _ _ _; first | refine CW.seq ?_ | refine CW.region ?_ | refine CW.condn_f rfl (by omega) ?_ | refine CW.skip ?_) | (show Post _ _ _ _ _; refine Post.seq ?_) | refine SW.nil ?_ | refine SW.pure rfl rfl ?_ | (show SW _ _ _ _ (⟨_, Op.fieldAddr _ _ _, _, _, _, none⟩ :: _) _ _; refine SW.st (st_field rfl) rfl ?_) | (show SW _ _ _ _ (⟨_, Op.indexAddr _ _ _, _, _, _, none⟩ :: _) _ _; refine SW.st (st_indexN rfl rfl (by assumption) (by omega)) rfl ?_) | (show SW _ _ _ _ (⟨_, Op.load _ _, _, _, _, none⟩ :: _) _ _; first | refine SW.st (st_load rfl (hb6.cell (i := 0) (v := .slice (some ⟨k.g, 0, none⟩) 2 k.c) rfl)) rfl ?_ | refine SW.st (st_loads rfl rfl ((fun _ _ => hb15.cell))) rfl ?_))
    refine SW.storeElem (enc := encZ) zi r' Q.zs.row rfl rfl hzi fun w5 hO5 hg => ?_
    rw [Q.zs.own] at hg
    have hG := Q.zs.gr hg
    have Q5 := Q.setZ hzi hO5 hg hOz
    replace hE := hE.at_g hg
    (replace hb6 := hb6.grT hG rfl; replace hb12 := hb12.grT hG rfl)
    have hv5 : VS (zset s (zi : Int) u.1) := hv.set_ (hT.keep hu).1
    clear Q hw hO5 hOz hoz hG hg
    have hw := Ext.refl w5
   ·obtain ⟨a, ha⟩ : ∃ a, u.2.1 = a := ⟨_, rfl⟩
    have hFill : ∀ r, FillR m0 m1 zi t f (zset s (zi : Int) u.1) [] r → TryR m0 m1 cpu zi o t f s L (some (r.1, moreL L ⟨cpu, (zi : Int), t, []⟩ r.2, a)) := fun r hr => by
     rw [← ha]
     exact .fill ho0 hkh he hT hu hr
    obtain ⟨s5, hs5⟩ : ∃ s5, zset s (zi : Int) u.1 = s5 := ⟨_, rfl⟩
    obtain ⟨p5, hp5⟩ : ∃ p5, putU p zi r' = p5 := ⟨_, rfl⟩
    have e5 : p5.li = p.li ∧ p5.ls = p.ls := by rw [← hp5]; exact putU_li
    rw [hs5] at Q5 hv5 hFill
    rw [hp5] at Q5
    repeat' (first | (show CW _ _ _ _ _ _; first | refine CW.seq ?_ | refine CW.region ?_ | refine CW.block ?_ | refine CW.condd_f rfl (by omega) ?_ | refine CW.skip ?_) | (show Post _ _ _ _ _; refine Post.seq ?_) | refine SW.nil ?_ | refine SW.pure rfl rfl ?_)
    refine CW.loop (fun v : HP × (Zone × Zone) × List Int × Option Addr × Nat => [(1, .int .i64 cpu), (2, .int .i64 (zi : Int)), (4, .int .i64 t), (5, .int .i64 f), (6, .pointer (some ⟨b6, 0, none⟩)), (12, .pointer (some ⟨b12, 0, none⟩)), (16, .int .i64 a), (18, .slice v.2.2.2.1 v.2.2.1.length v.2.2.2.2)])
     (fun v w' => v.2.2.1.length ≤ 3 ∧ RQ wb w' k v.1 v.2.1 L ∧ v.1.li = p.li ∧ v.1.ls = p.ls ∧ VS v.2.1 ∧ Blk w' b6 35 (encH (k.h p)) ∧ Blk w' b12 35 (encH .zero) ∧ G2 w w' k.g k.g ∧ Own w' w.heap.size 3 1 encI v.2.2.2.1 v.2.2.1.length v.2.2.2.2 v.2.2.1 ∧ NotI k v.1 (ownB v.2.2.2.1 v.2.2.2.2) ∧ ∀ r, FillR m0 m1 zi t f v.2.1 v.2.2.1 r → FillR m0 m1 zi t f s5 [] r) (fun v => 3 - v.2.2.1.length) (p5, s5, [], none, 0)
     ⟨rfl, rfl, rfl, rfl, rfl, rfl, by rw [← ha]; rfl, rfl, trivial⟩ ⟨by simp, Q5, e5.1, e5.2, hv5, hb6, hb12, hE, Own.nil_ _ _ _ _ _ _, NotI.nil _ _, fun r h => h⟩ ?_
    clear hw hb6 hb12 hE Q5 hv5 hb15 hs5 hp5 e5 hT cE' cE hu
    rintro ⟨p6, s6, pg, A, c⟩ w' ⟨hl3, Q, e1, e2, hv6, hb6, hb12, hE, hP, hN, hcont⟩
    simp only at hl3 Q e1 e2 hv6 hP hN hcont ⊢
    have hw := Ext.refl w'
    have ekh : k.h p6 = k.h p := by simp only [HK.h, e1]
    obtain ⟨uz, huz, hoz⟩ := Q.zone hv6 hzi
    have hzm := hv6.zof (zi : Int)
    obtain ⟨z, hz⟩ : ∃ z, zof s6 (zi : Int) = z := ⟨_, rfl⟩
    rw [hz] at hoz hzm
    obtain ⟨q1, q2, q3, q4⟩ := may_fit hoz hzm
    have hA := Q.zs.row.sl.base
    have cE : ∀ w' (b : Bool), decide (enoughP m0 m1 s6 zi 0 f) = b → RQ wb w' k p6 s6 L → Ans Tryd.prog 100 [.agg (encH (k.h p)).toArray, .int .i64 (zi : Int), .int .i64 0, .int .i64 f] w' fun v _ => v = .bool b := fun w' b hb hq => by
     have := enough_ans k p6 s6 L m0 m1 zi 0 f wb w' hq hM hv6 hzi (by decide) hf
     rwa [hb, ekh] at this
    have hLs := Q.ls
    by_cases hlt : pg.length < 3
    ·by_cases he6 : enoughP m0 m1 s6 zi 0 f
     ·have cE' := fun w' => cE w' true (decide_eq_true he6)
      repeat' (first | (show CW _ _ _ _ _ _; first | refine CW.seq ?_ | refine CW.region ?_ | refine CW.block ?_ | refine CW.condtr rfl (by with_reducible rfl) ?_ | refine CW.skip ?_) | (show Post _ _ _ _ _; refine Post.seq ?_) | refine SW.nil ?_ | (show SW _ _ _ _ (⟨_, _, _, _, _, some _⟩ :: _) _ _; first | refine SW.want_t rfl rfl (by with_reducible rfl) ?_ | refine SW.splitd_t rfl rfl rfl (by omega) ?_) | refine SW.pure rfl rfl ?_ | (show SW _ _ _ _ (⟨_, Op.fieldAddr _ _ _, _, _, _, none⟩ :: _) _ _; refine SW.st (st_field rfl) rfl ?_) | (show SW _ _ _ _ (⟨_, Op.indexAddr _ _ _, _, _, _, none⟩ :: _) _ _; refine SW.st (st_indexN rfl rfl (by assumption) (by omega)) rfl ?_) | (show SW _ _ _ _ (⟨_, Op.call ⟨.builtin .len, _, _⟩, _, _, _, none⟩ :: _) _ _; refine SW.st (st_len rfl) rfl ?_) | (show SW _ _ _ _ (⟨_, Op.load _ _, _, _, _, none⟩ :: _) _ _; first | refine SW.st (st_loads rfl rfl ((fun _ _ => hb6.cell))) rfl ?_ | refine SW.st (st_load rfl (hb6.cell (i := 0) (v := .slice (some ⟨k.g, 0, none⟩) 2 k.c) rfl)) rfl ?_ | refine SW.st (st_loads rfl rfl ((Q.zs.row.sl.allAt hzi huz))) rfl ?_) | (show SW _ _ _ _ (⟨_, Op.call ⟨.value (.func _), _, _⟩, _, _, _, none⟩ :: _) _ _; (refine SW.call rfl rfl (cE' _ Q) ?_; intro v w1 hw1 hv; subst hv; replace hw := Ext.trans hw hw1; replace hb6 := hb6.ext hw1; replace hb12 := hb12.ext hw1; replace Q := Q.ext hw1; replace hE := hE.ext hw1; replace hoz := hoz.ext hw1; replace hP := hP.ext hw1; clear hw1)))
      have hlt4 := hP.lt_size
      refine SW.call rfl rfl (TakenOf_ans uz z 0 t _ hoz.rd q1 q2 ⟨by omega, by omega⟩ ⟨by omega, by omega⟩) fun v w4 hXX hv' => ?_
      obtain ⟨u, hT, r', rfl, hOz⟩ := hv'
      have hfr := hOz.types.row_ge
      replace hOz := hOz.low Q.low
      (replace hw := Ext.trans hw hXX; replace hb6 := hb6.ext hXX; replace hb12 := hb12.ext hXX; replace Q := Q.ext hXX; replace hE := hE.ext hXX; replace hP := hP.ext hXX)
      repeat' (refine SW.pure rfl rfl ?_)
      refine SW.alloc rfl fun b19 w2 hXX hb19b hb19 => ?_
      skip
      refine SW.storeAgg hb19 rfl rfl rfl rfl (one_z r') fun w3 hb19' hg => ?_
      have hX3 := hXX.own hb19b hg
      (replace hw := Ext.trans hw hX3; replace hb6 := hb6.ext hX3; replace hb12 := hb12.ext hX3; replace Q := Q.ext hX3; replace hE := hE.ext hX3; replace hP := hP.ext hX3; replace hOz := hOz.ext hX3)
      clear hw hg
      have hw := Ext.refl w3
      rw [← hz] at hT
      by_cases hu : u.2.2 = 0
      ·repeat' (first | (show CW _ _ _ _ _ _; first | refine CW.seq ?_ | refine CW.region ?_ | refine CW.condn_f rfl (by omega) ?_ | refine CW.skip ?_) | (show Post _ _ _ _ _; refine Post.seq ?_) | refine SW.nil ?_ | refine SW.pure rfl rfl ?_ | (show SW _ _ _ _ (⟨_, Op.fieldAddr _ _ _, _, _, _, none⟩ :: _) _ _; refine SW.st (st_field rfl) rfl ?_) | (show SW _ _ _ _ (⟨_, Op.indexAddr _ _ _, _, _, _, none⟩ :: _) _ _; refine SW.st (st_indexN rfl rfl (by assumption) (by omega)) rfl ?_) | (show SW _ _ _ _ (⟨_, Op.load _ _, _, _, _, none⟩ :: _) _ _; first | refine SW.st (st_load rfl (hb6.cell (i := 0) (v := .slice (some ⟨k.g, 0, none⟩) 2 k.c) rfl)) rfl ?_ | refine SW.st (st_loads rfl rfl ((fun _ _ => hb19'.cell))) rfl ?_))
       refine SW.storeElem (enc := encZ) zi r' Q.zs.row rfl rfl hzi fun w5 hO5 hg => ?_
       rw [Q.zs.own] at hg
       have hG := Q.zs.gr hg
       have Q5 := Q.setZ hzi hO5 hg hOz
       replace hE := hE.at_g hg
       (replace hb6 := hb6.grT hG rfl; replace hb12 := hb12.grT hG rfl; replace hP := hP.grT hG rfl)
       have hv5 : VS (zset s6 (zi : Int) u.1) := hv6.set_ (hT.keep hu).1
       have hN5 : NotI k (putU p6 zi r') (ownB A c) := hN.putU hlt4 hfr
       have hcont' : ∀ r, FillR m0 m1 zi t f (zset s6 (zi : Int) u.1) (pg ++ [u.2.1]) r → FillR m0 m1 zi t f s5 [] r := fun r hr => hcont _ (.more hlt he6 hT hu hr)
       clear Q hw hO5 hOz hoz hG hg hcont hN hLs
       have hw := Ext.refl w5
       repeat' (first | (show CW _ _ _ _ _ _; refine CW.region ?_) | (show Post _ _ _ _ _; refine Post.seq ?_) | refine SW.nil ?_ | refine SW.pure rfl rfl ?_)
       refine SW.build1 rfl rfl rfl rfl rfl fun b w8 hXX hb hB => ?_
       (replace hw := Ext.trans hw hXX; replace hb6 := hb6.ext hXX; replace hb12 := hb12.ext hXX; replace Q5 := Q5.ext hXX; replace hE := hE.ext hXX; replace hP := hP.ext hXX)
       refine SW.append3 hP (Blk.sl1 (enc := encI) hB) hE.size (by decide) rfl rfl rfl (by omega) (by omega) fun A3 c3 w9 hO1 hg hpos => ?_
       have hG := hP.gr hg
       have hNf : NotI k (putU p6 zi r') (ownB A3 c3) := hN5.either fun g e => (hpos g e).imp id (fun h => Q5.fresh (fun g' e' => by cases e'; exact h))
       have Q9 := Q5.atInt hg hG hN5 (fun g e => Nat.le_trans hwbs (hP.row_ge g e))
       replace hE := hE.step hg (fun g e => .inr (.inr (hP.row_ge g e)))
       (replace hb6 := hb6.grT hG rfl; replace hb12 := hb12.grT hG rfl)
       repeat' (first | (show Post _ _ _ _ _; refine Post.blk ?_) | refine SW.nil ?_ | refine SW.pure rfl rfl ?_)
       exact Post.again (putU p6 zi r', zset s6 (zi : Int) u.1, pg ++ [u.2.1], A3, c3) ⟨rfl, rfl, rfl, rfl, rfl, rfl, rfl, by simp only [List.length_append, List.length_singleton]; rfl, trivial⟩ (by simp; omega) ⟨by simp; omega, Q9, putU_li.1.trans e1, putU_li.2.trans e2, hv5, hb6, hb12, hE, by simp only [List.length_append, List.length_singleton]; exact hO1, hNf, hcont'⟩
      ·have hF : FillR m0 m1 zi t f s6 pg (s6, pg) := .none hlt he6 hT hu
       repeat' (first | (show CW _ _ _ _ _ _; first | refine CW.seq ?_ | refine CW.region ?_ | refine CW.condn_t rfl (by omega) ?_ | refine CW.exit ?_) | (show Post _ _ _ _ _; first | refine Post.seq ?_ | refine Post.seq_exit ?_ | refine Post.hit ?_ | refine Post.pass rfl ?_ | refine Post.again_exit ?_) | refine SW.nil ?_ | refine SW.pure rfl rfl ?_ | (show SW _ _ _ _ (⟨_, Op.load _ _, _, _, _, none⟩ :: _) _ _; refine SW.st (st_loads rfl rfl ((fun _ _ => hb6.cell))) rfl ?_))
       have hLs2 : ∀ w', RQ wb w' k p6 s6 L → OwnLs w' wb.heap.size p.li p.ls L := fun w' q => by have := q.ls; rwa [e1, e2] at this
       refine SW.call rfl rfl (setList2_ans (k.h p) L p.ls (withPg ⟨cpu, (zi : Int), t, []⟩ pg) ⟨cpu, (zi : Int), t, ⟨A, pg.length, c⟩⟩ wb.heap.size _ (hLs2 _ Q) ⟨rfl, rfl, rfl, hP.low hwbs⟩ hs Q.low (by simp only; omega)) fun v w5 hXX hv => ?_
       obtain ⟨sl, R, rfl, hL'⟩ := hv
       clear hLs2
       (replace hw := Ext.trans hw hXX; replace hb6 := hb6.ext hXX; replace hb12 := hb12.ext hXX; replace Q := Q.ext hXX; replace hE := hE.ext hXX; replace hP := hP.ext hXX)
       repeat' (refine SW.pure rfl rfl ?_)
       refine SW.storeAgg hb12 rfl rfl rfl rfl (one_h ⟨⟨some ⟨k.g, 0, none⟩, 2, k.c⟩, k.m, k.cp, sl, k.lv⟩) fun w6 hR2 hg => ?_
       have hG := hb12.gr hg
       have Q6 := Q.own hg (Nat.le_trans hwbs hb12w) hG rfl
       have hE6 := hE.new hg hb12w
       rw [putL_more hs hkh] at hL'
       have hL6 := hL'.grT hG rfl
       repeat' (first | (show CW _ _ _ _ _ _; refine CW.ret ?_) | (show Post _ _ _ _ _; refine Post.seq ?_) | refine SW.nil ?_ | refine SW.pure rfl rfl ?_)
       exact Post.ret2c rfl rfl rfl hR2 rfl ⟨_, rfl, _, hFill _ (hcont _ hF), ⟨p6.u0, p6.u1, sl, R⟩, rfl, ⟨Q6.zs, Q6.mins, Q6.live, hL6, Q6.base⟩, hE6⟩
     ·have hF : FillR m0 m1 zi t f s6 pg (s6, pg) := .poor hlt he6
      have cE' := fun w' => cE w' false (decide_eq_false he6)
      repeat' (first | (show CW _ _ _ _ _ _; first | refine CW.seq ?_ | refine CW.region ?_ | refine CW.condfr rfl (by with_reducible rfl) ?_ | refine CW.exit ?_) | (show Post _ _ _ _ _; first | refine Post.seq ?_ | refine Post.seq_exit ?_ | refine Post.hit ?_ | refine Post.again_exit ?_) | refine SW.nil ?_ | (show SW _ _ _ _ (⟨_, _, _, _, _, some _⟩ :: _) _ _; first | refine SW.want_t rfl rfl (by with_reducible rfl) ?_ | refine SW.splitd_t rfl rfl rfl (by omega) ?_) | refine SW.pure rfl rfl ?_ | (show SW _ _ _ _ (⟨_, Op.call ⟨.builtin .len, _, _⟩, _, _, _, none⟩ :: _) _ _; refine SW.st (st_len rfl) rfl ?_) | (show SW _ _ _ _ (⟨_, Op.load _ _, _, _, _, none⟩ :: _) _ _; refine SW.st (st_loads rfl rfl ((fun _ _ => hb6.cell))) rfl ?_) | (show SW _ _ _ _ (⟨_, Op.call ⟨.value (.func _), _, _⟩, _, _, _, none⟩ :: _) _ _; (refine SW.call rfl rfl (cE' _ Q) ?_; intro v w1 hw1 hv; subst hv; replace hw := Ext.trans hw hw1; replace hb6 := hb6.ext hw1; replace hb12 := hb12.ext hw1; replace Q := Q.ext hw1; replace hE := hE.ext hw1; replace hoz := hoz.ext hw1; replace hP := hP.ext hw1; clear hw1)))
      have hLs2 : ∀ w', RQ wb w' k p6 s6 L → OwnLs w' wb.heap.size p.li p.ls L := fun w' q => by have := q.ls; rwa [e1, e2] at this
      refine SW.call rfl rfl (setList2_ans (k.h p) L p.ls (withPg ⟨cpu, (zi : Int), t, []⟩ pg) ⟨cpu, (zi : Int), t, ⟨A, pg.length, c⟩⟩ wb.heap.size _ (hLs2 _ Q) ⟨rfl, rfl, rfl, hP.low hwbs⟩ hs Q.low (by simp only; omega)) fun v w5 hXX hv => ?_
      obtain ⟨sl, R, rfl, hL'⟩ := hv
      clear hLs2
      (replace hw := Ext.trans hw hXX; replace hb6 := hb6.ext hXX; replace hb12 := hb12.ext hXX; replace Q := Q.ext hXX; replace hE := hE.ext hXX; replace hP := hP.ext hXX)
      repeat' (refine SW.pure rfl rfl ?_)
      refine SW.storeAgg hb12 rfl rfl rfl rfl (one_h ⟨⟨some ⟨k.g, 0, none⟩, 2, k.c⟩, k.m, k.cp, sl, k.lv⟩) fun w6 hR2 hg => ?_
      have hG := hb12.gr hg
      have Q6 := Q.own hg (Nat.le_trans hwbs hb12w) hG rfl
      have hE6 := hE.new hg hb12w
      rw [putL_more hs hkh] at hL'
      have hL6 := hL'.grT hG rfl
      repeat' (first | (show CW _ _ _ _ _ _; refine CW.ret ?_) | (show Post _ _ _ _ _; refine Post.seq ?_) | refine SW.nil ?_ | refine SW.pure rfl rfl ?_)
      exact Post.ret2c rfl rfl rfl hR2 rfl ⟨_, rfl, _, hFill _ (hcont _ hF), ⟨p6.u0, p6.u1, sl, R⟩, rfl, ⟨Q6.zs, Q6.mins, Q6.live, hL6, Q6.base⟩, hE6⟩
    ·have hF : FillR m0 m1 zi t f s6 pg (s6, pg) := .full (by omega)
     repeat' (first | (show CW _ _ _ _ _ _; first | refine CW.seq ?_ | refine CW.region ?_ | refine CW.condfr rfl (by with_reducible rfl) ?_ | refine CW.exit ?_) | (show Post _ _ _ _ _; first | refine Post.seq ?_ | refine Post.seq_exit ?_ | refine Post.hit ?_ | refine Post.again_exit ?_) | refine SW.nil ?_ | (show SW _ _ _ _ (⟨_, _, _, _, _, some _⟩ :: _) _ _; first | refine SW.skip_t rfl rfl (by with_reducible rfl) rfl ?_ | refine SW.splitd_f rfl rfl rfl (by omega) ?_) | refine SW.pure rfl rfl ?_ | (show SW _ _ _ _ (⟨_, Op.call ⟨.builtin .len, _, _⟩, _, _, _, none⟩ :: _) _ _; refine SW.st (st_len rfl) rfl ?_) | (show SW _ _ _ _ (⟨_, Op.load _ _, _, _, _, none⟩ :: _) _ _; refine SW.st (st_loads rfl rfl ((fun _ _ => hb6.cell))) rfl ?_))
     have hLs2 : ∀ w', RQ wb w' k p6 s6 L → OwnLs w' wb.heap.size p.li p.ls L := fun w' q => by have := q.ls; rwa [e1, e2] at this
     refine SW.call rfl rfl (setList2_ans (k.h p) L p.ls (withPg ⟨cpu, (zi : Int), t, []⟩ pg) ⟨cpu, (zi : Int), t, ⟨A, pg.length, c⟩⟩ wb.heap.size _ (hLs2 _ Q) ⟨rfl, rfl, rfl, hP.low hwbs⟩ hs Q.low (by simp only; omega)) fun v w5 hXX hv => ?_
     obtain ⟨sl, R, rfl, hL'⟩ := hv
     clear hLs2
     (replace hw := Ext.trans hw hXX; replace hb6 := hb6.ext hXX; replace hb12 := hb12.ext hXX; replace Q := Q.ext hXX; replace hE := hE.ext hXX; replace hP := hP.ext hXX)
     repeat' (refine SW.pure rfl rfl ?_)
     refine SW.storeAgg hb12 rfl rfl rfl rfl (one_h ⟨⟨some ⟨k.g, 0, none⟩, 2, k.c⟩, k.m, k.cp, sl, k.lv⟩) fun w6 hR2 hg => ?_
     have hG := hb12.gr hg
     have Q6 := Q.own hg (Nat.le_trans hwbs hb12w) hG rfl
     have hE6 := hE.new hg hb12w
     rw [putL_more hs hkh] at hL'
     have hL6 := hL'.grT hG rfl
     repeat' (first | (show CW _ _ _ _ _ _; refine CW.ret ?_) | (show Post _ _ _ _ _; refine Post.seq ?_) | refine SW.nil ?_ | refine SW.pure rfl rfl ?_)
     exact Post.ret2c rfl rfl rfl hR2 rfl ⟨_, rfl, _, hFill _ (hcont _ hF), ⟨p6.u0, p6.u1, sl, R⟩, rfl, ⟨Q6.zs, Q6.mins, Q6.live, hL6, Q6.base⟩, hE6⟩
   ·repeat' (first | (show CW _ _ _ _ _ _; first | refine CW.seq ?_ | refine CW.region ?_ | refine CW.condd_t rfl (by omega) ?_) | (show Post _ _ _ _ _; refine Post.seq ?_) | refine SW.nil ?_ | refine SW.pure rfl rfl ?_ | (show SW _ _ _ _ (⟨_, Op.load _ _, _, _, _, none⟩ :: _) _ _; refine SW.st (st_loads rfl rfl ((fun _ _ => hb6.cell))) rfl ?_))
    refine SW.storeAgg hb12 rfl rfl rfl rfl (one_h (k.h p)) fun w6 hR2 hg => ?_
    have hG := hb12.gr hg
    have Q6 := Q5.own hg (Nat.le_trans hwbs hb12w) hG rfl
    have hE6 := hE.new hg hb12w
    repeat' (first | (show CW _ _ _ _ _ _; refine CW.ret ?_) | (show Post _ _ _ _ _; first | refine Post.seq ?_ | refine Post.seq_ret ?_) | refine SW.nil ?_ | refine SW.pure rfl rfl ?_)
    exact Post.ret2c rfl rfl rfl hR2 rfl ⟨_, rfl, _, .big hcase he hT hu, putU p zi r', by rw [show k.h (putU p zi r') = k.h p by simp only [HK.h, putU_li.1]]; rfl, Q6, hE6⟩
  ·have cE' := fun w' => cE w' false (decide_eq_false he)
   rcases hcase with hcase | hcase
   focus
    obtain ⟨ho0, hkh⟩ := hcase
    have epg := pagesAt_f hkh
    repeat' (first | (show CW _ _ _ _ _ _; first | refine CW.seq ?_ | refine CW.region ?_ | refine CW.condd_t rfl (by omega) ?_) | (show Post _ _ _ _ _; refine Post.seq ?_) | refine SW.nil ?_ | refine SW.pure rfl rfl ?_ | (show SW _ _ _ _ (⟨_, Op.load _ _, _, _, _, none⟩ :: _) _ _; refine SW.st (st_loads rfl rfl ((fun _ _ => hb6.cell))) rfl ?_))
    refine SW.call rfl rfl (listOf_ans (k.h p) L p.ls ⟨cpu, (zi : Int), t, []⟩ _ Q.ls.rd hs (by simp only; omega) hpp) fun v w4 hXX hv => ?_
    obtain ⟨A, c, rfl, hP⟩ := hv
    rw [epg] at hP
    simp only [epg, List.length_nil]
    clear hP
    (replace hw := Ext.trans hw hXX; replace hb6 := hb6.ext hXX; replace hb12 := hb12.ext hXX; replace Q := Q.ext hXX; replace hE := hE.ext hXX)
   all_goals
    repeat' (first | (show CW _ _ _ _ _ _; first | refine CW.seq ?_ | refine CW.region ?_ | refine CW.condd_f rfl (by omega) ?_ | refine CW.condt rfl ?_ | refine CW.skip ?_) | (show Post _ _ _ _ _; refine Post.seq ?_) | refine SW.nil ?_ | refine SW.pure rfl rfl ?_ | (show SW _ _ _ _ (⟨_, Op.call ⟨.builtin .len, _, _⟩, _, _, _, none⟩ :: _) _ _; refine SW.st (st_len rfl) rfl ?_) | (show SW _ _ _ _ (⟨_, Op.load _ _, _, _, _, none⟩ :: _) _ _; refine SW.st (st_loads rfl rfl ((fun _ _ => hb6.cell))) rfl ?_) | (show SW _ _ _ _ (⟨_, Op.call ⟨.value (.func _), _, _⟩, _, _, _, none⟩ :: _) _ _; (refine SW.call rfl rfl (cE' _ Q) ?_; intro v w1 hw1 hv; subst hv; replace hw := Ext.trans hw hw1; replace hb6 := hb6.ext hw1; replace hb12 := hb12.ext hw1; replace Q := Q.ext hw1; replace hE := hE.ext hw1; clear hw1)))
    refine SW.storeAgg hb12 rfl rfl rfl rfl (one_h (k.h p)) fun w6 hR2 hg => ?_
    have hG := hb12.gr hg
    have Q6 := Q.own hg (Nat.le_trans hwbs hb12w) hG rfl
    have hE6 := hE.new hg hb12w
    repeat' (first | (show CW _ _ _ _ _ _; refine CW.ret ?_) | (show Post _ _ _ _ _; first | refine Post.seq ?_ | refine Post.seq_ret ?_) | refine SW.nil ?_ | refine SW.pure rfl rfl ?_)
    exact Post.ret2c rfl rfl rfl hR2 rfl ⟨_, rfl, _, .poor hno he, p, rfl, Q6, hE6⟩
end Go.Proofs.YtfommgdbahemfaaDoor
set_option linter.unusedVariables false
set_option linter.unusedSimpArgs false
namespace Go.Proofs.YtfommgdbahemfaaDoor
open Go.RowKit
theorem KpH.ownK {α : Type} {w0 w : World} {k : HK} {p0 p : HP} (h : KpH w0 k p0 w p) {lo : Nat} {e : TypeId} {sz : Nat} {enc : α → List Value} {A : Option Addr} {n c : Nat} {l : List α} (hO : Own w0 lo e sz enc A n c l) (hn : ∀ g, ownB A c = some g → ¬ Mine k p0 g) : Own w lo e sz enc A n c l := by
 have hlt := hO.lt_size
 refine ⟨hO.len, ?_⟩
 rcases hO.row with h1 | ⟨hc, g, cur, rfl, h1, h2, h3⟩
 ·exact .inl h1
 ·have hg : ownB (some (⟨g, 0, none⟩ : Addr)) c = some g := by simp [ownB, Nat.pos_iff_ne_zero.1 hc]
  exact .inr ⟨hc, g, cur, rfl, h1, by rw [h.block g (hlt g hg) (hn g hg)]; exact h2, h3⟩
def tkT (L : List PList) : Option ((Zone × Zone) × Int) → Option ((Zone × Zone) × List PList × Int)
 | none => none
 | some q => some (q.1, L, q.2)
theorem TkR.big {m0 m1 cpu : Int} {s : Zone × Zone} {zi o t f : Int} {q : Option ((Zone × Zone) × Int)} {L : List PList} (h : TkR m0 m1 s zi o t f q) (ho : 0 < o) : TryR m0 m1 cpu zi o t f s L (tkT L q) := by
 have hno : ¬ (o = 0 ∧ khere L ⟨cpu, zi, t, []⟩ = true) := fun h => by omega
 cases h with
 | poor he => exact .poor hno he
 | none he ht hu => exact .none hno he ht hu
 | ok he ht hu => exact .big ho he ht hu
theorem att_some {m0 m1 cpu o t f : Int} {s : Zone × Zone} {L : List PList} {zl : List Int} {j : Nat} {r : (Zone × Zone) × List PList × Int} (hz : (zl = [1, 0] ∧ f % 2 = 0) ∨ (zl = [0] ∧ f % 2 = 1)) (hj : j < zl.length) (hb : ∀ (i : Nat) (h : i < zl.length), i < j → TryR m0 m1 cpu zl[i] o t f s L none) (h : TryR m0 m1 cpu zl[j] o t f s L (some r)) : AttR m0 m1 cpu o t f s L (some r) := by
 rcases hz with ⟨rfl, hf⟩ | ⟨rfl, hf⟩
 ·have hj' : j < 2 := hj
  rcases Nat.lt_or_ge j 1 with h1 | h1
  ·obtain rfl : j = 0 := by omega
   exact .high hf h
  ·obtain rfl : j = 1 := by omega
   exact .low (fun _ => hb 0 (by simp) (by omega)) h
 ·have hj' : j < 1 := hj
  obtain rfl : j = 0 := by omega
  exact .low (fun e => by omega) h
theorem att_none {m0 m1 cpu o t f : Int} {s : Zone × Zone} {L : List PList} {zl : List Int} (hz : (zl = [1, 0] ∧ f % 2 = 0) ∨ (zl = [0] ∧ f % 2 = 1)) (hb : ∀ (i : Nat) (h : i < zl.length), TryR m0 m1 cpu zl[i] o t f s L none) : AttR m0 m1 cpu o t f s L none := by
 rcases hz with ⟨rfl, hf⟩ | ⟨rfl, hf⟩
 ·exact .low (fun _ => hb 0 (by simp)) (hb 1 (by simp))
 ·exact .low (fun e => by omega) (hb 0 (by simp))
abbrev zA0 (g : Nat) : Option Addr := some ⟨g, 0, none⟩
abbrev zA1 (g : Nat) : Option Addr := if 2 = 1 then some ⟨g, 0, none⟩ else (some (⟨g, 0, none⟩ : Addr)).map (·.add (1 * 1))
set_option maxHeartbeats 4000000 in
theorem attempt_ans (k : HK) (p : HP) (s : Zone × Zone) (L : List PList) (m0 m1 cpu o t f : Int) (wb w : World) (H : HS wb w k p s L) (hO : OthW wb) (hM : MinOk k.M m0 m1) (hv : VS s) (hs : LsS L) (hpg : ∀ l ∈ L, 1 ≤ l.Pages.length ∧ l.Pages.length ≤ 8) (hcnt : L.length ≤ 256) (ho : 0 ≤ o ∧ o ≤ 4) (hf : 0 ≤ f ∧ f ≤ 15) :
  AnsX Tryd.prog 45 [.pointer (some ⟨k.b, 0, none⟩), .int .i64 cpu, .int .i64 o, .int .i64 t, .int .i64 f] w fun v w' => ∃ q, AttR m0 m1 cpu o t f s L q ∧ v = trV q ∧ ∃ p', HS wb w' k p' (trS s q) (trL L q) ∧ KpH w k p w' p' := by
 refine ansx_of Tryd.func45 rfl Tryd.ntmps45 rfl ?_
 have hw := Ext.refl w
 obtain ⟨q1, q2, q4, q8⟩ := flagV_all hf
 have hn17 : ∀ i, w.heap.size ≤ i → ¬ Mine k p i := fun i hi => H.not hi
 have K0 := KpH.refl w k p
 repeat' (first | (show CW _ _ _ _ _ _; first | refine CW.seq ?_ | refine CW.region ?_) | (show Post _ _ _ _ _; refine Post.seq ?_) | refine SW.nil ?_ | refine SW.pure rfl rfl ?_)
 refine SW.build2 (enc := encI) 1 0 rfl rfl rfl rfl rfl rfl fun g w2 hg2 hgw hZ => ?_
 (replace hw := Ext.trans hw hg2; replace H := H.ext hg2; replace K0 := K0.ext hg2)
 have hn : ∀ j, ownB (some (⟨g, 0, none⟩ : Addr)) 2 = some j → ¬ Mine k p j := fun j e => hn17 j (by simp [ownB] at e; omega)
 obtain ⟨lo, hlo⟩ : ∃ lo, w.heap.size = lo := ⟨_, rfl⟩
 rw [hlo] at hZ
 clear hn17 hlo
 rcases (show f % 2 = 0 ∨ f % 2 = 1 by omega) with hf2 | hf2
 ·obtain ⟨zl, hzl⟩ : ∃ zl : List Int, zl = [1, 0] := ⟨_, rfl⟩
  have hzc : (zl = [1, 0] ∧ f % 2 = 0) ∨ (zl = [0] ∧ f % 2 = 1) := by rw [hzl]; exact .inl ⟨rfl, hf2⟩
  obtain ⟨A, hA⟩ : ∃ A : Option Addr, A = (zA0 g) := ⟨_, rfl⟩
  have hSl : ∀ w', Own w' lo 3 1 encI (some ⟨g, 0, none⟩) 2 2 [1, 0] → Sl w' 1 encI A 2 zl := fun w' h => by
   rw [hzl, hA]
   first | exact h.sl | exact h.sl.drop 1 2 (by decide) (by decide)
  have hzn : zl.length = 2 := by rw [hzl]; rfl
  have hze : ∀ (j : Nat) (hj : j < zl.length), ∃ zi : Nat, zl[j] = (zi : Int) ∧ zi < 2 := fun j hj => by
   rcases hzc with ⟨rfl, _⟩ | ⟨rfl, _⟩
   ·have hj' : j < 2 := hj
    rcases Nat.lt_or_ge j 1 with h1 | h1
    ·obtain rfl : j = 0 := by omega
     exact ⟨1, rfl, by omega⟩
    ·obtain rfl : j = 1 := by omega
     exact ⟨0, rfl, by omega⟩
   ·have hj' : j < 1 := hj
    obtain rfl : j = 0 := by omega
    exact ⟨0, rfl, by omega⟩
  repeat' (first | (show CW _ _ _ _ _ _; first | refine CW.seq ?_ | refine CW.region ?_ | refine CW.block ?_ | refine CW.condn_f rfl (by omega) ?_ | refine CW.skip ?_) | (show Post _ _ _ _ _; refine Post.seq ?_) | refine SW.nil ?_ | refine SW.pure rfl rfl ?_ | (show SW _ _ _ _ (⟨_, Op.call ⟨.builtin .len, _, _⟩, _, _, _, none⟩ :: _) _ _; refine SW.st (st_len rfl) rfl ?_) | (refine SW.st (st_flag rfl rfl (by omega) (by decide)) rfl ?_))
  all_goals first | (exfalso; omega) | skip
  refine CW.loop (fun u : Nat × HP => [(0, .pointer (some ⟨k.b, 0, none⟩)), (1, .int .i64 cpu), (2, .int .i64 o), (3, .int .i64 t), (4, .int .i64 f), (23, .slice A 2 2), (24, .int .i64 ((2 : Nat) : Int)), (25, .int .i64 (u.1 : Int))])
   (fun u w' => u.1 ≤ zl.length ∧ HS wb w' k u.2 s L ∧ KpH w k p w' u.2 ∧ Own w' lo 3 1 encI (some ⟨g, 0, none⟩) 2 2 [1, 0] ∧ (∀ j, ownB (some (⟨g, 0, none⟩ : Addr)) 2 = some j → ¬ Mine k u.2 j) ∧ ∀ (i : Nat) (h : i < zl.length), i < u.1 → TryR m0 m1 cpu zl[i] o t f s L none) (fun u => zl.length - u.1) (0, p)
   ⟨rfl, rfl, rfl, rfl, rfl, by rw [hA]; rfl, rfl, rfl, trivial⟩ ⟨by simp, H, K0, hZ, hn, fun i h h' => by simp at h'⟩ ?_
  clear hw hZ H K0 hn
  rintro ⟨j, p6⟩ w' ⟨hj, H, K0, hZ, hn, hb⟩
  simp only at hj H K0 hn hb ⊢
  have hw := Ext.refl w'
  have hS := hSl _ hZ
  have hSA := hS.base
  by_cases hlt : j < zl.length
  ·obtain ⟨zi, hzi, hzi2⟩ := hze j hlt
   have hjN : j < 2 := by omega
   have fz := hS.one hjN (congrArg encI hzi)
   by_cases ho0 : o = 0
   ·repeat' (first | (show CW _ _ _ _ _ _; first | refine CW.seq ?_ | refine CW.region ?_ | refine CW.block ?_ | refine CW.condd_t rfl (by omega) ?_ | refine CW.skip ?_) | (show Post _ _ _ _ _; refine Post.seq ?_) | refine SW.nil ?_ | refine SW.pure rfl rfl ?_ | (show SW _ _ _ _ (⟨_, Op.indexAddr _ _ _, _, _, _, none⟩ :: _) _ _; refine SW.st (st_indexN rfl rfl (by assumption) (by omega)) rfl ?_) | (show SW _ _ _ _ (⟨_, Op.load _ _, _, _, _, none⟩ :: _) _ _; refine SW.st (st_load rfl fz) rfl ?_))
    subst ho0
    refine SW.callX rfl rfl (single_ans k p6 s L m0 m1 cpu zi t f wb _ H hO hM hv hs hpg hcnt hzi2 hf) fun v w5 hv5 => ?_
    obtain ⟨q5, hT, rfl, p5, H5, K5⟩ := hv5
    have hZ5 := K5.ownK hZ hn
    have hn5 : ∀ i, ownB (some (⟨g, 0, none⟩ : Addr)) 2 = some i → ¬ Mine k p5 i := fun i e => K5.not (hn i e) (hZ.lt_size i e)
    replace K5 := K0.trans K5
    clear hw
    have hw := Ext.refl w5
    rw [← hzi] at hT
    cases q5 with
    | none =>
     repeat' (first | (show CW _ _ _ _ _ _; first | refine CW.seq ?_ | refine CW.region ?_ | refine CW.condf rfl ?_ | refine CW.skip ?_) | (show Post _ _ _ _ _; first | refine Post.seq ?_ | refine Post.blk ?_) | refine SW.nil ?_ | refine SW.pure rfl rfl ?_ | (show SW _ _ _ _ (⟨_, Op.binOp _ _ _ _ _, _, _, _, none⟩ :: _) _ _; refine SW.st (st_add rfl rfl (by omega) (by omega)) rfl ?_))
     exact Post.again (j + 1, p5) ⟨rfl, rfl, rfl, rfl, rfl, rfl, rfl, rfl, trivial⟩ (by simp only; omega) ⟨by simp only; omega, H5, K5, hZ5, hn5, fun i h h' => by
      by_cases e : i = j
      ·subst e; exact hT
      ·exact hb i h (by simp only at h'; omega)⟩
    | some q5 =>
     repeat' (first | (show CW _ _ _ _ _ _; first | refine CW.seq ?_ | refine CW.region ?_ | refine CW.condt rfl ?_ | refine CW.ret ?_) | (show Post _ _ _ _ _; first | refine Post.seq ?_ | refine Post.seq_ret ?_ | refine Post.blk_ret ?_ | refine Post.again_ret ?_) | refine SW.nil ?_ | refine SW.pure rfl rfl ?_)
     exact Post.ret2 rfl rfl rfl ⟨_, rfl, _, att_some hzc hlt hb hT, rfl, p5, H5, K5⟩
   ·repeat' (first | (show CW _ _ _ _ _ _; first | refine CW.seq ?_ | refine CW.region ?_ | refine CW.block ?_ | refine CW.condd_t rfl (by omega) ?_ | refine CW.condd_f rfl (by omega) ?_ | refine CW.skip ?_) | (show Post _ _ _ _ _; refine Post.seq ?_) | refine SW.nil ?_ | refine SW.pure rfl rfl ?_ | (show SW _ _ _ _ (⟨_, Op.indexAddr _ _ _, _, _, _, none⟩ :: _) _ _; refine SW.st (st_indexN rfl rfl (by assumption) (by omega)) rfl ?_) | (show SW _ _ _ _ (⟨_, Op.load _ _, _, _, _, none⟩ :: _) _ _; refine SW.st (st_load rfl fz) rfl ?_))
    refine SW.callX rfl rfl (take_ans k p6 s L m0 m1 zi o t f wb _ H (hO.ext H.base) hM hv hzi2 ho hf) fun v w5 hv5 => ?_
    obtain ⟨q5, hT, rfl, p5, H5, K5⟩ := hv5
    have hZ5 := K5.ownK hZ hn
    have hn5 : ∀ i, ownB (some (⟨g, 0, none⟩ : Addr)) 2 = some i → ¬ Mine k p5 i := fun i e => K5.not (hn i e) (hZ.lt_size i e)
    replace K5 := K0.trans K5
    clear hw
    have hw := Ext.refl w5
    have hT := hT.big (cpu := cpu) (L := L) (by omega)
    rw [← hzi] at hT
    cases q5 with
    | none =>
     repeat' (first | (show CW _ _ _ _ _ _; first | refine CW.seq ?_ | refine CW.region ?_ | refine CW.condf rfl ?_ | refine CW.skip ?_) | (show Post _ _ _ _ _; first | refine Post.seq ?_ | refine Post.blk ?_) | refine SW.nil ?_ | refine SW.pure rfl rfl ?_ | (show SW _ _ _ _ (⟨_, Op.binOp _ _ _ _ _, _, _, _, none⟩ :: _) _ _; refine SW.st (st_add rfl rfl (by omega) (by omega)) rfl ?_))
     exact Post.again (j + 1, p5) ⟨rfl, rfl, rfl, rfl, rfl, rfl, rfl, rfl, trivial⟩ (by simp only; omega) ⟨by simp only; omega, H5, K5, hZ5, hn5, fun i h h' => by
      by_cases e : i = j
      ·subst e; exact hT
      ·exact hb i h (by simp only at h'; omega)⟩
    | some q5 =>
     repeat' (first | (show CW _ _ _ _ _ _; first | refine CW.seq ?_ | refine CW.region ?_ | refine CW.condt rfl ?_ | refine CW.ret ?_) | (show Post _ _ _ _ _; first | refine Post.seq ?_ | refine Post.seq_ret ?_ | refine Post.blk_ret ?_ | refine Post.again_ret ?_) | refine SW.nil ?_ | refine SW.pure rfl rfl ?_)
     exact Post.ret2 rfl rfl rfl ⟨_, rfl, _, att_some hzc hlt hb hT, rfl, p5, H5, K5⟩
  ·repeat' (first | (show CW _ _ _ _ _ _; first | refine CW.seq ?_ | refine CW.region ?_ | refine CW.condd_f rfl (by omega) ?_ | refine CW.ret ?_ | refine CW.exit ?_) | (show Post _ _ _ _ _; first | refine Post.seq ?_ | refine Post.seq_exit ?_ | refine Post.hit ?_ | refine Post.again_exit ?_) | refine SW.nil ?_ | refine SW.pure rfl rfl ?_)
   exact Post.ret2 rfl rfl rfl ⟨_, rfl, none, att_none hzc (fun i h => hb i h (by omega)), rfl, p6, H, K0⟩
 ·obtain ⟨zl, hzl⟩ : ∃ zl : List Int, zl = [0] := ⟨_, rfl⟩
  have hzc : (zl = [1, 0] ∧ f % 2 = 0) ∨ (zl = [0] ∧ f % 2 = 1) := by rw [hzl]; exact .inr ⟨rfl, hf2⟩
  obtain ⟨A, hA⟩ : ∃ A : Option Addr, A = (zA1 g) := ⟨_, rfl⟩
  have hSl : ∀ w', Own w' lo 3 1 encI (some ⟨g, 0, none⟩) 2 2 [1, 0] → Sl w' 1 encI A (2 - 1) zl := fun w' h => by
   rw [hzl, hA]
   first | exact h.sl | exact h.sl.drop 1 2 (by decide) (by decide)
  have hzn : zl.length = (2 - 1) := by rw [hzl]; rfl
  have hze : ∀ (j : Nat) (hj : j < zl.length), ∃ zi : Nat, zl[j] = (zi : Int) ∧ zi < 2 := fun j hj => by
   rcases hzc with ⟨rfl, _⟩ | ⟨rfl, _⟩
   ·have hj' : j < 2 := hj
    rcases Nat.lt_or_ge j 1 with h1 | h1
    ·obtain rfl : j = 0 := by omega
     exact ⟨1, rfl, by omega⟩
    ·obtain rfl : j = 1 := by omega
     exact ⟨0, rfl, by omega⟩
   ·have hj' : j < 1 := hj
    obtain rfl : j = 0 := by omega
    exact ⟨0, rfl, by omega⟩
  repeat' (first | (show CW _ _ _ _ _ _; first | refine CW.seq ?_ | refine CW.region ?_ | refine CW.block ?_ | refine CW.condn_t rfl (by omega) ?_) | (show Post _ _ _ _ _; refine Post.seq ?_) | refine SW.nil ?_ | refine SW.pure rfl rfl ?_ | (show SW _ _ _ _ (⟨_, Op.call ⟨.builtin .len, _, _⟩, _, _, _, none⟩ :: _) _ _; refine SW.st (st_len rfl) rfl ?_) | (refine SW.st (st_flag rfl rfl (by omega) (by decide)) rfl ?_) | (refine SW.st (st_sliceLo (k := 1) rfl rfl (by omega) (by omega)) rfl ?_))
  all_goals first | (exfalso; omega) | skip
  refine CW.loop (fun u : Nat × HP => [(0, .pointer (some ⟨k.b, 0, none⟩)), (1, .int .i64 cpu), (2, .int .i64 o), (3, .int .i64 t), (4, .int .i64 f), (23, .slice A (2 - 1) (2 - 1)), (24, .int .i64 (((2 - 1) : Nat) : Int)), (25, .int .i64 (u.1 : Int))])
   (fun u w' => u.1 ≤ zl.length ∧ HS wb w' k u.2 s L ∧ KpH w k p w' u.2 ∧ Own w' lo 3 1 encI (some ⟨g, 0, none⟩) 2 2 [1, 0] ∧ (∀ j, ownB (some (⟨g, 0, none⟩ : Addr)) 2 = some j → ¬ Mine k u.2 j) ∧ ∀ (i : Nat) (h : i < zl.length), i < u.1 → TryR m0 m1 cpu zl[i] o t f s L none) (fun u => zl.length - u.1) (0, p)
   ⟨rfl, rfl, rfl, rfl, rfl, by rw [hA]; rfl, rfl, rfl, trivial⟩ ⟨by simp, H, K0, hZ, hn, fun i h h' => by simp at h'⟩ ?_
  clear hw hZ H K0 hn
  rintro ⟨j, p6⟩ w' ⟨hj, H, K0, hZ, hn, hb⟩
  simp only at hj H K0 hn hb ⊢
  have hw := Ext.refl w'
  have hS := hSl _ hZ
  have hSA := hS.base
  by_cases hlt : j < zl.length
  ·obtain ⟨zi, hzi, hzi2⟩ := hze j hlt
   have hjN : j < (2 - 1) := by omega
   have fz := hS.one hjN (congrArg encI hzi)
   by_cases ho0 : o = 0
   ·repeat' (first | (show CW _ _ _ _ _ _; first | refine CW.seq ?_ | refine CW.region ?_ | refine CW.block ?_ | refine CW.condd_t rfl (by omega) ?_ | refine CW.skip ?_) | (show Post _ _ _ _ _; refine Post.seq ?_) | refine SW.nil ?_ | refine SW.pure rfl rfl ?_ | (show SW _ _ _ _ (⟨_, Op.indexAddr _ _ _, _, _, _, none⟩ :: _) _ _; refine SW.st (st_indexN rfl rfl (by assumption) (by omega)) rfl ?_) | (show SW _ _ _ _ (⟨_, Op.load _ _, _, _, _, none⟩ :: _) _ _; refine SW.st (st_load rfl fz) rfl ?_))
    subst ho0
    refine SW.callX rfl rfl (single_ans k p6 s L m0 m1 cpu zi t f wb _ H hO hM hv hs hpg hcnt hzi2 hf) fun v w5 hv5 => ?_
    obtain ⟨q5, hT, rfl, p5, H5, K5⟩ := hv5
    have hZ5 := K5.ownK hZ hn
    have hn5 : ∀ i, ownB (some (⟨g, 0, none⟩ : Addr)) 2 = some i → ¬ Mine k p5 i := fun i e => K5.not (hn i e) (hZ.lt_size i e)
    replace K5 := K0.trans K5
    clear hw
    have hw := Ext.refl w5
    rw [← hzi] at hT
    cases q5 with
    | none =>
     repeat' (first | (show CW _ _ _ _ _ _; first | refine CW.seq ?_ | refine CW.region ?_ | refine CW.condf rfl ?_ | refine CW.skip ?_) | (show Post _ _ _ _ _; first | refine Post.seq ?_ | refine Post.blk ?_) | refine SW.nil ?_ | refine SW.pure rfl rfl ?_ | (show SW _ _ _ _ (⟨_, Op.binOp _ _ _ _ _, _, _, _, none⟩ :: _) _ _; refine SW.st (st_add rfl rfl (by omega) (by omega)) rfl ?_))
     exact Post.again (j + 1, p5) ⟨rfl, rfl, rfl, rfl, rfl, rfl, rfl, rfl, trivial⟩ (by simp only; omega) ⟨by simp only; omega, H5, K5, hZ5, hn5, fun i h h' => by
      by_cases e : i = j
      ·subst e; exact hT
      ·exact hb i h (by simp only at h'; omega)⟩
    | some q5 =>
     repeat' (first | (show CW _ _ _ _ _ _; first | refine CW.seq ?_ | refine CW.region ?_ | refine CW.condt rfl ?_ | refine CW.ret ?_) | (show Post _ _ _ _ _; first | refine Post.seq ?_ | refine Post.seq_ret ?_ | refine Post.blk_ret ?_ | refine Post.again_ret ?_) | refine SW.nil ?_ | refine SW.pure rfl rfl ?_)
     exact Post.ret2 rfl rfl rfl ⟨_, rfl, _, att_some hzc hlt hb hT, rfl, p5, H5, K5⟩
   ·repeat' (first | (show CW _ _ _ _ _ _; first | refine CW.seq ?_ | refine CW.region ?_ | refine CW.block ?_ | refine CW.condd_t rfl (by omega) ?_ | refine CW.condd_f rfl (by omega) ?_ | refine CW.skip ?_) | (show Post _ _ _ _ _; refine Post.seq ?_) | refine SW.nil ?_ | refine SW.pure rfl rfl ?_ | (show SW _ _ _ _ (⟨_, Op.indexAddr _ _ _, _, _, _, none⟩ :: _) _ _; refine SW.st (st_indexN rfl rfl (by assumption) (by omega)) rfl ?_) | (show SW _ _ _ _ (⟨_, Op.load _ _, _, _, _, none⟩ :: _) _ _; refine SW.st (st_load rfl fz) rfl ?_))
    refine SW.callX rfl rfl (take_ans k p6 s L m0 m1 zi o t f wb _ H (hO.ext H.base) hM hv hzi2 ho hf) fun v w5 hv5 => ?_
    obtain ⟨q5, hT, rfl, p5, H5, K5⟩ := hv5
    have hZ5 := K5.ownK hZ hn
    have hn5 : ∀ i, ownB (some (⟨g, 0, none⟩ : Addr)) 2 = some i → ¬ Mine k p5 i := fun i e => K5.not (hn i e) (hZ.lt_size i e)
    replace K5 := K0.trans K5
    clear hw
    have hw := Ext.refl w5
    have hT := hT.big (cpu := cpu) (L := L) (by omega)
    rw [← hzi] at hT
    cases q5 with
    | none =>
     repeat' (first | (show CW _ _ _ _ _ _; first | refine CW.seq ?_ | refine CW.region ?_ | refine CW.condf rfl ?_ | refine CW.skip ?_) | (show Post _ _ _ _ _; first | refine Post.seq ?_ | refine Post.blk ?_) | refine SW.nil ?_ | refine SW.pure rfl rfl ?_ | (show SW _ _ _ _ (⟨_, Op.binOp _ _ _ _ _, _, _, _, none⟩ :: _) _ _; refine SW.st (st_add rfl rfl (by omega) (by omega)) rfl ?_))
     exact Post.again (j + 1, p5) ⟨rfl, rfl, rfl, rfl, rfl, rfl, rfl, rfl, trivial⟩ (by simp only; omega) ⟨by simp only; omega, H5, K5, hZ5, hn5, fun i h h' => by
      by_cases e : i = j
      ·subst e; exact hT
      ·exact hb i h (by simp only at h'; omega)⟩
    | some q5 =>
     repeat' (first | (show CW _ _ _ _ _ _; first | refine CW.seq ?_ | refine CW.region ?_ | refine CW.condt rfl ?_ | refine CW.ret ?_) | (show Post _ _ _ _ _; first | refine Post.seq ?_ | refine Post.seq_ret ?_ | refine Post.blk_ret ?_ | refine Post.again_ret ?_) | refine SW.nil ?_ | refine SW.pure rfl rfl ?_)
     exact Post.ret2 rfl rfl rfl ⟨_, rfl, _, att_some hzc hlt hb hT, rfl, p5, H5, K5⟩
  ·repeat' (first | (show CW _ _ _ _ _ _; first | refine CW.seq ?_ | refine CW.region ?_ | refine CW.condd_f rfl (by omega) ?_ | refine CW.ret ?_ | refine CW.exit ?_) | (show Post _ _ _ _ _; first | refine Post.seq ?_ | refine Post.seq_exit ?_ | refine Post.hit ?_ | refine Post.again_exit ?_) | refine SW.nil ?_ | refine SW.pure rfl rfl ?_)
   exact Post.ret2 rfl rfl rfl ⟨_, rfl, none, att_none hzc (fun i h => hb i h (by omega)), rfl, p6, H, K0⟩
end Go.Proofs.YtfommgdbahemfaaDoor
