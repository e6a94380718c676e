/-
  Contract: pages.push.
-/
import Derived.Test.YtfommgdbahemfaaDoorPackKmemSizes15
import Derived.Test.YtfommgdbahemfaaDoorPackKmemSizes5
import Derived.Test.YtfommgdbahemfaaDoorPackKmemSizes18
import Derived.Test.YtfommgdbahemfaaDoorPackKmemSizes17
set_option linter.unusedVariables false
set_option linter.unusedSimpArgs false
namespace Go.Proofs.YtfommgdbahemfaaDoor
open Go.RowKit

/-- what else is known, and stays known in a world with more blocks -/
structure Frm (F : World → Prop) (w : World) : Prop where
  at_ : F w
  all : ∀ w w', Ext w w' → F w → F w'
theorem Frm.ext {F : World → Prop} {w w' : World} (h : Frm F w) (hx : Ext w w') : Frm F w' := ⟨h.all _ _ hx h.at_, h.all⟩
theorem Frm.to {F : World → Prop} {w w' : World} (h : Frm F w) (hf : F w') : Frm F w' := ⟨hf, h.all⟩
theorem All2.insAt {α β : Type} {R : α → β → Prop} {xs : List α} {ys : List β} (h : All2 R xs ys) {i : Nat} (hi : i ≤ xs.length) {x : α} {y : β} (hr : R x y) : All2 R (insAt xs i x) (insAt ys i y) := by
  have hl := h.len
  refine ⟨by rw [length_insAt _ hi, length_insAt _ (by omega), hl], fun k h1 h2 => ?_⟩
  have hget : ∀ {γ : Type} (zs : List γ) (z : γ) (k : Nat) (hk : k < (Proofs.YtfommgdbahemfaaDoor.insAt zs i z).length) (u : γ), (Proofs.YtfommgdbahemfaaDoor.insAt zs i z)[k]? = some u → (Proofs.YtfommgdbahemfaaDoor.insAt zs i z)[k] = u := fun zs z k hk u hu => by
    rw [List.getElem?_eq_getElem hk] at hu; exact Option.some.inj hu
  rw [length_insAt _ hi] at h1
  rcases Nat.lt_trichotomy k i with e | e | e
  · rw [hget xs x k _ (xs[k]'(by omega)) (by rw [insAt_lt hi e, List.getElem?_eq_getElem]), hget ys y k _ (ys[k]'(by omega)) (by rw [insAt_lt (by omega) e, List.getElem?_eq_getElem])]
    exact h.get k (by omega) (by omega)
  · subst e
    rw [hget xs x k _ x (insAt_eq hi), hget ys y k _ y (insAt_eq (by omega))]
    exact hr
  · obtain ⟨j, rfl⟩ : ∃ j, k = j + 1 := ⟨k - 1, by omega⟩
    rw [hget xs x (j + 1) _ (xs[j]'(by omega)) (by rw [insAt_gt hi (by omega), List.getElem?_eq_getElem]), hget ys y (j + 1) _ (ys[j]'(by omega)) (by rw [insAt_gt (by omega) (by omega), List.getElem?_eq_getElem])]
    exact h.get j (by omega) (by omega)
theorem All2.setAt {α β : Type} {R R' : α → β → Prop} {xs : List α} {ys : List β} (h : All2 R xs ys) {i : Nat} {x : α} {y : β} (hr : R' x y) (ho : ∀ (k : Nat) (h1 : k < xs.length) (h2 : k < ys.length), k ≠ i → R xs[k] ys[k] → R' xs[k] ys[k]) : All2 R' (xs.set i x) (ys.set i y) := by
  refine ⟨by simp [h.len], fun k h1 h2 => ?_⟩
  simp only [List.length_set] at h1 h2
  rw [List.getElem_set, List.getElem_set]
  by_cases e : i = k
  · rw [if_pos e, if_pos e]; exact hr
  · rw [if_neg e, if_neg e]; exact ho k h1 h2 (fun h => e h.symm) (h.get k h1 h2)

/-- ahead of the append: the list stands at its place -/
structure Ready (w : World) (lo : Nat) (F : World → Prop) (L : List PList) (x : PList) (p : Int) (li1 : Sli) (ls1 : List LRow) (L1 : List PList) : Prop where
  own : OwnLs w lo li1 ls1 L1
  lt : kpos L x < L1.length
  set_ : L1.set (kpos L x) ⟨x.Cpu, x.Zone, x.Ty, L1[kpos L x].Pages ++ [p]⟩ = setL L ⟨x.Cpu, x.Zone, x.Ty, pagesAt L x ++ [p]⟩
  key : keyEq L1[kpos L x] x
  sep : ∀ (j : Nat) (hk : kpos L x < ls1.length) (hj : j < ls1.length), j ≠ kpos L x → ∀ g, ownB ls1[kpos L x].Pages.A ls1[kpos L x].Pages.c = some g → ownB ls1[j].Pages.A ls1[j].Pages.c ≠ some g
  frm : ∀ (hk : kpos L x < ls1.length) (w w' : World), w.grownBy w' (ownB ls1[kpos L x].Pages.A ls1[kpos L x].Pages.c) → F w → F w'
  small : L1[kpos L x].Pages.length ≤ 1000
theorem Ready.ext {w w' : World} {lo : Nat} {F : World → Prop} {L : List PList} {x : PList} {p : Int} {li1 : Sli} {ls1 : List LRow} {L1 : List PList} (h : Ready w lo F L x p li1 ls1 L1) (hx : Ext w w') : Ready w' lo F L x p li1 ls1 L1 :=
  ⟨h.own.ext hx, h.lt, h.set_, h.key, h.sep, h.frm, h.small⟩

set_option maxHeartbeats 8000000 in
theorem push_ans (Z m : Sli) (cp : Int) (li lv : Sli) (L : List PList) (ls : List LRow) (x : PList) (y : LRow) (p : Int) (F : World → Prop) (b1 : Nat) (w w0 : World) (hw : Ext w w0) (hbw : w.heap.size ≤ b1) (hb1 : Blk w0 b1 35 (encH ⟨Z, m, cp, li, lv⟩)) (hl : OwnLs w0 w.heap.size li ls L) (hk : rowKey y x) (hyn : y.Pages = .nil) (hxn : x.Pages = [])
    (hsep : SepL ls) (hs : LsS L) (hn : (li.n + 1) * 48 ≤ 140737488355328) (hpn : ∀ l ∈ L, l.Pages.length ≤ 1000) (hFr : Frm F w0) (hFt : ∀ (w w' : World) (row : Option Nat), w.grownBy w' row → (∀ k, row = some k → k = b1 ∨ ownB li.A li.c = some k ∨ w0.heap.size ≤ k) → F w → F w')
    (hFp : ∀ (i : Nat) (hi : i < ls.length) (w w' : World), w.grownBy w' (ownB ls[i].Pages.A ls[i].Pages.c) → F w → F w') :
    AnsX Tryd.prog 123 [.pointer (some ⟨b1, 0, none⟩), .agg (encL y).toArray, .int .i64 p] w0 fun v w' => Ext w w' ∧ F w' ∧ ∃ li' ls', Blk w' b1 35 (encH ⟨Z, m, cp, li', lv⟩) ∧ OwnLs w' w.heap.size li' ls' (setL L ⟨x.Cpu, x.Zone, x.Ty, pagesAt L x ++ [p]⟩) := by
  refine ansx_of Tryd.func123 rfl Tryd.ntmps123 rfl ?_
  have hkx : keyEq x ⟨x.Cpu, x.Zone, x.Ty, pagesAt L x ++ [p]⟩ := ⟨rfl, rfl, rfl⟩
  obtain ⟨kx1, kx2⟩ := kpos_key (L := L) hkx
  refine CW.seq (CW.region (SW.box rfl rfl fun b4 w1 hXX hb4b hb4 => ?_))
  have hb4w : w.heap.size ≤ b4 := Nat.le_trans hw.size hb4b
  have hlow4 := hl.row.lt_size
  (replace hw := Ext.trans hw hXX; replace hb1 := hb1.ext hXX; replace hl := hl.ext hXX; replace hFr := hFr.ext hXX)
  obtain ⟨l1, l2⟩ := hl.rd.len
  obtain ⟨q, hq⟩ : ∃ q, khere L x = q := ⟨_, rfl⟩
  have cL : ∀ w', RdLs w' li ls L → Ans Tryd.prog 121 [.agg (encH ⟨Z, m, cp, li, lv⟩).toArray, .agg (encL y).toArray] w' fun v _ => v = .tuple #[.int .i64 (kpos L x : Int), .bool q] := fun w' h => by
    have := plist_ans ⟨Z, m, cp, li, lv⟩ L ls x y w' h hk (by simp only; omega)
    rwa [hq] at this
  cases q
  · have hkl := kpos_le L x
    repeat' (first | (show CW _ _ _ _ _ _; refine CW.seq ?_) | (show Post _ _ _ _ _; refine Post.seq ?_) | refine SW.nil ?_)
    (apply CW.quiet1 mixed; (· kernel_rfl); rotate_left; intro w1 hw1; replace hw := Ext.trans hw hw1; replace hb1 := hb1.ext hw1; replace hb4 := hb4.ext hw1; replace hl := hl.ext hw1; replace hFr := hFr.ext hw1; clear hw1; rotate_right)
    repeat' (first | (show CW _ _ _ _ _ _; first | refine CW.seq ?_ | refine CW.region ?_ | refine CW.condt rfl ?_) | (show Post _ _ _ _ _; refine Post.seq ?_) | refine SW.nil ?_ | refine SW.pure rfl rfl ?_ | (show SW _ _ _ _ (⟨_, Op.fieldAddr _ _ _, _, _, _, none⟩ :: _) _ _; refine SW.st (st_field rfl) rfl ?_) | (show SW _ _ _ _ (⟨_, Op.nilCheck _, _, _, _, none⟩ :: _) _ _; refine SW.st (st_nilCheck rfl) rfl ?_) | (show SW _ _ _ _ (⟨_, Op.load _ _, _, _, _, none⟩ :: _) _ _; first | refine SW.st (st_loads rfl rfl ((fun _ _ => hb1.cell))) rfl ?_ | refine SW.st (st_loads rfl rfl ((fun _ _ => hb4.cell))) rfl ?_) | (show SW _ _ _ _ (⟨_, Op.call ⟨.value (.func _), _, _⟩, _, _, _, none⟩ :: _) _ _; refine SW.qcall rfl rfl (fun w1 hw1 => (cL _ (hl.rd.ext hw1))) ?_) | exact SW.qnil rfl)
    clear cL
    obtain ⟨yc, yz, yt, yp⟩ := y
    simp only at hyn
    subst hyn
    refine SW.storeB (i := 3) hb4 rfl rfl rfl rfl fun w3 hb4' hg4 => ?_
    replace hw := hw.own hb4w hg4
    replace hb1 := hb1.grT (hb4.gr hg4) rfl
    have hF3 := hFt _ _ _ hg4 (fun k e => by cases e; exact .inr (.inr hb4b)) hFr.at_
    replace hFr := hFr.to hF3
    replace hl : OwnLs w3 w.heap.size li ls L := ⟨hl.row.grown hg4 (.inr (fun e => by have := hlow4 _ e; omega)), hl.each.mono fun _ _ h => h.grT (hb4.gr hg4) rfl⟩
    replace hb4 : Blk w3 b4 84 (encL ⟨yc, yz, yt, .nil⟩) := hb4'
    clear hb4'
    repeat' (first | (show Post _ _ _ _ _; refine Post.seq ?_) | refine SW.nil ?_)
    have hA0 := hl.row.sl.base
    refine CW.anyF 8 11 (fun _ => True) mixed (by kernel_rfl) fun w1 hw1 hRB => ?_
    replace hw := Ext.trans hw hw1; replace hb1 := hb1.ext hw1; replace hb4 := hb4.ext hw1; replace hl := hl.ext hw1; replace hFr := hFr.ext hw1; clear hw1
    refine SF.take2 0 [] hRB rfl (by kernel_rfl) (by kernel_rfl) (by kernel_rfl) (pureV_st rfl) (fun w2 hS => pureV_st rfl) rfl ?_
    refine SF.take 1 [4, 3, 2] [] hRB rfl (by kernel_rfl) (by kernel_rfl) (by kernel_rfl) ?_
    repeat (refine SW.pure rfl rfl ?_)
    refine SW.tknil ?_
    refine SF.take 2 [4, 3] [] hRB rfl (by kernel_rfl) (by kernel_rfl) (by kernel_rfl) ?_
    repeat ((show SW _ _ _ _ (⟨_, Op.nilCheck _, _, _, _, none⟩ :: _) _ _; refine SW.st (st_nilCheck rfl) rfl ?_))
    refine SW.tknil ?_
    refine SF.take 3 [4] [] hRB rfl (by kernel_rfl) (by kernel_rfl) (by kernel_rfl) ?_
    repeat ((show SW _ _ _ _ (⟨_, Op.fieldAddr _ _ _, _, _, _, none⟩ :: _) _ _; refine SW.st (st_field rfl) rfl ?_))
    refine SW.tknil ?_
    refine SF.take 4 [] [] hRB rfl (by kernel_rfl) (by kernel_rfl) (by kernel_rfl) ?_
    repeat ((show SW _ _ _ _ (⟨_, Op.load _ _, _, _, _, none⟩ :: _) _ _; refine SW.st (st_load rfl (hb1.cell (i := 3) (v := .slice li.A li.n li.c) rfl)) rfl ?_))
    refine SW.tknil ?_
    refine SF.take 5 [] [] hRB rfl (by kernel_rfl) (by kernel_rfl) (by kernel_rfl) ?_
    repeat (refine SW.pure rfl rfl ?_)
    refine SW.tknil ?_
    refine SF.take 6 [7] [] hRB rfl (by kernel_rfl) (by kernel_rfl) (by kernel_rfl) ?_
    repeat ((show SW _ _ _ _ (⟨_, Op.load _ _, _, _, _, none⟩ :: _) _ _; refine SW.st (st_loads rfl rfl ((fun _ _ => hb4.cell))) rfl ?_))
    refine SW.tknil ?_
    refine SF.one 7 rfl (by kernel_rfl) rfl ?_
    refine SW.build1 rfl rfl rfl rfl rfl fun b w4 hXX hb hB => ?_
    have hsz0 : w0.heap.size ≤ w4.heap.size := Nat.le_trans (Nat.le_of_lt (Nat.lt_of_le_of_lt hb4b hb4.lt)) hXX.size
    have hneb : ownB li.A li.c ≠ some b := fun e => by have := hl.row.lt_size _ e; omega
    (replace hw := Ext.trans hw hXX; replace hb1 := hb1.ext hXX; replace hl := hl.ext hXX; replace hFr := hFr.ext hXX)
    refine SW.nil (Post.sf hXX ?_)
    refine SF.turn rfl (by kernel_rfl) rfl ?_
    refine SW.callX rfl rfl (InsertLRow_ans li.A li.n li.c w.heap.size ls _ hl.row (kpos L x) (by omega) ⟨yc, yz, yt, .nil⟩ b hB hneb hn hw.size) fun v w5 hv => ?_
    obtain ⟨A2, c2, rfl, hO2, hg, hpos⟩ := hv
    have hG := hl.row.gr hg
    have hS : True := trivial
    replace hw := ext_grown hw hg (Nat.le_refl _) hl.row.row_ge
    have hF5 := hFt _ _ _ hg (fun k e => .inr (.inl e)) hFr.at_
    replace hFr := hFr.to hF5
    replace hb1 := hb1.grT hG rfl
    have hE2 := (hl.each.mono fun _ _ h => h.grT hG rfl).insAt (i := kpos L x) (x := ⟨yc, yz, yt, .nil⟩) (y := ⟨x.Cpu, x.Zone, x.Ty, []⟩) (by omega) ⟨hk.1, hk.2.1, hk.2.2, Own.nil_ _ _ _ _ _ _⟩
    refine SW.nil (Post.sg hS ?_)
    refine SG.one 9 rfl (by kernel_rfl) rfl ?_
    repeat ((show SW _ _ _ _ (⟨_, Op.nilCheck _, _, _, _, none⟩ :: _) _ _; refine SW.st (st_nilCheck rfl) rfl ?_))
    refine SW.nil (Post.sg hS ?_)
    refine SG.one 10 rfl (by kernel_rfl) rfl ?_
    repeat ((show SW _ _ _ _ (⟨_, Op.fieldAddr _ _ _, _, _, _, none⟩ :: _) _ _; refine SW.st (st_field rfl) rfl ?_))
    refine SW.nil (Post.sg hS ?_)
    refine SG.last rfl (by kernel_rfl) (by kernel_rfl) ?_
    refine SW.storeB (i := 3) hb1 rfl rfl rfl rfl fun w6 hb1' hg6 => ?_
    have hG6 := hb1.gr hg6
    replace hw := hw.own hbw hg6
    have hF6 := hFt _ _ _ hg6 (fun k e => by cases e; exact .inl rfl) hFr.at_
    replace hFr := hFr.to hF6
    replace hO2 := hO2.grT hG6 rfl
    replace hE2 := hE2.mono fun _ _ h => h.grT hG6 rfl
    replace hb1 : Blk w6 b1 35 (encH ⟨Z, m, cp, ⟨A2, li.n + 1, c2⟩, lv⟩) := hb1'
    clear hb1'
    have hget : ∀ h : kpos L x < (insAt L (kpos L x) (⟨x.Cpu, x.Zone, x.Ty, []⟩ : PList)).length, (insAt L (kpos L x) (⟨x.Cpu, x.Zone, x.Ty, []⟩ : PList))[kpos L x] = ⟨x.Cpu, x.Zone, x.Ty, []⟩ := fun h => by
      have := insAt_eq (x := (⟨x.Cpu, x.Zone, x.Ty, []⟩ : PList)) hkl
      rw [List.getElem?_eq_getElem h] at this
      exact Option.some.inj this
    have hgetR : ∀ h : kpos L x < (insAt ls (kpos L x) (⟨yc, yz, yt, .nil⟩ : LRow)).length, (insAt ls (kpos L x) (⟨yc, yz, yt, .nil⟩ : LRow))[kpos L x] = ⟨yc, yz, yt, .nil⟩ := fun h => by
      have := insAt_eq (l := ls) (i := kpos L x) (x := (⟨yc, yz, yt, .nil⟩ : LRow)) (by omega)
      rw [List.getElem?_eq_getElem h] at this
      exact Option.some.inj this
    have hltk : kpos L x < (insAt L (kpos L x) (⟨x.Cpu, x.Zone, x.Ty, []⟩ : PList)).length := by rw [length_insAt _ hkl]; omega
    have hR : Ready w6 w.heap.size F L x p ⟨A2, li.n + 1, c2⟩ (insAt ls (kpos L x) ⟨yc, yz, yt, .nil⟩) (insAt L (kpos L x) ⟨x.Cpu, x.Zone, x.Ty, []⟩) := by
      refine ⟨⟨hO2, hE2⟩, hltk, ?_, ?_, fun j h1 h2 hjk g e => ?_, fun h1 w w' hg => ?_, ?_⟩
      · rw [hget hltk, set_insAt hkl, setL_f (by rw [← kx2]; exact hq), ← kx1, pagesAt_f hq]
      · rw [hget hltk]; exact ⟨rfl, rfl, rfl⟩
      · rw [hgetR h1] at e; cases e
      · rw [hgetR h1] at hg
        exact hFr.all _ _ (ext_grown (Ext.refl w) hg (Nat.le_refl _) (fun k e => by cases e))
      · rw [hget hltk]; simp
    clear hE2 hO2 hl hb4
    repeat' (first | (show Post _ _ _ _ _; first | refine Post.seq ?_ | refine Post.np ?_) | refine SW.nil ?_)
    have hA := hR.own.row.sl.base
    have hkn : kpos L x < (li.n + 1) := by have := hR.own.rd.len; have := hR.lt; omega
    have hks : kpos L x < ((insAt ls (kpos L x) (⟨yc, yz, yt, .nil⟩ : LRow))).length := by have := hR.own.rd.len; have := hR.lt; omega
    have hlt := hR.lt
    have hsm := hR.small
    refine CW.anyF 15 18 (fun w2 => Blk w2 b1 35 (encH ⟨Z, m, cp, ⟨A2, li.n + 1, c2⟩, lv⟩)) mixed (by kernel_rfl) fun w1 hw1 hRB => ?_
    replace hw := Ext.trans hw hw1; replace hb1 := hb1.ext hw1; replace hR := hR.ext hw1; replace hFr := hFr.ext hw1; clear hw1
    refine SF.take2 0 [] hRB rfl (by kernel_rfl) (by kernel_rfl) (by kernel_rfl) (pureV_st rfl) (fun w2 hS => pureV_st rfl) rfl ?_
    refine SF.take2 1 [] hRB rfl (by kernel_rfl) (by kernel_rfl) (by kernel_rfl) (st_nilCheck rfl) (fun w2 hS => st_nilCheck rfl) rfl ?_
    refine SF.take2 2 [] hRB rfl (by kernel_rfl) (by kernel_rfl) (by kernel_rfl) (st_field rfl) (fun w2 hS => st_field rfl) rfl ?_
    refine SF.take2 3 [] hRB rfl (by kernel_rfl) (by kernel_rfl) (by kernel_rfl) (st_load rfl (hb1.cell (i := 3) (v := .slice A2 (li.n + 1) c2) rfl)) (fun w2 hS => st_load rfl (hS.cell (i := 3) (v := .slice A2 (li.n + 1) c2) rfl)) rfl ?_
    refine SF.take2 4 [] hRB rfl (by kernel_rfl) (by kernel_rfl) (by kernel_rfl) (pureV_st rfl) (fun w2 hS => pureV_st rfl) rfl ?_
    refine SF.take 5 [12, 11, 10, 8, 7, 6] [] hRB rfl (by kernel_rfl) (by kernel_rfl) (by kernel_rfl) ?_
    repeat (refine SW.pure rfl rfl ?_)
    refine SW.tknil ?_
    refine SF.take 6 [12, 11, 10, 8, 7] [] hRB rfl (by kernel_rfl) (by kernel_rfl) (by kernel_rfl) ?_
    repeat ((show SW _ _ _ _ (⟨_, Op.nilCheck _, _, _, _, none⟩ :: _) _ _; refine SW.st (st_nilCheck rfl) rfl ?_))
    refine SW.tknil ?_
    refine SF.take 7 [12, 11, 10, 8] [] hRB rfl (by kernel_rfl) (by kernel_rfl) (by kernel_rfl) ?_
    repeat ((show SW _ _ _ _ (⟨_, Op.fieldAddr _ _ _, _, _, _, none⟩ :: _) _ _; refine SW.st (st_field rfl) rfl ?_))
    refine SW.tknil ?_
    refine SF.take 8 [12, 11, 10] [] hRB rfl (by kernel_rfl) (by kernel_rfl) (by kernel_rfl) ?_
    repeat ((show SW _ _ _ _ (⟨_, Op.load _ _, _, _, _, none⟩ :: _) _ _; refine SW.st (st_load rfl (hb1.cell (i := 3) (v := .slice A2 (li.n + 1) c2) rfl)) rfl ?_))
    refine SW.tknil ?_
    refine SF.take 9 [12, 11, 10] [] hRB rfl (by kernel_rfl) (by kernel_rfl) (by kernel_rfl) ?_
    repeat (refine SW.pure rfl rfl ?_)
    refine SW.tknil ?_
    refine SF.take 10 [12, 11] [] hRB rfl (by kernel_rfl) (by kernel_rfl) (by kernel_rfl) ?_
    repeat ((show SW _ _ _ _ (⟨_, Op.indexAddr _ _ _, _, _, _, none⟩ :: _) _ _; refine SW.st (st_indexN rfl rfl (by assumption) (by omega)) rfl ?_))
    refine SW.tknil ?_
    refine SF.take 11 [12] [] hRB rfl (by kernel_rfl) (by kernel_rfl) (by kernel_rfl) ?_
    repeat ((show SW _ _ _ _ (⟨_, Op.fieldAddr _ _ _, _, _, _, none⟩ :: _) _ _; refine SW.st (st_field rfl) rfl ?_))
    refine SW.tknil ?_
    refine SF.take 12 [] [] hRB rfl (by kernel_rfl) (by kernel_rfl) (by kernel_rfl) ?_
    repeat ((show SW _ _ _ _ (⟨_, Op.load _ _, _, _, _, none⟩ :: _) _ _; refine SW.st (st_load rfl (hR.own.row.sl.fld hkn (j := 3) (u := .slice ((insAt ls (kpos L x) (⟨yc, yz, yt, .nil⟩ : LRow)))[kpos L x].Pages.A ((insAt ls (kpos L x) (⟨yc, yz, yt, .nil⟩ : LRow)))[kpos L x].Pages.n ((insAt ls (kpos L x) (⟨yc, yz, yt, .nil⟩ : LRow)))[kpos L x].Pages.c) rfl)) rfl ?_))
    refine SW.tknil ?_
    refine SF.take 13 [14] [] hRB rfl (by kernel_rfl) (by kernel_rfl) (by kernel_rfl) ?_
    repeat (refine SW.pure rfl rfl ?_)
    refine SW.tknil ?_
    refine SF.one 14 rfl (by kernel_rfl) rfl ?_
    refine SW.build1 rfl rfl rfl rfl rfl fun b w4 hXX hb hB => ?_
    (replace hw := Ext.trans hw hXX; replace hb1 := hb1.ext hXX; replace hR := hR.ext hXX; replace hFr := hFr.ext hXX)
    refine SW.nil (Post.sf hXX ?_)
    refine SF.turn rfl (by kernel_rfl) rfl ?_
    have hP0 := hR.own.each.get (kpos L x) hks hlt
    have hPg := hP0.pages
    have hpl := hPg.sl.len
    refine SW.append hPg (Blk.sl1 (enc := encI) hB) hw.size rfl rfl rfl (by omega) (by omega) fun A3 c3 w5 hO1 hg => ?_
    have hS := hb1.grT (hPg.gr hg) rfl
    have hrow := hR.own.row.grT (hPg.gr hg) rfl
    have hF5 := hR.frm hks _ _ hg hFr.at_
    replace hw := ext_grown hw hg (Nat.le_refl _) hPg.row_ge
    refine SW.nil (Post.sg hS ?_)
    refine SG.one 16 rfl (by kernel_rfl) rfl ?_
    repeat ((show SW _ _ _ _ (⟨_, Op.indexAddr _ _ _, _, _, _, none⟩ :: _) _ _; refine SW.st (st_indexN rfl rfl (by assumption) (by omega)) rfl ?_))
    refine SW.nil (Post.sg hS ?_)
    refine SG.one 17 rfl (by kernel_rfl) rfl ?_
    repeat ((show SW _ _ _ _ (⟨_, Op.fieldAddr _ _ _, _, _, _, none⟩ :: _) _ _; refine SW.st (st_field rfl) rfl ?_))
    refine SW.nil (Post.sg hS ?_)
    refine SG.last rfl (by kernel_rfl) (by kernel_rfl) ?_
    refine SW.storeO (kpos L x) 3 ⟨((insAt ls (kpos L x) (⟨yc, yz, yt, .nil⟩ : LRow)))[kpos L x].Cpu, ((insAt ls (kpos L x) (⟨yc, yz, yt, .nil⟩ : LRow)))[kpos L x].Zone, ((insAt ls (kpos L x) (⟨yc, yz, yt, .nil⟩ : LRow)))[kpos L x].Ty, ⟨A3, ((insAt ls (kpos L x) (⟨yc, yz, yt, .nil⟩ : LRow)))[kpos L x].Pages.n + 1, c3⟩⟩ hrow rfl rfl rfl hkn (by decide) rfl rfl fun w6 hrow' hg6 => ?_
    have hG6 := hrow.gr hg6
    have hF6 := hFt _ _ _ hg6 (fun k e => by rcases hpos k e with h | h; exact .inr (.inl h); exact .inr (.inr (Nat.le_trans hsz0 h))) hF5
    replace hw := ext_grown hw hg6 (Nat.le_refl _) hrow.row_ge
    repeat' (first | (show Post _ _ _ _ _; refine Post.np ?_) | refine SW.nil ?_)
    refine Post.end0 rfl ⟨_, rfl, hw, hF6, ⟨A2, li.n + 1, c2⟩, ((insAt ls (kpos L x) (⟨yc, yz, yt, .nil⟩ : LRow))).set (kpos L x) ⟨((insAt ls (kpos L x) (⟨yc, yz, yt, .nil⟩ : LRow)))[kpos L x].Cpu, ((insAt ls (kpos L x) (⟨yc, yz, yt, .nil⟩ : LRow)))[kpos L x].Zone, ((insAt ls (kpos L x) (⟨yc, yz, yt, .nil⟩ : LRow)))[kpos L x].Ty, ⟨A3, ((insAt ls (kpos L x) (⟨yc, yz, yt, .nil⟩ : LRow)))[kpos L x].Pages.n + 1, c3⟩⟩, hS.grT (b := b1) (t' := 35) hG6 rfl, ?_⟩
    rw [← hR.set_]
    refine ⟨hrow', All2.setAt (R := OwnL _ w.heap.size) hR.own.each ⟨hP0.cpu.trans hR.key.1, hP0.zone.trans hR.key.2.1, hP0.ty.trans hR.key.2.2, hO1.grT hG6 rfl⟩ fun j h1 h2 hjk ho => ⟨ho.cpu, ho.zone, ho.ty, ?_⟩⟩
    refine (ho.pages.grown hg ?_).grT hG6 rfl
    cases eo : ownB ((insAt ls (kpos L x) (⟨yc, yz, yt, .nil⟩ : LRow)))[j].Pages.A ((insAt ls (kpos L x) (⟨yc, yz, yt, .nil⟩ : LRow)))[j].Pages.c with
    | none => exact .inl rfl
    | some g =>
      right
      intro e
      exact hR.sep j hks h1 hjk g e.symm eo
  · obtain ⟨hkl, hkey⟩ := khere_t hq
    repeat' (first | (show CW _ _ _ _ _ _; refine CW.seq ?_) | (show Post _ _ _ _ _; refine Post.seq ?_) | refine SW.nil ?_)
    (apply CW.quiet1 mixed; (· kernel_rfl); rotate_left; intro w1 hw1; replace hw := Ext.trans hw hw1; replace hb1 := hb1.ext hw1; replace hb4 := hb4.ext hw1; replace hl := hl.ext hw1; replace hFr := hFr.ext hw1; clear hw1; rotate_right)
    repeat' (first | (show CW _ _ _ _ _ _; first | refine CW.seq ?_ | refine CW.region ?_ | refine CW.condf rfl ?_ | refine CW.skip ?_) | (show Post _ _ _ _ _; refine Post.seq ?_) | refine SW.nil ?_ | refine SW.pure rfl rfl ?_ | (show SW _ _ _ _ (⟨_, Op.nilCheck _, _, _, _, none⟩ :: _) _ _; refine SW.st (st_nilCheck rfl) rfl ?_) | (show SW _ _ _ _ (⟨_, Op.load _ _, _, _, _, none⟩ :: _) _ _; first | refine SW.st (st_loads rfl rfl ((fun _ _ => hb1.cell))) rfl ?_ | refine SW.st (st_loads rfl rfl ((fun _ _ => hb4.cell))) rfl ?_) | (show SW _ _ _ _ (⟨_, Op.call ⟨.value (.func _), _, _⟩, _, _, _, none⟩ :: _) _ _; refine SW.qcall rfl rfl (fun w1 hw1 => (cL _ (hl.rd.ext hw1))) ?_) | exact SW.qnil rfl)
    clear cL
    have hR := (⟨hl, hkl, by rw [setL_t (by rw [← kx2]; exact hq), ← kx1, pagesAt_t hq hkl], hkey, fun j h1 h2 hjk g e => hsep _ _ h1 h2 (Ne.symm hjk) g e, fun h1 w w' hg => hFp _ h1 w w' hg, hpn _ (List.getElem_mem hkl)⟩ : Ready _ w.heap.size F L x p li ls L)
    clear hl
    have hA := hR.own.row.sl.base
    have hkn : kpos L x < li.n := by have := hR.own.rd.len; have := hR.lt; omega
    have hks : kpos L x < (ls).length := by have := hR.own.rd.len; have := hR.lt; omega
    have hlt := hR.lt
    have hsm := hR.small
    refine CW.anyF 15 18 (fun w2 => Blk w2 b1 35 (encH ⟨Z, m, cp, li, lv⟩)) mixed (by kernel_rfl) fun w1 hw1 hRB => ?_
    replace hw := Ext.trans hw hw1; replace hb1 := hb1.ext hw1; replace hR := hR.ext hw1; replace hFr := hFr.ext hw1; clear hw1
    refine SF.take2 0 [] hRB rfl (by kernel_rfl) (by kernel_rfl) (by kernel_rfl) (pureV_st rfl) (fun w2 hS => pureV_st rfl) rfl ?_
    refine SF.take2 1 [] hRB rfl (by kernel_rfl) (by kernel_rfl) (by kernel_rfl) (st_nilCheck rfl) (fun w2 hS => st_nilCheck rfl) rfl ?_
    refine SF.take2 2 [] hRB rfl (by kernel_rfl) (by kernel_rfl) (by kernel_rfl) (st_field rfl) (fun w2 hS => st_field rfl) rfl ?_
    refine SF.take2 3 [] hRB rfl (by kernel_rfl) (by kernel_rfl) (by kernel_rfl) (st_load rfl (hb1.cell (i := 3) (v := .slice li.A li.n li.c) rfl)) (fun w2 hS => st_load rfl (hS.cell (i := 3) (v := .slice li.A li.n li.c) rfl)) rfl ?_
    refine SF.take2 4 [] hRB rfl (by kernel_rfl) (by kernel_rfl) (by kernel_rfl) (pureV_st rfl) (fun w2 hS => pureV_st rfl) rfl ?_
    refine SF.take 5 [12, 11, 10, 8, 7, 6] [] hRB rfl (by kernel_rfl) (by kernel_rfl) (by kernel_rfl) ?_
    repeat (refine SW.pure rfl rfl ?_)
    refine SW.tknil ?_
    refine SF.take 6 [12, 11, 10, 8, 7] [] hRB rfl (by kernel_rfl) (by kernel_rfl) (by kernel_rfl) ?_
    repeat ((show SW _ _ _ _ (⟨_, Op.nilCheck _, _, _, _, none⟩ :: _) _ _; refine SW.st (st_nilCheck rfl) rfl ?_))
    refine SW.tknil ?_
    refine SF.take 7 [12, 11, 10, 8] [] hRB rfl (by kernel_rfl) (by kernel_rfl) (by kernel_rfl) ?_
    repeat ((show SW _ _ _ _ (⟨_, Op.fieldAddr _ _ _, _, _, _, none⟩ :: _) _ _; refine SW.st (st_field rfl) rfl ?_))
    refine SW.tknil ?_
    refine SF.take 8 [12, 11, 10] [] hRB rfl (by kernel_rfl) (by kernel_rfl) (by kernel_rfl) ?_
    repeat ((show SW _ _ _ _ (⟨_, Op.load _ _, _, _, _, none⟩ :: _) _ _; refine SW.st (st_load rfl (hb1.cell (i := 3) (v := .slice li.A li.n li.c) rfl)) rfl ?_))
    refine SW.tknil ?_
    refine SF.take 9 [12, 11, 10] [] hRB rfl (by kernel_rfl) (by kernel_rfl) (by kernel_rfl) ?_
    repeat (refine SW.pure rfl rfl ?_)
    refine SW.tknil ?_
    refine SF.take 10 [12, 11] [] hRB rfl (by kernel_rfl) (by kernel_rfl) (by kernel_rfl) ?_
    repeat ((show SW _ _ _ _ (⟨_, Op.indexAddr _ _ _, _, _, _, none⟩ :: _) _ _; refine SW.st (st_indexN rfl rfl (by assumption) (by omega)) rfl ?_))
    refine SW.tknil ?_
    refine SF.take 11 [12] [] hRB rfl (by kernel_rfl) (by kernel_rfl) (by kernel_rfl) ?_
    repeat ((show SW _ _ _ _ (⟨_, Op.fieldAddr _ _ _, _, _, _, none⟩ :: _) _ _; refine SW.st (st_field rfl) rfl ?_))
    refine SW.tknil ?_
    refine SF.take 12 [] [] hRB rfl (by kernel_rfl) (by kernel_rfl) (by kernel_rfl) ?_
    repeat ((show SW _ _ _ _ (⟨_, Op.load _ _, _, _, _, none⟩ :: _) _ _; refine SW.st (st_load rfl (hR.own.row.sl.fld hkn (j := 3) (u := .slice (ls)[kpos L x].Pages.A (ls)[kpos L x].Pages.n (ls)[kpos L x].Pages.c) rfl)) rfl ?_))
    refine SW.tknil ?_
    refine SF.take 13 [14] [] hRB rfl (by kernel_rfl) (by kernel_rfl) (by kernel_rfl) ?_
    repeat (refine SW.pure rfl rfl ?_)
    refine SW.tknil ?_
    refine SF.one 14 rfl (by kernel_rfl) rfl ?_
    refine SW.build1 rfl rfl rfl rfl rfl fun b w4 hXX hb hB => ?_
    (replace hw := Ext.trans hw hXX; replace hb1 := hb1.ext hXX; replace hR := hR.ext hXX; replace hFr := hFr.ext hXX)
    refine SW.nil (Post.sf hXX ?_)
    refine SF.turn rfl (by kernel_rfl) rfl ?_
    have hP0 := hR.own.each.get (kpos L x) hks hlt
    have hPg := hP0.pages
    have hpl := hPg.sl.len
    refine SW.append hPg (Blk.sl1 (enc := encI) hB) hw.size rfl rfl rfl (by omega) (by omega) fun A3 c3 w5 hO1 hg => ?_
    have hS := hb1.grT (hPg.gr hg) rfl
    have hrow := hR.own.row.grT (hPg.gr hg) rfl
    have hF5 := hR.frm hks _ _ hg hFr.at_
    replace hw := ext_grown hw hg (Nat.le_refl _) hPg.row_ge
    refine SW.nil (Post.sg hS ?_)
    refine SG.one 16 rfl (by kernel_rfl) rfl ?_
    repeat ((show SW _ _ _ _ (⟨_, Op.indexAddr _ _ _, _, _, _, none⟩ :: _) _ _; refine SW.st (st_indexN rfl rfl (by assumption) (by omega)) rfl ?_))
    refine SW.nil (Post.sg hS ?_)
    refine SG.one 17 rfl (by kernel_rfl) rfl ?_
    repeat ((show SW _ _ _ _ (⟨_, Op.fieldAddr _ _ _, _, _, _, none⟩ :: _) _ _; refine SW.st (st_field rfl) rfl ?_))
    refine SW.nil (Post.sg hS ?_)
    refine SG.last rfl (by kernel_rfl) (by kernel_rfl) ?_
    refine SW.storeO (kpos L x) 3 ⟨(ls)[kpos L x].Cpu, (ls)[kpos L x].Zone, (ls)[kpos L x].Ty, ⟨A3, (ls)[kpos L x].Pages.n + 1, c3⟩⟩ hrow rfl rfl rfl hkn (by decide) rfl rfl fun w6 hrow' hg6 => ?_
    have hG6 := hrow.gr hg6
    have hF6 := hFt _ _ _ hg6 (fun k e => .inr (.inl e)) hF5
    replace hw := ext_grown hw hg6 (Nat.le_refl _) hrow.row_ge
    repeat' (first | (show Post _ _ _ _ _; refine Post.np ?_) | refine SW.nil ?_)
    refine Post.end0 rfl ⟨_, rfl, hw, hF6, li, (ls).set (kpos L x) ⟨(ls)[kpos L x].Cpu, (ls)[kpos L x].Zone, (ls)[kpos L x].Ty, ⟨A3, (ls)[kpos L x].Pages.n + 1, c3⟩⟩, hS.grT (b := b1) (t' := 35) hG6 rfl, ?_⟩
    rw [← hR.set_]
    refine ⟨hrow', All2.setAt (R := OwnL _ w.heap.size) hR.own.each ⟨hP0.cpu.trans hR.key.1, hP0.zone.trans hR.key.2.1, hP0.ty.trans hR.key.2.2, hO1.grT hG6 rfl⟩ fun j h1 h2 hjk ho => ⟨ho.cpu, ho.zone, ho.ty, ?_⟩⟩
    refine (ho.pages.grown hg ?_).grT hG6 rfl
    cases eo : ownB (ls)[j].Pages.A (ls)[j].Pages.c with
    | none => exact .inl rfl
    | some g =>
      right
      intro e
      exact hR.sep j hks h1 hjk g e.symm eo
end Go.Proofs.YtfommgdbahemfaaDoor

/-
  Plain law: slab.Create (P5.5).
-/
set_option linter.unusedVariables false
namespace Go.Proofs.YtfommgdbahemfaaDoor

def hasN (n : ByteArray) (c : KCache) : Bool := hasS c.Names n
def sizeN (z : Int) (c : KCache) : Bool := decide (c.Size = z)
def KSystem.zero : KSystem := ⟨[], .zero, []⟩
/-- the first of the names that does not come ahead of one -/
def posS (l : List ByteArray) (n : ByteArray) : Nat := (l.takeWhile fun m => lessS m n).length
theorem posS_le (l : List ByteArray) (n : ByteArray) : posS l n ≤ l.length := by
  unfold posS
  exact (List.takeWhile_sublist _).length_le
theorem posS_lt {l : List ByteArray} {n : ByteArray} {j : Nat} (h : j < posS l n) (hj : j < l.length) : lessS l[j] n = true := by
  unfold posS at h
  have h1 : (l.takeWhile fun m => lessS m n)[j] = l[j] := List.IsPrefix.getElem (List.takeWhile_prefix _) h
  rw [← h1]
  have := List.all_takeWhile (p := fun m => lessS m n) (l := l)
  rw [List.all_eq_true] at this
  exact this _ (List.getElem_mem h)
theorem posS_at {l : List ByteArray} {n : ByteArray} (h : posS l n < l.length) : lessS l[posS l n] n = false := by
  induction l with
  | nil => simp at h
  | cons a r ih =>
    unfold posS at h ih ⊢
    by_cases e : lessS a n = true
    · simp only [List.takeWhile_cons, e, if_true, List.length_cons] at h ih ⊢
      simp only [List.getElem_cons_succ]
      exact ih (by omega)
    · have e' : lessS a n = false := by simpa using e
      simp [e']
theorem posS_uniq {l : List ByteArray} {n : ByteArray} {k : Nat} (hk : k ≤ l.length) (h1 : ∀ j (hj : j < l.length), j < k → lessS l[j] n = true) (h2 : ∀ h : k < l.length, lessS l[k] n = false) : posS l n = k := by
  rcases Nat.lt_trichotomy (posS l n) k with h | h | h
  · have := h1 (posS l n) (by omega) h
    rw [posS_at (by omega)] at this
    cases this
  · exact h
  · have := posS_lt h (by have := posS_le l n; omega)
    rw [h2 (by have := posS_le l n; omega)] at this
    cases this
/-- names in order -/
def Sorted (l : List ByteArray) : Prop := ∀ (i j : Nat) (hi : i < l.length) (hj : j < l.length), i < j → lessS l[i] l[j] = true
theorem NamesIn.sorted {acc l : List ByteArray} (h : NamesIn acc l) : Sorted l := by
  have : ∀ (d i : Nat) (hi : i < l.length) (hj : i + d + 1 < l.length), lessS l[i] l[i + d + 1] = true := by
    intro d
    induction d with
    | zero => intro i hi hj; exact (h.each (i + 1) hj).2.2 (by omega)
    | succ d ih =>
      intro i hi hj
      exact lessS_trans (ih i hi (by omega)) ((h.each (i + (d + 1) + 1) hj).2.2 (by omega))
  intro i j hi hj hij
  obtain ⟨d, rfl⟩ : ∃ d, j = i + d + 1 := ⟨j - i - 1, by omega⟩
  exact this d i hi hj
/-- in a sorted list the place parts the names ahead from the names behind -/
theorem posS_ge {l : List ByteArray} {n : ByteArray} (hs : Sorted l) {j : Nat} (h : posS l n ≤ j) (hj : j < l.length) : lessS l[j] n = false := by
  have h0 := posS_at (l := l) (n := n) (by omega)
  by_cases e : posS l n = j
  · subst e; exact h0
  · cases c : lessS l[j] n
    · rfl
    · have := lessS_trans (hs (posS l n) j (by omega) hj (by omega)) c
      rw [h0] at this; cases this
/-- the size as it is aligned -/
def upTo (size align : Int) : Int := (size + align - 1) / align * align
def alignOk (a : Int) : Prop := a = 1 ∨ a = 2 ∨ a = 4 ∨ a = 8
theorem upTo_ok {size align : Int} (ha : alignOk align) (h : 1 ≤ size ∧ size ≤ 64) : size ≤ upTo size align ∧ upTo size align < size + align ∧ upTo size align % align = 0 ∧ upTo size align ≤ 64 := by
  unfold upTo
  rcases ha with rfl | rfl | rfl | rfl <;> omega
theorem upTo_uniq {size align z : Int} (ha : alignOk align) (h : 1 ≤ size ∧ size ≤ 64) (h1 : size ≤ z) (h2 : z % align = 0) (h3 : ∀ y, size ≤ y → y < z → y % align ≠ 0) : z = upTo size align := by
  have ⟨a1, a2, a3, a4⟩ := upTo_ok ha h
  rcases (show z < upTo size align ∨ z = upTo size align ∨ upTo size align < z by omega) with g | g | g
  · exfalso
    unfold upTo at g
    rcases ha with rfl | rfl | rfl | rfl <;> omega
  · exact g
  · exact absurd a3 (h3 _ a1 g)
/-- a cache without slabs -/
def newCache (s : KSystem) (n : ByteArray) (z : Int) : KCache := ⟨[n], z, (layoutF z).2.1, (layoutF z).1, [], List.replicate s.Heap.Cpus.toNat (-1)⟩
def withName (c : KCache) (n : ByteArray) : KCache := ⟨insAt c.Names (posS c.Names n) n, c.Size, c.Per, c.Order, c.Slabs, c.Active⟩
theorem CacheIn.names_len {s : KSystem} {i : Nat} {hi : i < s.Caches.length} (h : CacheIn s i hi) (hH : HeapMay s.Heap) (hI : ∀ (j : Nat) (h : j < s.Caches.length), CacheIn s j h) : s.Caches[i].Names.length ≤ 3512479453921 := by
  have h1 := ahead_ok hH i (by omega) (fun j hj _ => hI j hj)
  have h2 := nodup_step (l := s.Caches[i].Names) h1.1.1 s.Caches[i].Names.length (fun k hk _ => (h.names.each k hk).2.1)
  rw [List.take_length] at h2
  refine names_count (List.nodup_append.1 h2).2.1 fun n hn => ?_
  obtain ⟨k, hk, rfl⟩ := List.getElem_of_mem hn
  exact (h.names.each k hk).1
/-- what slab.Create answers -/
inductive CreR (s : KSystem) (n : ByteArray) (size align : Int) : KSystem × Int → Prop where
  | bad (h : sysB s = false) : CreR s n size align (.zero, 8)
  | form (h : sysB s = true) (hn : ¬ (nameB n = true ∧ alignOk align)) : CreR s n size align (.zero, 3)
  | range (h : sysB s = true) (hn : nameB n = true ∧ alignOk align) (hs : ¬ (1 ≤ size ∧ size ≤ 64)) : CreR s n size align (.zero, 1)
  | twice (h : sysB s = true) (hn : nameB n = true ∧ alignOk align) (hs : 1 ≤ size ∧ size ≤ 64) (ht : s.Caches.any (hasN n) = true) : CreR s n size align (.zero, 5)
  | old {i : Nat} (h : sysB s = true) (hn : nameB n = true ∧ alignOk align) (hs : 1 ≤ size ∧ size ≤ 64) (ht : s.Caches.any (hasN n) = false) (hi : i < s.Caches.length) (hz : s.Caches[i].Size = upTo size align) (ha : ∀ j (hj : j < s.Caches.length), j < i → s.Caches[j].Size ≠ upTo size align) :
      CreR s n size align (⟨s.Words, s.Heap, s.Caches.set i (withName s.Caches[i] n)⟩, 0)
  | full (h : sysB s = true) (hn : nameB n = true ∧ alignOk align) (hs : 1 ≤ size ∧ size ≤ 64) (ht : s.Caches.any (hasN n) = false) (hz : ∀ j (hj : j < s.Caches.length), s.Caches[j].Size ≠ upTo size align) (hc : s.Caches.length = 20) : CreR s n size align (.zero, 9)
  | new (h : sysB s = true) (hn : nameB n = true ∧ alignOk align) (hs : 1 ≤ size ∧ size ≤ 64) (ht : s.Caches.any (hasN n) = false) (hz : ∀ j (hj : j < s.Caches.length), s.Caches[j].Size ≠ upTo size align) (hc : s.Caches.length < 20) :
      CreR s n size align (⟨s.Words, s.Heap, s.Caches ++ [newCache s n (upTo size align)]⟩, 0)
theorem CreR.det {s : KSystem} {n : ByteArray} {size align : Int} {u v : KSystem × Int} (a : CreR s n size align u) (b : CreR s n size align v) : u = v := by
  cases a with
  | bad h => cases b with
    | bad => rfl
    | form h' | range h' | twice h' | old h' | full h' | new h' => rw [h] at h'; cases h'
  | form h hn => cases b with
    | bad h' => rw [h] at h'; cases h'
    | form => rfl
    | range _ h' | twice _ h' | old _ h' | full _ h' | new _ h' => exact absurd h' hn
  | range h hn hs => cases b with
    | bad h' => rw [h] at h'; cases h'
    | form _ h' => exact absurd hn h'
    | range => rfl
    | twice _ _ h' | old _ _ h' | full _ _ h' | new _ _ h' => exact absurd h' hs
  | twice h hn hs ht => cases b with
    | bad h' => rw [h] at h'; cases h'
    | form _ h' => exact absurd hn h'
    | range _ _ h' => exact absurd hs h'
    | twice => rfl
    | old _ _ _ h' | full _ _ _ h' | new _ _ _ h' => rw [ht] at h'; cases h'
  | @old i h hn hs ht hi hz ha => cases b with
    | bad h' => rw [h] at h'; cases h'
    | form _ h' => exact absurd hn h'
    | range _ _ h' => exact absurd hs h'
    | twice _ _ _ h' => rw [ht] at h'; cases h'
    | @old j _ _ _ _ hj hz' ha' =>
      rcases Nat.lt_trichotomy i j with g | g | g
      · exact absurd hz (ha' i hi g)
      · subst g; rfl
      · exact absurd hz' (ha j hj g)
    | full _ _ _ _ h' | new _ _ _ _ h' => exact absurd hz (h' i hi)
  | full h hn hs ht hz hc => cases b with
    | bad h' => rw [h] at h'; cases h'
    | form _ h' => exact absurd hn h'
    | range _ _ h' => exact absurd hs h'
    | twice _ _ _ h' => rw [ht] at h'; cases h'
    | old _ _ _ _ hi h' => exact absurd h' (hz _ hi)
    | full => rfl
    | new _ _ _ _ _ h' => omega
  | new h hn hs ht hz hc => cases b with
    | bad h' => rw [h] at h'; cases h'
    | form _ h' => exact absurd hn h'
    | range _ _ h' => exact absurd hs h'
    | twice _ _ _ h' => rw [ht] at h'; cases h'
    | old _ _ _ _ hi h' => exact absurd h' (hz _ hi)
    | full _ _ _ _ _ h' => omega
    | new => rfl
/-- a system and an error number, in memory of the call's own -/
def SysOut (lo : Nat) (u : KSystem × Int) (v : Value) (w : World) : Prop := ∃ q, v = .tuple #[.agg (encSys q).toArray, .int .i64 u.2] ∧ OwnS w lo q u.1
theorem SysOut.zero (e : Int) (lo : Nat) (w : World) : SysOut lo (.zero, e) (.tuple #[.agg (encSys .zero).toArray, .int .i64 e]) w :=
  ⟨.zero, rfl, Own.nil_ _ _ _ _ _ _, OwnH.zero w lo, ⟨[], OwnCs.nil _ _⟩⟩
theorem Heap.zero_small : Heap.zero.small := by constructor <;> simp [Heap.zero]
theorem KSystem.zero_small : KSystem.zero.small := ⟨by simp [KSystem.zero], Heap.zero_small, by simp [KSystem.zero], by simp [KSystem.zero]⟩
theorem CreR.small {s : KSystem} {n : ByteArray} {size align : Int} {u : KSystem × Int} (a : CreR s n size align u) (hs : s.small) : u.1.small := by
  cases a with
  | bad | form | range | twice | full => exact KSystem.zero_small
  | @old i h hn hs' ht hi hz ha =>
    have hM := sysB_iff.1 h
    have hc := hs.each _ (List.getElem_mem hi)
    refine ⟨hs.words, hs.heap, by simp only [List.length_set]; exact hs.caches, fun c hm => ?_⟩
    rcases List.mem_or_eq_of_mem_set hm with hm | rfl
    · exact hs.each c hm
    · have hl := (hM.each i hi).names_len hM.heap (fun j h => hM.each j h)
      refine ⟨?_, hc.slabs, hc.active⟩
      simp only [withName]
      rw [length_insAt _ (posS_le _ _)]
      omega
  | new h hn hs' ht hz hc =>
    have hM := sysB_iff.1 h
    refine ⟨hs.words, hs.heap, by simp only [List.length_append, List.length_singleton]; omega, fun c hm => ?_⟩
    rcases List.mem_append.1 hm with hm | hm
    · exact hs.each c hm
    · simp only [List.mem_singleton] at hm
      subst hm
      have := hM.heap.cpus
      refine ⟨by simp [newCache], by simp [newCache], ?_⟩
      simp only [newCache, List.length_replicate]
      omega
end Go.Proofs.YtfommgdbahemfaaDoor
