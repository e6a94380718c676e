/-
  Texts of the claim PagesAllocs, part 15: what its theorem leans on.
-/
import Derived.Test.YtfommgdbahemfaaDoorPackPagesAllocs13
import Derived.Test.YtfommgdbahemfaaDoorPackPagesAllocs14
import Derived.Test.YtfommgdbahemfaaDoorPackPagesAllocs10
import Derived.Test.YtfommgdbahemfaaDoorPackPagesAllocs9
import Derived.Test.YtfommgdbahemfaaDoorPackPagesAllocs12
set_option linter.unusedVariables false
set_option linter.unusedSimpArgs false
namespace Go.Proofs.YtfommgdbahemfaaDoor
open Go.RowKit
structure Frm (F : World → Prop) (w : World) : Prop where
 at_ : F w
 all : ∀ w w', Ext w w' → F w → F w'
theorem Frm.ext {F : World → Prop} {w w' : World} (h : Frm F w) (hx : Ext w w') : Frm F w' := ⟨h.all _ _ hx h.at_, h.all⟩
theorem Frm.to {F : World → Prop} {w w' : World} (h : Frm F w) (hf : F w') : Frm F w' := ⟨hf, h.all⟩
theorem All2.insAt {α β : Type} {R : α → β → Prop} {xs : List α} {ys : List β} (h : All2 R xs ys) {i : Nat} (hi : i ≤ xs.length) {x : α} {y : β} (hr : R x y) : All2 R (insAt xs i x) (insAt ys i y) := by
 have hl := h.len
 refine ⟨by rw [length_insAt _ hi, length_insAt _ (by omega), hl], fun k h1 h2 => ?_⟩
 have hget : ∀ {γ : Type} (zs : List γ) (z : γ) (k : Nat) (hk : k < (Proofs.YtfommgdbahemfaaDoor.insAt zs i z).length) (u : γ), (Proofs.YtfommgdbahemfaaDoor.insAt zs i z)[k]? = some u → (Proofs.YtfommgdbahemfaaDoor.insAt zs i z)[k] = u := fun zs z k hk u hu => by
  rw [List.getElem?_eq_getElem hk] at hu; exact Option.some.inj hu
 rw [length_insAt _ hi] at h1
 rcases Nat.lt_trichotomy k i with e | e | e
 ·rw [hget xs x k _ (xs[k]'(by omega)) (by rw [insAt_lt hi e, List.getElem?_eq_getElem]), hget ys y k _ (ys[k]'(by omega)) (by rw [insAt_lt (by omega) e, List.getElem?_eq_getElem])]
  exact h.get k (by omega) (by omega)
 ·subst e
  rw [hget xs x k _ x (insAt_eq hi), hget ys y k _ y (insAt_eq (by omega))]
  exact hr
 ·obtain ⟨j, rfl⟩ : ∃ j, k = j + 1 := ⟨k - 1, by omega⟩
  rw [hget xs x (j + 1) _ (xs[j]'(by omega)) (by rw [insAt_gt hi (by omega), List.getElem?_eq_getElem]), hget ys y (j + 1) _ (ys[j]'(by omega)) (by rw [insAt_gt (by omega) (by omega), List.getElem?_eq_getElem])]
  exact h.get j (by omega) (by omega)
theorem All2.setAt {α β : Type} {R R' : α → β → Prop} {xs : List α} {ys : List β} (h : All2 R xs ys) {i : Nat} {x : α} {y : β} (hr : R' x y) (ho : ∀ (k : Nat) (h1 : k < xs.length) (h2 : k < ys.length), k ≠ i → R xs[k] ys[k] → R' xs[k] ys[k]) : All2 R' (xs.set i x) (ys.set i y) := by
 refine ⟨by simp [h.len], fun k h1 h2 => ?_⟩
 simp only [List.length_set] at h1 h2
 rw [List.getElem_set, List.getElem_set]
 by_cases e : i = k
 ·rw [if_pos e, if_pos e]; exact hr
 ·rw [if_neg e, if_neg e]; exact ho k h1 h2 (fun h => e h.symm) (h.get k h1 h2)
structure Ready (n : Nat) (w : World) (lo : Nat) (F : World → Prop) (L : List PList) (x : PList) (p : Int) (li1 : Sli) (ls1 : List LRow) (L1 : List PList) : Prop where
 own : OwnLs w lo li1 ls1 L1
 lt : kpos L x < L1.length
 set_ : L1.set (kpos L x) ⟨x.Cpu, x.Zone, x.Ty, L1[kpos L x].Pages ++ [p]⟩ = setL L ⟨x.Cpu, x.Zone, x.Ty, pagesAt L x ++ [p]⟩
 key : keyEq L1[kpos L x] x
 sep : ∀ (j : Nat) (hk : kpos L x < ls1.length) (hj : j < ls1.length), j ≠ kpos L x → ∀ g, ownB ls1[kpos L x].Pages.A ls1[kpos L x].Pages.c = some g → ownB ls1[j].Pages.A ls1[j].Pages.c ≠ some g
 frm : ∀ (hk : kpos L x < ls1.length) (w w' : World), w.grownBy w' (ownB ls1[kpos L x].Pages.A ls1[kpos L x].Pages.c) → F w → F w'
 small : L1[kpos L x].Pages.length ≤ 1000
 size : n ≤ w.heap.size
theorem Ready.ext {n : Nat} {w w' : World} {lo : Nat} {F : World → Prop} {L : List PList} {x : PList} {p : Int} {li1 : Sli} {ls1 : List LRow} {L1 : List PList} (h : Ready n w lo F L x p li1 ls1 L1) (hx : Ext w w') : Ready n w' lo F L x p li1 ls1 L1 :=
 ⟨h.own.ext hx, h.lt, h.set_, h.key, h.sep, h.frm, h.small, Nat.le_trans h.size hx.size⟩
set_option maxHeartbeats 8000000 in
theorem push_ans (Z m : Sli) (cp : Int) (li lv : Sli) (L : List PList) (ls : List LRow) (x : PList) (y : LRow) (p : Int) (F : World → Prop) (b1 : Nat) (w w0 : World) (hw : Ext w w0) (hbw : w.heap.size ≤ b1) (hb1 : Blk w0 b1 35 (encH ⟨Z, m, cp, li, lv⟩)) (hl : OwnLs w0 w.heap.size li ls L) (hk : rowKey y x) (hyn : y.Pages = .nil) (hxn : x.Pages = [])
  (hsep : SepL ls) (hs : LsS L) (hn : (li.n + 1) * 48 ≤ 140737488355328) (hpn : ∀ l ∈ L, l.Pages.length ≤ 1000) (hFr : Frm F w0) (hFt : ∀ (w w' : World) (row : Option Nat), w.grownBy w' row → (∀ k, row = some k → k = b1 ∨ ownB li.A li.c = some k ∨ w0.heap.size ≤ k) → F w → F w')
  (hFp : ∀ (i : Nat) (hi : i < ls.length) (w w' : World), w.grownBy w' (ownB ls[i].Pages.A ls[i].Pages.c) → F w → F w') :
  AnsX Tryd.prog 123 [.pointer (some ⟨b1, 0, none⟩), .agg (encL y).toArray, .int .i64 p] w0 fun v w' => Ext w w' ∧ F w' ∧ ∃ li' ls', Blk w' b1 35 (encH ⟨Z, m, cp, li', lv⟩) ∧ OwnLs w' w.heap.size li' ls' (setL L ⟨x.Cpu, x.Zone, x.Ty, pagesAt L x ++ [p]⟩) ∧ PSep w0.heap.size li ls li' ls' := by
 refine ansx_of Tryd.func123 rfl Tryd.ntmps123 rfl ?_
 have hkx : keyEq x ⟨x.Cpu, x.Zone, x.Ty, pagesAt L x ++ [p]⟩ := ⟨rfl, rfl, rfl⟩
 obtain ⟨kx1, kx2⟩ := kpos_key (L := L) hkx
 refine CW.seq (CW.region (SW.box rfl rfl fun b4 w1 hXX hb4b hb4 => ?_))
 have hb4w : w.heap.size ≤ b4 := Nat.le_trans hw.size hb4b
 have hlow4 := hl.row.lt_size
 have hltP : ∀ z ∈ ls, ∀ g, ob z.Pages = some g → g < w0.heap.size := fun z hz g e => by
  obtain ⟨j, hj, rfl⟩ := List.getElem_of_mem hz
  exact (hl.each.get j hj (by rw [← hl.each.len]; exact hj)).pages.lt_size g e
 (replace hw := Ext.trans hw hXX; replace hb1 := hb1.ext hXX; replace hl := hl.ext hXX; replace hFr := hFr.ext hXX)
 obtain ⟨l1, l2⟩ := hl.rd.len
 obtain ⟨q, hq⟩ : ∃ q, khere L x = q := ⟨_, rfl⟩
 have cL : ∀ w', RdLs w' li ls L → Ans Tryd.prog 121 [.agg (encH ⟨Z, m, cp, li, lv⟩).toArray, .agg (encL y).toArray] w' fun v _ => v = .tuple #[.int .i64 (kpos L x : Int), .bool q] := fun w' h => by
  have := plist_ans ⟨Z, m, cp, li, lv⟩ L ls x y w' h hk (by simp only; omega)
  rwa [hq] at this
 cases q
 ·have hkl := kpos_le L x
  have hkls : kpos L x ≤ ls.length := by omega
  repeat' (first | (show CW _ _ _ _ _ _; refine CW.seq ?_) | (show Post _ _ _ _ _; refine Post.seq ?_) | refine SW.nil ?_)
  (apply CW.quiet1 mixed; (· kernel_rfl); rotate_left; intro w1 hw1; replace hw := Ext.trans hw hw1; replace hb1 := hb1.ext hw1; replace hb4 := hb4.ext hw1; replace hl := hl.ext hw1; replace hFr := hFr.ext hw1; clear hw1; rotate_right)
  repeat' (first | (show CW _ _ _ _ _ _; first | refine CW.seq ?_ | refine CW.region ?_ | refine CW.condt rfl ?_) | (show Post _ _ _ _ _; refine Post.seq ?_) | refine SW.nil ?_ | refine SW.pure rfl rfl ?_ | (show SW _ _ _ _ (⟨_, Op.fieldAddr _ _ _, _, _, _, none⟩ :: _) _ _; refine SW.st (st_field rfl) rfl ?_) | (show SW _ _ _ _ (⟨_, Op.nilCheck _, _, _, _, none⟩ :: _) _ _; refine SW.st (st_nilCheck rfl) rfl ?_) | (show SW _ _ _ _ (⟨_, Op.load _ _, _, _, _, none⟩ :: _) _ _; first | refine SW.st (st_loads rfl rfl ((fun _ _ => hb1.cell))) rfl ?_ | refine SW.st (st_loads rfl rfl ((fun _ _ => hb4.cell))) rfl ?_) | (show SW _ _ _ _ (⟨_, Op.call ⟨.value (.func _), _, _⟩, _, _, _, none⟩ :: _) _ _; refine SW.qcall rfl rfl (fun w1 hw1 => (cL _ (hl.rd.ext hw1))) ?_) | exact SW.qnil rfl)
  clear cL
  obtain ⟨yc, yz, yt, yp⟩ := y
  simp only at hyn
  subst hyn
  refine SW.storeB (i := 3) hb4 rfl rfl rfl rfl fun w3 hb4' hg4 => ?_
  replace hw := hw.own hb4w hg4
  replace hb1 := hb1.grT (hb4.gr hg4) rfl
  have hF3 := hFt _ _ _ hg4 (fun k e => by cases e; exact .inr (.inr hb4b)) hFr.at_
  replace hFr := hFr.to hF3
  replace hl : OwnLs w3 w.heap.size li ls L := ⟨hl.row.grown hg4 (.inr (fun e => by have := hlow4 _ e; omega)), hl.each.mono fun _ _ h => h.grT (hb4.gr hg4) rfl⟩
  replace hb4 : Blk w3 b4 84 (encL ⟨yc, yz, yt, .nil⟩) := hb4'
  clear hb4'
  repeat' (first | (show Post _ _ _ _ _; refine Post.seq ?_) | refine SW.nil ?_)
  have hA0 := hl.row.sl.base
  refine CW.anyF 8 11 (fun _ => True) mixed (by kernel_rfl) fun w1 hw1 hRB => ?_
  replace hw := Ext.trans hw hw1; replace hb1 := hb1.ext hw1; replace hb4 := hb4.ext hw1; replace hl := hl.ext hw1; replace hFr := hFr.ext hw1; clear hw1
  refine SF.take2 0 [] hRB rfl (by kernel_rfl) (by kernel_rfl) (by kernel_rfl) (pureV_st rfl) (fun w2 hS => pureV_st rfl) rfl ?_
  refine SF.take 1 [4, 3, 2] [] hRB rfl (by kernel_rfl) (by kernel_rfl) (by kernel_rfl) ?_
  repeat (refine SW.pure rfl rfl ?_)
  refine SW.tknil ?_
  refine SF.take 2 [4, 3] [] hRB rfl (by kernel_rfl) (by kernel_rfl) (by kernel_rfl) ?_
  repeat ((show SW _ _ _ _ (⟨_, Op.nilCheck _, _, _, _, none⟩ :: _) _ _; refine SW.st (st_nilCheck rfl) rfl ?_))
  refine SW.tknil ?_
  refine SF.take 3 [4] [] hRB rfl (by kernel_rfl) (by kernel_rfl) (by kernel_rfl) ?_
  repeat ((show SW _ _ _ _ (⟨_, Op.fieldAddr _ _ _, _, _, _, none⟩ :: _) _ _; refine SW.st (st_field rfl) rfl ?_))
  refine SW.tknil ?_
  refine SF.take 4 [] [] hRB rfl (by kernel_rfl) (by kernel_rfl) (by kernel_rfl) ?_
  repeat ((show SW _ _ _ _ (⟨_, Op.load _ _, _, _, _, none⟩ :: _) _ _; refine SW.st (st_load rfl (hb1.cell (i := 3) (v := .slice li.A li.n li.c) rfl)) rfl ?_))
  refine SW.tknil ?_
  refine SF.take 5 [] [] hRB rfl (by kernel_rfl) (by kernel_rfl) (by kernel_rfl) ?_
  repeat (refine SW.pure rfl rfl ?_)
  refine SW.tknil ?_
  refine SF.take 6 [7] [] hRB rfl (by kernel_rfl) (by kernel_rfl) (by kernel_rfl) ?_
  repeat ((show SW _ _ _ _ (⟨_, Op.load _ _, _, _, _, none⟩ :: _) _ _; refine SW.st (st_loads rfl rfl ((fun _ _ => hb4.cell))) rfl ?_))
  refine SW.tknil ?_
  refine SF.one 7 rfl (by kernel_rfl) rfl ?_
  refine SW.build1 rfl rfl rfl rfl rfl fun b w4 hXX hb hB => ?_
  have hsz0 : w0.heap.size ≤ w4.heap.size := Nat.le_trans (Nat.le_of_lt (Nat.lt_of_le_of_lt hb4b hb4.lt)) hXX.size
  have hneb : ownB li.A li.c ≠ some b := fun e => by have := hl.row.lt_size _ e; omega
  (replace hw := Ext.trans hw hXX; replace hb1 := hb1.ext hXX; replace hl := hl.ext hXX; replace hFr := hFr.ext hXX)
  refine SW.nil (Post.sf hXX ?_)
  refine SF.turn rfl (by kernel_rfl) rfl ?_
  refine SW.callX rfl rfl (InsertLRow_ans li.A li.n li.c w.heap.size ls _ hl.row (kpos L x) (by omega) ⟨yc, yz, yt, .nil⟩ b hB hneb hn hw.size) fun v w5 hv => ?_
  obtain ⟨A2, c2, rfl, hO2, hg, hpos⟩ := hv
  have hG := hl.row.gr hg
  have hS : True := trivial
  replace hw := ext_grown hw hg (Nat.le_refl _) hl.row.row_ge
  have hF5 := hFt _ _ _ hg (fun k e => .inr (.inl e)) hFr.at_
  replace hFr := hFr.to hF5
  replace hb1 := hb1.grT hG rfl
  have hE2 := (hl.each.mono fun _ _ h => h.grT hG rfl).insAt (i := kpos L x) (x := ⟨yc, yz, yt, .nil⟩) (y := ⟨x.Cpu, x.Zone, x.Ty, []⟩) (by omega) ⟨hk.1, hk.2.1, hk.2.2, Own.nil_ _ _ _ _ _ _⟩
  refine SW.nil (Post.sg hS ?_)
  refine SG.one 9 rfl (by kernel_rfl) rfl ?_
  repeat ((show SW _ _ _ _ (⟨_, Op.nilCheck _, _, _, _, none⟩ :: _) _ _; refine SW.st (st_nilCheck rfl) rfl ?_))
  refine SW.nil (Post.sg hS ?_)
  refine SG.one 10 rfl (by kernel_rfl) rfl ?_
  repeat ((show SW _ _ _ _ (⟨_, Op.fieldAddr _ _ _, _, _, _, none⟩ :: _) _ _; refine SW.st (st_field rfl) rfl ?_))
  refine SW.nil (Post.sg hS ?_)
  refine SG.last rfl (by kernel_rfl) (by kernel_rfl) ?_
  refine SW.storeB (i := 3) hb1 rfl rfl rfl rfl fun w6 hb1' hg6 => ?_
  have hG6 := hb1.gr hg6
  have hsz6 : w0.heap.size ≤ w6.heap.size := Nat.le_trans hsz0 (Nat.le_trans hg.size hg6.size)
  have hposI := hpos
  replace hw := hw.own hbw hg6
  have hF6 := hFt _ _ _ hg6 (fun k e => by cases e; exact .inl rfl) hFr.at_
  replace hFr := hFr.to hF6
  replace hO2 := hO2.grT hG6 rfl
  replace hE2 := hE2.mono fun _ _ h => h.grT hG6 rfl
  replace hb1 : Blk w6 b1 35 (encH ⟨Z, m, cp, ⟨A2, li.n + 1, c2⟩, lv⟩) := hb1'
  clear hb1'
  have hget : ∀ h : kpos L x < (insAt L (kpos L x) (⟨x.Cpu, x.Zone, x.Ty, []⟩ : PList)).length, (insAt L (kpos L x) (⟨x.Cpu, x.Zone, x.Ty, []⟩ : PList))[kpos L x] = ⟨x.Cpu, x.Zone, x.Ty, []⟩ := fun h => by
   have := insAt_eq (x := (⟨x.Cpu, x.Zone, x.Ty, []⟩ : PList)) hkl
   rw [List.getElem?_eq_getElem h] at this
   exact Option.some.inj this
  have hgetR : ∀ h : kpos L x < (insAt ls (kpos L x) (⟨yc, yz, yt, .nil⟩ : LRow)).length, (insAt ls (kpos L x) (⟨yc, yz, yt, .nil⟩ : LRow))[kpos L x] = ⟨yc, yz, yt, .nil⟩ := fun h => by
   have := insAt_eq (l := ls) (i := kpos L x) (x := (⟨yc, yz, yt, .nil⟩ : LRow)) (by omega)
   rw [List.getElem?_eq_getElem h] at this
   exact Option.some.inj this
  have hltk : kpos L x < (insAt L (kpos L x) (⟨x.Cpu, x.Zone, x.Ty, []⟩ : PList)).length := by rw [length_insAt _ hkl]; omega
  have hR : Ready w0.heap.size w6 w.heap.size F L x p ⟨A2, li.n + 1, c2⟩ (insAt ls (kpos L x) ⟨yc, yz, yt, .nil⟩) (insAt L (kpos L x) ⟨x.Cpu, x.Zone, x.Ty, []⟩) := by
   refine ⟨⟨hO2, hE2⟩, hltk, ?_, ?_, fun j h1 h2 hjk g e => ?_, fun h1 w w' hg => ?_, ?_, hsz6⟩
   ·rw [hget hltk, set_insAt hkl, setL_f (by rw [← kx2]; exact hq), ← kx1, pagesAt_f hq]
   ·rw [hget hltk]; exact ⟨rfl, rfl, rfl⟩
   ·rw [hgetR h1] at e; cases e
   ·rw [hgetR h1] at hg
    exact hFr.all _ _ (ext_grown (Ext.refl w) hg (Nat.le_refl _) (fun k e => by cases e))
   ·rw [hget hltk]; simp
  clear hE2 hO2 hl hb4
  repeat' (first | (show Post _ _ _ _ _; first | refine Post.seq ?_ | refine Post.np ?_) | refine SW.nil ?_)
  have hA := hR.own.row.sl.base
  have hkn : kpos L x < (li.n + 1) := by have := hR.own.rd.len; have := hR.lt; omega
  have hks : kpos L x < ((insAt ls (kpos L x) (⟨yc, yz, yt, .nil⟩ : LRow))).length := by have := hR.own.rd.len; have := hR.lt; omega
  have hlt := hR.lt
  have hsm := hR.small
  refine CW.anyF 15 18 (fun w2 => Blk w2 b1 35 (encH ⟨Z, m, cp, ⟨A2, li.n + 1, c2⟩, lv⟩)) mixed (by kernel_rfl) fun w1 hw1 hRB => ?_
  replace hw := Ext.trans hw hw1; replace hb1 := hb1.ext hw1; replace hR := hR.ext hw1; replace hFr := hFr.ext hw1; clear hw1
  refine SF.take2 0 [] hRB rfl (by kernel_rfl) (by kernel_rfl) (by kernel_rfl) (pureV_st rfl) (fun w2 hS => pureV_st rfl) rfl ?_
  refine SF.take2 1 [] hRB rfl (by kernel_rfl) (by kernel_rfl) (by kernel_rfl) (st_nilCheck rfl) (fun w2 hS => st_nilCheck rfl) rfl ?_
  refine SF.take2 2 [] hRB rfl (by kernel_rfl) (by kernel_rfl) (by kernel_rfl) (st_field rfl) (fun w2 hS => st_field rfl) rfl ?_
  refine SF.take2 3 [] hRB rfl (by kernel_rfl) (by kernel_rfl) (by kernel_rfl) (st_load rfl (hb1.cell (i := 3) (v := .slice A2 (li.n + 1) c2) rfl)) (fun w2 hS => st_load rfl (hS.cell (i := 3) (v := .slice A2 (li.n + 1) c2) rfl)) rfl ?_
  refine SF.take2 4 [] hRB rfl (by kernel_rfl) (by kernel_rfl) (by kernel_rfl) (pureV_st rfl) (fun w2 hS => pureV_st rfl) rfl ?_
  refine SF.take 5 [12, 11, 10, 8, 7, 6] [] hRB rfl (by kernel_rfl) (by kernel_rfl) (by kernel_rfl) ?_
  repeat (refine SW.pure rfl rfl ?_)
  refine SW.tknil ?_
  refine SF.take 6 [12, 11, 10, 8, 7] [] hRB rfl (by kernel_rfl) (by kernel_rfl) (by kernel_rfl) ?_
  repeat ((show SW _ _ _ _ (⟨_, Op.nilCheck _, _, _, _, none⟩ :: _) _ _; refine SW.st (st_nilCheck rfl) rfl ?_))
  refine SW.tknil ?_
  refine SF.take 7 [12, 11, 10, 8] [] hRB rfl (by kernel_rfl) (by kernel_rfl) (by kernel_rfl) ?_
  repeat ((show SW _ _ _ _ (⟨_, Op.fieldAddr _ _ _, _, _, _, none⟩ :: _) _ _; refine SW.st (st_field rfl) rfl ?_))
  refine SW.tknil ?_
  refine SF.take 8 [12, 11, 10] [] hRB rfl (by kernel_rfl) (by kernel_rfl) (by kernel_rfl) ?_
  repeat ((show SW _ _ _ _ (⟨_, Op.load _ _, _, _, _, none⟩ :: _) _ _; refine SW.st (st_load rfl (hb1.cell (i := 3) (v := .slice A2 (li.n + 1) c2) rfl)) rfl ?_))
  refine SW.tknil ?_
  refine SF.take 9 [12, 11, 10] [] hRB rfl (by kernel_rfl) (by kernel_rfl) (by kernel_rfl) ?_
  repeat (refine SW.pure rfl rfl ?_)
  refine SW.tknil ?_
  refine SF.take 10 [12, 11] [] hRB rfl (by kernel_rfl) (by kernel_rfl) (by kernel_rfl) ?_
  repeat ((show SW _ _ _ _ (⟨_, Op.indexAddr _ _ _, _, _, _, none⟩ :: _) _ _; refine SW.st (st_indexN rfl rfl (by assumption) (by omega)) rfl ?_))
  refine SW.tknil ?_
  refine SF.take 11 [12] [] hRB rfl (by kernel_rfl) (by kernel_rfl) (by kernel_rfl) ?_
  repeat ((show SW _ _ _ _ (⟨_, Op.fieldAddr _ _ _, _, _, _, none⟩ :: _) _ _; refine SW.st (st_field rfl) rfl ?_))
  refine SW.tknil ?_
  refine SF.take 12 [] [] hRB rfl (by kernel_rfl) (by kernel_rfl) (by kernel_rfl) ?_
  repeat ((show SW _ _ _ _ (⟨_, Op.load _ _, _, _, _, none⟩ :: _) _ _; refine SW.st (st_load rfl (hR.own.row.sl.fld hkn (j := 3) (u := .slice ((insAt ls (kpos L x) (⟨yc, yz, yt, .nil⟩ : LRow)))[kpos L x].Pages.A ((insAt ls (kpos L x) (⟨yc, yz, yt, .nil⟩ : LRow)))[kpos L x].Pages.n ((insAt ls (kpos L x) (⟨yc, yz, yt, .nil⟩ : LRow)))[kpos L x].Pages.c) rfl)) rfl ?_))
  refine SW.tknil ?_
  refine SF.take 13 [14] [] hRB rfl (by kernel_rfl) (by kernel_rfl) (by kernel_rfl) ?_
  repeat (refine SW.pure rfl rfl ?_)
  refine SW.tknil ?_
  refine SF.one 14 rfl (by kernel_rfl) rfl ?_
  refine SW.build1 rfl rfl rfl rfl rfl fun b w4 hXX hb hB => ?_
  (replace hw := Ext.trans hw hXX; replace hb1 := hb1.ext hXX; replace hR := hR.ext hXX; replace hFr := hFr.ext hXX)
  have hsz4 : w0.heap.size ≤ w4.heap.size := hR.size
  refine SW.nil (Post.sf hXX ?_)
  refine SF.turn rfl (by kernel_rfl) rfl ?_
  have hP0 := hR.own.each.get (kpos L x) hks hlt
  have hPg := hP0.pages
  have hpl := hPg.sl.len
  refine SW.append3 hPg (Blk.sl1 (enc := encI) hB) hw.size (by decide) rfl rfl rfl (by omega) (by omega) fun A3 c3 w5 hO1 hg hpos3 => ?_
  have hS := hb1.grT (hPg.gr hg) rfl
  have hrow := hR.own.row.grT (hPg.gr hg) rfl
  have hF5 := hR.frm hks _ _ hg hFr.at_
  replace hw := ext_grown hw hg (Nat.le_refl _) hPg.row_ge
  refine SW.nil (Post.sg hS ?_)
  refine SG.one 16 rfl (by kernel_rfl) rfl ?_
  repeat ((show SW _ _ _ _ (⟨_, Op.indexAddr _ _ _, _, _, _, none⟩ :: _) _ _; refine SW.st (st_indexN rfl rfl (by assumption) (by omega)) rfl ?_))
  refine SW.nil (Post.sg hS ?_)
  refine SG.one 17 rfl (by kernel_rfl) rfl ?_
  repeat ((show SW _ _ _ _ (⟨_, Op.fieldAddr _ _ _, _, _, _, none⟩ :: _) _ _; refine SW.st (st_field rfl) rfl ?_))
  refine SW.nil (Post.sg hS ?_)
  refine SG.last rfl (by kernel_rfl) (by kernel_rfl) ?_
  refine SW.storeO (kpos L x) 3 ⟨((insAt ls (kpos L x) (⟨yc, yz, yt, .nil⟩ : LRow)))[kpos L x].Cpu, ((insAt ls (kpos L x) (⟨yc, yz, yt, .nil⟩ : LRow)))[kpos L x].Zone, ((insAt ls (kpos L x) (⟨yc, yz, yt, .nil⟩ : LRow)))[kpos L x].Ty, ⟨A3, ((insAt ls (kpos L x) (⟨yc, yz, yt, .nil⟩ : LRow)))[kpos L x].Pages.n + 1, c3⟩⟩ hrow rfl rfl rfl hkn (by decide) rfl rfl fun w6 hrow' hg6 => ?_
  have hG6 := hrow.gr hg6
  have hF6 := hFt _ _ _ hg6 (fun k e => by rcases hpos k e with h | h; exact .inr (.inl h); exact .inr (.inr (Nat.le_trans hsz0 h))) hF5
  replace hw := ext_grown hw hg6 (Nat.le_refl _) hrow.row_ge
  repeat' (first | (show Post _ _ _ _ _; refine Post.np ?_) | refine SW.nil ?_)
  refine Post.end0 rfl ⟨_, rfl, hw, hF6, ⟨A2, li.n + 1, c2⟩, ((insAt ls (kpos L x) (⟨yc, yz, yt, .nil⟩ : LRow))).set (kpos L x) ⟨((insAt ls (kpos L x) (⟨yc, yz, yt, .nil⟩ : LRow)))[kpos L x].Cpu, ((insAt ls (kpos L x) (⟨yc, yz, yt, .nil⟩ : LRow)))[kpos L x].Zone, ((insAt ls (kpos L x) (⟨yc, yz, yt, .nil⟩ : LRow)))[kpos L x].Ty, ⟨A3, ((insAt ls (kpos L x) (⟨yc, yz, yt, .nil⟩ : LRow)))[kpos L x].Pages.n + 1, c3⟩⟩, hS.grT (b := b1) (t' := 35) hG6 rfl, ?_⟩
  have hPS : PSep w0.heap.size li ls ⟨A2, li.n + 1, c2⟩ ((insAt ls (kpos L x) (⟨yc, yz, yt, .nil⟩ : LRow)).set (kpos L x) ⟨((insAt ls (kpos L x) (⟨yc, yz, yt, .nil⟩ : LRow)))[kpos L x].Cpu, ((insAt ls (kpos L x) (⟨yc, yz, yt, .nil⟩ : LRow)))[kpos L x].Zone, ((insAt ls (kpos L x) (⟨yc, yz, yt, .nil⟩ : LRow)))[kpos L x].Ty, ⟨A3, ((insAt ls (kpos L x) (⟨yc, yz, yt, .nil⟩ : LRow)))[kpos L x].Pages.n + 1, c3⟩⟩) := by
   rw [set_insAt hkls]
   refine PSep.ins hsep hltP (fun g e => ?_) (fun k e => (hposI k e).imp id (fun h => Nat.le_trans hsz0 h))
   rcases hpos3 g e with h | h
   ·rw [hgetR hks] at h; cases h
   ·exact Nat.le_trans hsz4 h
  refine ⟨?_, hPS⟩
  rw [← hR.set_]
  refine ⟨hrow', All2.setAt (R := OwnL _ w.heap.size) hR.own.each ⟨hP0.cpu.trans hR.key.1, hP0.zone.trans hR.key.2.1, hP0.ty.trans hR.key.2.2, hO1.grT hG6 rfl⟩ fun j h1 h2 hjk ho => ⟨ho.cpu, ho.zone, ho.ty, ?_⟩⟩
  refine (ho.pages.grown hg ?_).grT hG6 rfl
  cases eo : ownB ((insAt ls (kpos L x) (⟨yc, yz, yt, .nil⟩ : LRow)))[j].Pages.A ((insAt ls (kpos L x) (⟨yc, yz, yt, .nil⟩ : LRow)))[j].Pages.c with
  | none => exact .inl rfl
  | some g =>
   right
   intro e
   exact hR.sep j hks h1 hjk g e.symm eo
 ·obtain ⟨hkl, hkey⟩ := khere_t hq
  repeat' (first | (show CW _ _ _ _ _ _; refine CW.seq ?_) | (show Post _ _ _ _ _; refine Post.seq ?_) | refine SW.nil ?_)
  (apply CW.quiet1 mixed; (· kernel_rfl); rotate_left; intro w1 hw1; replace hw := Ext.trans hw hw1; replace hb1 := hb1.ext hw1; replace hb4 := hb4.ext hw1; replace hl := hl.ext hw1; replace hFr := hFr.ext hw1; clear hw1; rotate_right)
  repeat' (first | (show CW _ _ _ _ _ _; first | refine CW.seq ?_ | refine CW.region ?_ | refine CW.condf rfl ?_ | refine CW.skip ?_) | (show Post _ _ _ _ _; refine Post.seq ?_) | refine SW.nil ?_ | refine SW.pure rfl rfl ?_ | (show SW _ _ _ _ (⟨_, Op.nilCheck _, _, _, _, none⟩ :: _) _ _; refine SW.st (st_nilCheck rfl) rfl ?_) | (show SW _ _ _ _ (⟨_, Op.load _ _, _, _, _, none⟩ :: _) _ _; first | refine SW.st (st_loads rfl rfl ((fun _ _ => hb1.cell))) rfl ?_ | refine SW.st (st_loads rfl rfl ((fun _ _ => hb4.cell))) rfl ?_) | (show SW _ _ _ _ (⟨_, Op.call ⟨.value (.func _), _, _⟩, _, _, _, none⟩ :: _) _ _; refine SW.qcall rfl rfl (fun w1 hw1 => (cL _ (hl.rd.ext hw1))) ?_) | exact SW.qnil rfl)
  clear cL
  have hsz0 := Nat.le_trans hb4b (Nat.le_of_lt hb4.lt)
  have hR := (⟨hl, hkl, by rw [setL_t (by rw [← kx2]; exact hq), ← kx1, pagesAt_t hq hkl], hkey, fun j h1 h2 hjk g e => hsep _ _ h1 h2 (Ne.symm hjk) g e, fun h1 w w' hg => hFp _ h1 w w' hg, hpn _ (List.getElem_mem hkl), hsz0⟩ : Ready w0.heap.size _ w.heap.size F L x p li ls L)
  clear hl
  have hA := hR.own.row.sl.base
  have hkn : kpos L x < li.n := by have := hR.own.rd.len; have := hR.lt; omega
  have hks : kpos L x < (ls).length := by have := hR.own.rd.len; have := hR.lt; omega
  have hlt := hR.lt
  have hsm := hR.small
  refine CW.anyF 15 18 (fun w2 => Blk w2 b1 35 (encH ⟨Z, m, cp, li, lv⟩)) mixed (by kernel_rfl) fun w1 hw1 hRB => ?_
  replace hw := Ext.trans hw hw1; replace hb1 := hb1.ext hw1; replace hR := hR.ext hw1; replace hFr := hFr.ext hw1; clear hw1
  refine SF.take2 0 [] hRB rfl (by kernel_rfl) (by kernel_rfl) (by kernel_rfl) (pureV_st rfl) (fun w2 hS => pureV_st rfl) rfl ?_
  refine SF.take2 1 [] hRB rfl (by kernel_rfl) (by kernel_rfl) (by kernel_rfl) (st_nilCheck rfl) (fun w2 hS => st_nilCheck rfl) rfl ?_
  refine SF.take2 2 [] hRB rfl (by kernel_rfl) (by kernel_rfl) (by kernel_rfl) (st_field rfl) (fun w2 hS => st_field rfl) rfl ?_
  refine SF.take2 3 [] hRB rfl (by kernel_rfl) (by kernel_rfl) (by kernel_rfl) (st_load rfl (hb1.cell (i := 3) (v := .slice li.A li.n li.c) rfl)) (fun w2 hS => st_load rfl (hS.cell (i := 3) (v := .slice li.A li.n li.c) rfl)) rfl ?_
  refine SF.take2 4 [] hRB rfl (by kernel_rfl) (by kernel_rfl) (by kernel_rfl) (pureV_st rfl) (fun w2 hS => pureV_st rfl) rfl ?_
  refine SF.take 5 [12, 11, 10, 8, 7, 6] [] hRB rfl (by kernel_rfl) (by kernel_rfl) (by kernel_rfl) ?_
  repeat (refine SW.pure rfl rfl ?_)
  refine SW.tknil ?_
  refine SF.take 6 [12, 11, 10, 8, 7] [] hRB rfl (by kernel_rfl) (by kernel_rfl) (by kernel_rfl) ?_
  repeat ((show SW _ _ _ _ (⟨_, Op.nilCheck _, _, _, _, none⟩ :: _) _ _; refine SW.st (st_nilCheck rfl) rfl ?_))
  refine SW.tknil ?_
  refine SF.take 7 [12, 11, 10, 8] [] hRB rfl (by kernel_rfl) (by kernel_rfl) (by kernel_rfl) ?_
  repeat ((show SW _ _ _ _ (⟨_, Op.fieldAddr _ _ _, _, _, _, none⟩ :: _) _ _; refine SW.st (st_field rfl) rfl ?_))
  refine SW.tknil ?_
  refine SF.take 8 [12, 11, 10] [] hRB rfl (by kernel_rfl) (by kernel_rfl) (by kernel_rfl) ?_
  repeat ((show SW _ _ _ _ (⟨_, Op.load _ _, _, _, _, none⟩ :: _) _ _; refine SW.st (st_load rfl (hb1.cell (i := 3) (v := .slice li.A li.n li.c) rfl)) rfl ?_))
  refine SW.tknil ?_
  refine SF.take 9 [12, 11, 10] [] hRB rfl (by kernel_rfl) (by kernel_rfl) (by kernel_rfl) ?_
  repeat (refine SW.pure rfl rfl ?_)
  refine SW.tknil ?_
  refine SF.take 10 [12, 11] [] hRB rfl (by kernel_rfl) (by kernel_rfl) (by kernel_rfl) ?_
  repeat ((show SW _ _ _ _ (⟨_, Op.indexAddr _ _ _, _, _, _, none⟩ :: _) _ _; refine SW.st (st_indexN rfl rfl (by assumption) (by omega)) rfl ?_))
  refine SW.tknil ?_
  refine SF.take 11 [12] [] hRB rfl (by kernel_rfl) (by kernel_rfl) (by kernel_rfl) ?_
  repeat ((show SW _ _ _ _ (⟨_, Op.fieldAddr _ _ _, _, _, _, none⟩ :: _) _ _; refine SW.st (st_field rfl) rfl ?_))
  refine SW.tknil ?_
  refine SF.take 12 [] [] hRB rfl (by kernel_rfl) (by kernel_rfl) (by kernel_rfl) ?_
  repeat ((show SW _ _ _ _ (⟨_, Op.load _ _, _, _, _, none⟩ :: _) _ _; refine SW.st (st_load rfl (hR.own.row.sl.fld hkn (j := 3) (u := .slice (ls)[kpos L x].Pages.A (ls)[kpos L x].Pages.n (ls)[kpos L x].Pages.c) rfl)) rfl ?_))
  refine SW.tknil ?_
  refine SF.take 13 [14] [] hRB rfl (by kernel_rfl) (by kernel_rfl) (by kernel_rfl) ?_
  repeat (refine SW.pure rfl rfl ?_)
  refine SW.tknil ?_
  refine SF.one 14 rfl (by kernel_rfl) rfl ?_
  refine SW.build1 rfl rfl rfl rfl rfl fun b w4 hXX hb hB => ?_
  (replace hw := Ext.trans hw hXX; replace hb1 := hb1.ext hXX; replace hR := hR.ext hXX; replace hFr := hFr.ext hXX)
  have hsz4 : w0.heap.size ≤ w4.heap.size := hR.size
  refine SW.nil (Post.sf hXX ?_)
  refine SF.turn rfl (by kernel_rfl) rfl ?_
  have hP0 := hR.own.each.get (kpos L x) hks hlt
  have hPg := hP0.pages
  have hpl := hPg.sl.len
  refine SW.append3 hPg (Blk.sl1 (enc := encI) hB) hw.size (by decide) rfl rfl rfl (by omega) (by omega) fun A3 c3 w5 hO1 hg hpos3 => ?_
  have hS := hb1.grT (hPg.gr hg) rfl
  have hrow := hR.own.row.grT (hPg.gr hg) rfl
  have hF5 := hR.frm hks _ _ hg hFr.at_
  replace hw := ext_grown hw hg (Nat.le_refl _) hPg.row_ge
  refine SW.nil (Post.sg hS ?_)
  refine SG.one 16 rfl (by kernel_rfl) rfl ?_
  repeat ((show SW _ _ _ _ (⟨_, Op.indexAddr _ _ _, _, _, _, none⟩ :: _) _ _; refine SW.st (st_indexN rfl rfl (by assumption) (by omega)) rfl ?_))
  refine SW.nil (Post.sg hS ?_)
  refine SG.one 17 rfl (by kernel_rfl) rfl ?_
  repeat ((show SW _ _ _ _ (⟨_, Op.fieldAddr _ _ _, _, _, _, none⟩ :: _) _ _; refine SW.st (st_field rfl) rfl ?_))
  refine SW.nil (Post.sg hS ?_)
  refine SG.last rfl (by kernel_rfl) (by kernel_rfl) ?_
  refine SW.storeO (kpos L x) 3 ⟨(ls)[kpos L x].Cpu, (ls)[kpos L x].Zone, (ls)[kpos L x].Ty, ⟨A3, (ls)[kpos L x].Pages.n + 1, c3⟩⟩ hrow rfl rfl rfl hkn (by decide) rfl rfl fun w6 hrow' hg6 => ?_
  have hG6 := hrow.gr hg6
  have hF6 := hFt _ _ _ hg6 (fun k e => .inr (.inl e)) hF5
  replace hw := ext_grown hw hg6 (Nat.le_refl _) hrow.row_ge
  repeat' (first | (show Post _ _ _ _ _; refine Post.np ?_) | refine SW.nil ?_)
  refine Post.end0 rfl ⟨_, rfl, hw, hF6, li, (ls).set (kpos L x) ⟨(ls)[kpos L x].Cpu, (ls)[kpos L x].Zone, (ls)[kpos L x].Ty, ⟨A3, (ls)[kpos L x].Pages.n + 1, c3⟩⟩, hS.grT (b := b1) (t' := 35) hG6 rfl, ?_⟩
  have hPS : PSep w0.heap.size li ls li ((ls).set (kpos L x) ⟨(ls)[kpos L x].Cpu, (ls)[kpos L x].Zone, (ls)[kpos L x].Ty, ⟨A3, (ls)[kpos L x].Pages.n + 1, c3⟩⟩) := by
   refine PSep.set_ hsep hltP hks (fun g e => ?_)
   rcases hpos3 g e with h | h
   ·exact .inl h
   ·exact .inr (Nat.le_trans hsz4 h)
  refine ⟨?_, hPS⟩
  rw [← hR.set_]
  refine ⟨hrow', All2.setAt (R := OwnL _ w.heap.size) hR.own.each ⟨hP0.cpu.trans hR.key.1, hP0.zone.trans hR.key.2.1, hP0.ty.trans hR.key.2.2, hO1.grT hG6 rfl⟩ fun j h1 h2 hjk ho => ⟨ho.cpu, ho.zone, ho.ty, ?_⟩⟩
  refine (ho.pages.grown hg ?_).grT hG6 rfl
  cases eo : ownB (ls)[j].Pages.A (ls)[j].Pages.c with
  | none => exact .inl rfl
  | some g =>
   right
   intro e
   exact hR.sep j hks h1 hjk g e.symm eo
end Go.Proofs.YtfommgdbahemfaaDoor
set_option linter.unusedVariables false
namespace Go.Proofs.YtfommgdbahemfaaDoor
theorem nextOk_of {x y x' y' : Block} (h : nextOk x y) (e1 : x'.At = x.At) (e2 : x'.Order = x.Order) (e3 : y'.At = y.At) (e4 : y'.Order = y.Order) : nextOk x' y' := by
 unfold nextOk at *
 rw [e1, e2, e3, e4]
 exact h
theorem takeF_nxs {z : Zone} (hz : ZoneMay z) {b : Block} {t : Int} (st : Bool) : nxs (takeF z b t st) := by
 have h := zone_nxs hz
 unfold takeF
 split
 ·unfold stFree
  split
  ·exact h
  ·unfold nxs at *
   rw [List.pairwise_map]
   exact h.imp fun {x y} hxy => nextOk_of hxy (stB_at _ _ _ x).1 (stB_at _ _ _ x).2 (stB_at _ _ _ y).1 (stB_at _ _ _ y).2
 ·exact h
theorem half_beside {a q : Int} (h1 : 1 ≤ q) (h4 : q ≤ 4) (hm : a % pw q = 0) : beside (a + pw (q - 1)) (q - 1) = a ∧ (a + pw (q - 1)) % pw (q - 1) = 0 := by
 have hp : pw q = 2 * pw (q - 1) := by
  have := pw_succ (o := q - 1) (by omega) (by omega)
  rwa [Int.sub_add_cancel] at this
 unfold beside
 rcases pw_cases (show 0 ≤ q - 1 by omega) (show q - 1 ≤ 4 by omega) with ⟨e1, e2⟩ | ⟨e1, e2⟩ | ⟨e1, e2⟩ | ⟨e1, e2⟩ | ⟨e1, e2⟩ <;> rw [hp, e2] at hm <;> rw [e2] <;> (refine ⟨?_, by omega⟩) <;> split <;> omega
theorem half_nxs {f t : Int} {l : List Block} {a q ty : Int} (h : JOk f t l a q) (hn : nxs l) (hq : 1 ≤ q) : nxs (halfL ty a q l) := by
 obtain ⟨f1, f2, f3, f4, f5⟩ := h.fit
 obtain ⟨hb, hm⟩ := half_beside hq f2 f5
 have hp : pw q = 2 * pw (q - 1) := by
  have := pw_succ (o := q - 1) (by omega) (by omega)
  rwa [Int.sub_add_cancel] at this
 have hp1 := pw_le (o := q - 1) (by omega) (by omega)
 have hne : ∀ x ∈ l, x.At ≠ a := fun x hx e => by
  have := pw_le (h.blk x hx).1.1 (h.blk x hx).1.2.1
  rcases h.dis x hx with g | g <;> omega
 have e : l = l.take (lbOf l (a + pw (q - 1))) ++ l.drop (lbOf l (a + pw (q - 1))) := (List.take_append_drop _ l).symm
 have h0 := hn
 unfold nxs at h0
 rw [e, List.pairwise_append] at h0
 obtain ⟨h1, h2, h3⟩ := h0
 have hA : ∀ x ∈ l.take (lbOf l (a + pw (q - 1))), nextOk x (halfB ty a q) := fun x hx => by
  have hxl := List.mem_of_mem_take hx
  obtain ⟨j, hj, rfl⟩ := List.getElem_of_mem hx
  simp only [List.length_take] at hj
  rw [List.getElem_take] at hxl ⊢
  have hlt := lb_below (l := l) (a := a + pw (q - 1)) (k := j) (by omega)
  refine ⟨?_, fun hh => ?_⟩
  ·simp only [halfB]
   rcases h.dis _ hxl with g | g <;> omega
  ·obtain ⟨_, _, hh⟩ := hh
   simp only [halfB, hb] at hh
   exact hne _ hxl hh
 have hB : ∀ x ∈ l.drop (lbOf l (a + pw (q - 1))), nextOk (halfB ty a q) x := fun x hx => by
  have hxl := List.mem_of_mem_drop hx
  obtain ⟨j, hj, rfl⟩ := List.getElem_of_mem hx
  simp only [List.length_drop] at hj
  rw [List.getElem_drop] at hxl ⊢
  have hge := lb_at (l := l) (a := a + pw (q - 1)) (by omega)
  have hle : (l[lbOf l (a + pw (q - 1))]'(by omega)).At ≤ (l[lbOf l (a + pw (q - 1)) + j]'(by omega)).At := by
   rcases Nat.eq_zero_or_pos j with rfl | hj0
   ·exact Int.le_refl _
   ·have := ups_get h.ups (show lbOf l (a + pw (q - 1)) + j < l.length by omega) (show lbOf l (a + pw (q - 1)) < lbOf l (a + pw (q - 1)) + j by omega)
    have := pw_le (h.blk _ (List.getElem_mem (show lbOf l (a + pw (q - 1)) < l.length by omega))).1.1 (h.blk _ (List.getElem_mem (show lbOf l (a + pw (q - 1)) < l.length by omega))).1.2.1
    omega
  have hx5 := (h.blk _ hxl).1
  have hpx := pw_le hx5.1 hx5.2.1
  refine ⟨?_, fun hh => ?_⟩
  ·simp only [halfB]
   rcases h.dis _ hxl with g | g <;> omega
  ·obtain ⟨g4, g5, hh⟩ := hh
   have g6 := (beside_two hx5.1 g4 hx5.2.2.2.2).1
   simp only [halfB] at g5 hh
   rw [← hh, ← g5, hb] at g6
   exact hne _ hxl g6.symm
 unfold halfL insAt nxs
 rw [List.append_assoc, List.pairwise_append]
 refine ⟨h1, ?_, fun x hx y hy => ?_⟩
 ·rw [List.singleton_append, List.pairwise_cons]
  exact ⟨hB, h2⟩
 ·rw [List.singleton_append, List.mem_cons] at hy
  rcases hy with rfl | hy
  ·exact hA x hx
  ·exact h3 x hx y hy
theorem splitL_ok {f t ty : Int} (h0 : 0 ≤ f) (ht : t ≤ 256) (ht16 : t % 16 = 0) (hty : tyOk ty) {a : Int} : ∀ (k : Nat) (q : Int) (l : List Block), (k : Int) ≤ q → JOk f t l a q → nxs l → JOk f t (splitL ty a k q l) a (q - k) ∧ nxs (splitL ty a k q l)
 | 0, q, l, _, h, hn => by
  refine ⟨?_, hn⟩
  have : q - ((0 : Nat) : Int) = q := by omega
  rw [this]
  exact h
 | k + 1, q, l, hk, h, hn => by
  have hq : 1 ≤ q := by omega
  have := splitL_ok h0 ht ht16 hty k (q - 1) (halfL ty a q l) (by omega) (jok_half h h0 ht ht16 hq hty).1 (half_nxs h hn hq)
  rw [splitL]
  rwa [show q - 1 - (k : Int) = q - ((k + 1 : Nat) : Int) by omega] at this
structure TakeK (z z' : Zone) : Prop where
 may : ZoneMay z'
 from_ : z'.From = z.From
 to_ : z'.To = z.To
theorem TakeR.keep {z : Zone} {o t : Int} {u : Zone × Int × Int} (h : TakeR z o t u) (h0 : u.2.2 = 0) : TakeK z u.1 ∧ (∃ x ∈ z.Free, x.At = u.2.1) ∧ zoneB z = true := by
 cases h with
 | bad | range | kind | room => simp at h0
 | @ok k st hq ho ht hk hp =>
  have hz := zoneB_iff.1 hq
  obtain ⟨o1, o2, o3, o4, o5⟩ := hz.ok
  obtain ⟨_, po1, po2⟩ := hp.ord
  obtain ⟨l1, l2, l3⟩ := takeF_ok hz (b := z.Free[k]) ht st
  have hkF : k < (takeF z z.Free[k] t st).length := by omega
  have hFk := takeF_get hz ht st hk
  have hJ := jok_erase l2 l3 hkF
  rw [hFk] at hJ
  simp only at hJ
  have hn : nxs ((takeF z z.Free[k] t st).eraseIdx k) := (takeF_nxs hz st).sublist (List.eraseIdx_sublist _ _)
  have hbk := hz.blk k hk
  have htt : tyOk (tySt z t st z.Free[k]) := by unfold tySt; split; exact ht; exact hbk.2
  have hS := splitL_ok (ty := tySt z t st z.Free[k]) o1 o3 o5 htt (z.Free[k].Order - o).toNat z.Free[k].Order _ (by omega) hJ hn
  have e : (if st = true then stFree z.Free z.Free[k] t else z.Free) = takeF z z.Free[k] t st := rfl
  refine ⟨⟨⟨hz.ok, ?_, ?_, fun i hi => ?_, fun i hi => ?_⟩, rfl, rfl⟩, ⟨z.Free[k], List.getElem_mem hk, rfl⟩, hq⟩
  ·simp only [takenZ]
   have hlen := hz.len
   split
   ·unfold stTypes
    split
    ·exact hlen
    ·split <;> simpa using hlen
   ·exact hlen
  ·simp only [takenZ]
   intro v hv
   split at hv
   ·unfold stTypes at hv
    split at hv
    ·exact hz.types v hv
    ·split at hv
     ·rcases List.mem_or_eq_of_mem_set hv with hv | rfl
      ·rcases List.mem_or_eq_of_mem_set hv with hv | rfl
       ·exact hz.types v hv
       ·exact ht
      ·exact ht
     ·rcases List.mem_or_eq_of_mem_set hv with hv | rfl
      ·exact hz.types v hv
      ·exact ht
   ·exact hz.types v hv
  ·exact hS.1.blk _ (List.getElem_mem hi)
  ·have hn := hS.2
   unfold nxs at hn
   rw [List.pairwise_iff_getElem] at hn
   exact hn i (i + 1) (by simp only [takenZ] at hi; exact Nat.lt_of_succ_lt hi) hi (Nat.lt_succ_self i)
end Go.Proofs.YtfommgdbahemfaaDoor
set_option linter.unusedVariables false
set_option linter.unusedSimpArgs false
namespace Go.Proofs.YtfommgdbahemfaaDoor
open Go.RowKit
structure GB (w w' : World) (b : Nat) : Prop where
 g : w.grownBy w' (some b)
theorem GB.refl (w : World) (b : Nat) : GB w w b := ⟨World.grownBy.refl _ _⟩
theorem GB.ext {w w1 w2 : World} {b : Nat} (h : GB w w1 b) (hx : Ext w1 w2) : GB w w2 b := ⟨grown_trans h.g (hx.gr (some b)) (.inl rfl)⟩
theorem GB.step {w w1 w2 : World} {b : Nat} (h : GB w w1 b) (hg : w1.grownBy w2 (some b)) : GB w w2 b := ⟨grown_trans h.g hg (.inl rfl)⟩
theorem markP_ans (b : Nat) (s : Option (List Block)) (p : Int) (N : Nat) (hN : N = 256) (w : World) (hM : Marks w b N s) (hs : goodS s) :
  AnsX Tryd.prog 88 [.pointer (some ⟨b, 0, none⟩), .int .i64 p, .int .i64 1] w fun v w' => Marks w' b N (addB s (pageB p)) ∧ w.grownBy w' (some b) := by
 have h := markB_ans b s (pageB p) N hN w hM hs (by simp [pageB, pw_zero])
 simp only [pageB, pw_zero] at h ⊢
 exact h
def ListsRes (w wE : World) (b N : Nat) (s : Option (List Block)) (h : Heap) (to : Int) (v : Value) (w' : World) : Prop :=
 Ext w w' ∧ wE.grownBy w' (some b) ∧ ((v = .bool true ∧ ListsOk h.Cpus to h.Lists ∧ Marks w' b N (addAll s (pagesB h.Lists))) ∨ (v = .bool false ∧ ¬ (ListsOk h.Cpus to h.Lists ∧ (addAll s (pagesB h.Lists)).isSome = true)))
structure LPre (cpus to : Int) (ls : List PList) (k : Nat) : Prop where
 head : ∀ (i : Nat) (h : i < ls.length), i < k → headOk cpus ls[i]
 next : ∀ (i : Nat) (h : i + 1 < ls.length), i + 1 < k → aheadL ls[i] ls[i + 1]
 zone : ∀ (i : Nat) (h : i < ls.length), i < k → ∀ p ∈ (ls[i]).Pages, (p < to ↔ (ls[i]).Zone = 0)
theorem LPre.nil (cpus to : Int) (ls : List PList) : LPre cpus to ls 0 := ⟨fun i _ h => by omega, fun i _ h => by omega, fun i _ h => by omega⟩
theorem LPre.all {cpus to : Int} {ls : List PList} {k : Nat} (h : LPre cpus to ls k) (hk : ls.length ≤ k) : ListsOk cpus to ls := ⟨fun i hi => h.head i hi (by omega), fun i hi => h.next i hi (by omega), fun i hi => h.zone i hi (by omega)⟩
theorem LPre.snoc {cpus to : Int} {ls : List PList} {k : Nat} (h : LPre cpus to ls k) (hk : k < ls.length) (h1 : headOk cpus ls[k]) (h2 : ∀ (h : 0 < k), aheadL ls[k - 1] ls[k]) (h3 : ∀ p ∈ (ls[k]).Pages, (p < to ↔ (ls[k]).Zone = 0)) : LPre cpus to ls (k + 1) := by
 refine ⟨fun i hi hik => ?_, fun i hi hik => ?_, fun i hi hik => ?_⟩
 ·by_cases e : i = k
  ·subst e; exact h1
  ·exact h.head i hi (by omega)
 ·by_cases e : i + 1 = k
  ·subst e; exact h2 (by omega)
  ·exact h.next i hi (by omega)
 ·by_cases e : i = k
  ·subst e; exact h3
  ·exact h.zone i hi (by omega)
theorem pagesB_none {s : Option (List Block)} {ls : List PList} {k j : Nat} (hk : k < ls.length) (hj : j ≤ (ls[k]).Pages.length) (h : addAll (addAll s (pagesB (ls.take k))) (((ls[k]).Pages.take j).map pageB) = none) : addAll s (pagesB ls) = none := by
 rw [← addAll_append] at h
 have e : pagesB ls = (pagesB (ls.take k) ++ ((ls[k]).Pages.take j).map pageB) ++ (((ls[k]).Pages.drop j).map pageB ++ pagesB (ls.drop (k + 1))) := by
  have e1 : ls = ls.take (k + 1) ++ ls.drop (k + 1) := by simp
  have e2 : ((ls[k]).Pages.take j).map pageB ++ ((ls[k]).Pages.drop j).map pageB = (ls[k]).Pages.map pageB := by rw [← List.map_append, List.take_append_drop]
  have e3 : pagesB ls = pagesB (ls.take (k + 1)) ++ pagesB (ls.drop (k + 1)) := by unfold pagesB; rw [← List.flatMap_append, ← e1]
  rw [e3, pagesB_take _ _ hk, ← e2]
  simp only [List.append_assoc]
 rw [e, addAll_append, h, addAll_none]
set_option maxHeartbeats 8000000 in
theorem lists_ans (r : HRow) (h : Heap) (r0 r1 : ZRow) (z0 z1 : Zone) (b N : Nat) (hN : N = 256) (s : Option (List Block)) (w wE : World) (hw : Ext w wE) (hbw : w.heap.size ≤ b) (hr : RdH2 w r h r0 r1 z0 z1) (hM : Marks wE b N s) (hgs : goodS s) (hsm : r.Lists.n ≤ 1000000000000000000) :
  AnsX Tryd.prog 89 [.agg (encH r).toArray, .pointer (some ⟨b, 0, none⟩)] wE (ListsRes w wE b N s h z0.To) := by
 refine ansx_of Tryd.func89 rfl Tryd.ntmps89 rfl ?_
 have hE := GB.refl wE b
 refine CW.seq (CW.region (SW.box rfl rfl fun b2 w2 hw2 hb2b hb2 => ?_))
 (replace hw := Ext.trans hw hw2; replace hM := hM.ext hw2; replace hE := hE.ext hw2)
 obtain ⟨ls, hl⟩ := hr.rd.lists
 have hcp := hr.rd.cpus
 obtain ⟨hl1, hl2⟩ := hl.len
 have hA := hl.row.base
 repeat' (first | (show CW _ _ _ _ _ _; first | refine CW.seq ?_ | refine CW.region ?_ | refine CW.block ?_) | (show Post _ _ _ _ _; refine Post.seq ?_) | refine SW.nil ?_ | refine SW.pure rfl rfl ?_ | (show SW _ _ _ _ (⟨_, Op.fieldAddr _ _ _, _, _, _, none⟩ :: _) _ _; refine SW.st (st_field rfl) rfl ?_) | (show SW _ _ _ _ (⟨_, Op.call ⟨.builtin .len, _, _⟩, _, _, _, none⟩ :: _) _ _; refine SW.st (st_len rfl) rfl ?_) | (show SW _ _ _ _ (⟨_, Op.load _ _, _, _, _, none⟩ :: _) _ _; refine SW.st (st_load rfl (hb2.cell rfl)) rfl ?_))
 refine CW.loop (fun k : Nat => [(1, .pointer (some ⟨b, 0, none⟩)), (2, .pointer (some ⟨b2, 0, none⟩)), (10, .slice r.Lists.A r.Lists.n r.Lists.c), (11, .int .i64 (r.Lists.n : Int)), (12, .int .i64 (k : Int))])
  (fun k w' => k ≤ r.Lists.n ∧ Ext w w' ∧ GB wE w' b ∧ Blk w' b2 35 (encH r) ∧ Marks w' b N (addAll s (pagesB (h.Lists.take k))) ∧ LPre h.Cpus z0.To h.Lists k) (fun k => r.Lists.n - k) 0
  ⟨rfl, rfl, rfl, rfl, rfl, trivial⟩ ⟨by omega, hw, hE, hb2, hM, .nil _ _ _⟩ ?_
 clear hw hE hb2 hM hw2
 rintro k w' ⟨hk, hw, hE, hb2, hM, hP⟩
 by_cases hkn : k < r.Lists.n
 ·have hkl : k < ls.length := by omega
  have hkh : k < h.Lists.length := by omega
  have hrl := hl.each.get k hkl hkh
  have hlc := hrl.cpu
  have hlz := hrl.zone
  have hlt := hrl.ty
  have hln := hrl.pages.len
  have hAp := hrl.pages.base
  have hpg := hrl.pages
  have hrow := hl.row.all hkn
  have hrow' := hl.row.all (i := k - 1) (show k - 1 < r.Lists.n by omega)
  have hgk : goodS (addAll s (pagesB (h.Lists.take k))) := goodS_all hgs fun x hx => by
   unfold pagesB at hx
   obtain ⟨y, _, hy⟩ := List.mem_flatMap.1 hx
   obtain ⟨p, _, rfl⟩ := List.mem_map.1 hy
   simp [pageB, pw_zero]
  repeat' (first | (show CW _ _ _ _ _ _; first | refine CW.seq ?_ | refine CW.region ?_ | refine CW.block ?_ | refine CW.condd_t rfl (by omega) ?_ | refine CW.skip ?_) | (show Post _ _ _ _ _; refine Post.seq ?_) | refine SW.nil ?_ | refine SW.pure rfl rfl ?_ | (show SW _ _ _ _ (⟨_, Op.indexAddr _ _ _, _, _, _, none⟩ :: _) _ _; refine SW.st (st_indexN rfl rfl (by assumption) (by omega)) rfl ?_) | (show SW _ _ _ _ (⟨_, Op.load _ _, _, _, _, none⟩ :: _) _ _; refine SW.st (st_loadsx hw rfl rfl ((hrow))) rfl ?_))
  refine SW.alloc rfl fun b6 w1 hw1 hb6b hb6 => ?_
  repeat' (refine SW.pure rfl rfl ?_)
  refine SW.storeAgg hb6 rfl rfl rfl rfl (Enc.one (enc := encL) _) fun w2 hb6' hg => ?_
  have hXX := hw1.own hb6b hg
  have hb6w : w.heap.size ≤ b6 := Nat.le_trans hw.size hb6b
  replace hw := Ext.trans hw hXX
  replace hb2 := hb2.ext hXX
  replace hM := hM.ext hXX
  replace hE := hE.ext hXX
  replace hb6 := hb6'
  clear hb6' hw1 hg hXX
  repeat' (first | (show CW _ _ _ _ _ _; refine CW.seq ?_) | (show Post _ _ _ _ _; refine Post.seq ?_) | refine SW.nil ?_)
  by_cases hhd : headOk r.Cpus h.Lists[k]
  ·obtain ⟨e1, e2, e3, e4⟩ := id hhd
   obtain ⟨q, hq⟩ : ∃ q, decide (aheadL (h.Lists[k - 1]'(by omega)) h.Lists[k]) = q := ⟨_, rfl⟩
   have hrl1 := hl.each.get (k - 1) (by omega) (by omega)
   have cL : ∀ w', Ans Tryd.prog 119 [.agg (encL (ls[k - 1]'(by omega))).toArray, .agg (encL ls[k]).toArray] w' fun v _ => v = .bool q := fun w' => by
    have := lessL_ans (ls[k - 1]'(by omega)) ls[k] (h.Lists[k - 1]'(by omega)) h.Lists[k] w' ⟨hrl1.cpu, hrl1.zone, hrl1.ty⟩ ⟨hlc, hlz, hlt⟩
    rwa [hq] at this
   have hcase : k = 0 ∨ (0 < k ∧ q = true) ∨ (0 < k ∧ q = false) := by cases q <;> simp <;> omega
   rw [or_comm, or_assoc] at hcase
   rcases hcase with ⟨hk0, rfl⟩ | ⟨hk0, rfl⟩ | hk0
   rotate_left
   ·repeat' (first | (show CW _ _ _ _ _ _; first | refine CW.seq ?_ | refine CW.region ?_ | refine CW.condt rfl ?_ | refine CW.ret ?_ | (apply CW.quiet1 mixed; (· kernel_rfl); rotate_left; intro w1 hw1; replace hw := Ext.trans hw hw1; replace hb2 := hb2.ext hw1; replace hb6 := hb6.ext hw1; replace hM := hM.ext hw1; replace hE := hE.ext hw1; clear hw1; rotate_right)) | (show Post _ _ _ _ _; first | refine Post.seq ?_ | refine Post.seq_ret ?_ | refine Post.blk_ret ?_ | refine Post.again_ret ?_) | refine SW.nil ?_ | (show SW _ _ _ _ (⟨_, _, _, _, _, some _⟩ :: _) _ _; first | refine SW.want_t rfl rfl (by with_reducible rfl) ?_ | refine SW.want_f rfl rfl (by with_reducible rfl) ?_ | refine SW.splitd_t rfl rfl rfl (by omega) ?_ | refine SW.splitd_f rfl rfl rfl (by omega) ?_) | refine SW.pure rfl rfl ?_ | (show SW _ _ _ _ (⟨_, Op.fieldAddr _ _ _, _, _, _, none⟩ :: _) _ _; refine SW.st (st_field rfl) rfl ?_) | (show SW _ _ _ _ (⟨_, Op.binOp _ _ _ _ _, _, _, _, none⟩ :: _) _ _; refine SW.st (st_sub rfl rfl (by omega) (by omega)) rfl ?_) | (show SW _ _ _ _ (⟨_, Op.indexAddr _ _ _, _, _, _, none⟩ :: _) _ _; refine SW.st (st_indexI (k - 1) rfl rfl (by assumption) (by omega) (by omega)) rfl ?_) | (show SW _ _ _ _ (⟨_, Op.call ⟨.builtin .len, _, _⟩, _, _, _, none⟩ :: _) _ _; refine SW.st (st_len rfl) rfl ?_) | (show SW _ _ _ _ (⟨_, Op.load _ _, _, _, _, none⟩ :: _) _ _; first | refine SW.st (st_load rfl (hb6.cell rfl)) rfl ?_ | refine SW.st (st_load rfl (hb2.cell rfl)) rfl ?_ | refine SW.st (st_loadsx hw rfl rfl ((hrow'))) rfl ?_ | refine SW.st (st_loads rfl rfl ((fun _ _ => hb6.cell))) rfl ?_) | (show SW _ _ _ _ (⟨_, Op.call ⟨.value (.func _), _, _⟩, _, _, _, none⟩ :: _) _ _; refine SW.qcall rfl rfl (fun w1 hw1 => (cL _)) ?_) | exact SW.qnil rfl)
    exact Post.ret1 rfl rfl ⟨_, rfl, hw, hE.g, .inr ⟨rfl, fun hh => by
     have := hh.1.next (k - 1) (by omega)
     simp only [show k - 1 + 1 = k by omega] at this
     exact of_decide_eq_false hq this⟩⟩
   all_goals
    have hah : ∀ (h0 : 0 < k), aheadL (h.Lists[k - 1]'(by omega)) h.Lists[k] := fun h0 => by first | exact of_decide_eq_true hq | omega
    repeat' (first | (show CW _ _ _ _ _ _; first | refine CW.seq ?_ | refine CW.region ?_ | refine CW.block ?_ | refine CW.condfr rfl (by with_reducible rfl) ?_ | refine CW.condf rfl ?_ | refine CW.skip ?_ | (apply CW.quiet1 mixed; (· kernel_rfl); rotate_left; intro w1 hw1; replace hw := Ext.trans hw hw1; replace hb2 := hb2.ext hw1; replace hb6 := hb6.ext hw1; replace hM := hM.ext hw1; replace hE := hE.ext hw1; clear hw1; rotate_right)) | (show Post _ _ _ _ _; refine Post.seq ?_) | refine SW.nil ?_ | (show SW _ _ _ _ (⟨_, _, _, _, _, some _⟩ :: _) _ _; first | refine SW.want_t rfl rfl (by with_reducible rfl) ?_ | refine SW.want_f rfl rfl (by with_reducible rfl) ?_ | refine SW.skip_t rfl rfl (by with_reducible rfl) rfl ?_ | refine SW.splitd_t rfl rfl rfl (by omega) ?_ | refine SW.splitd_f rfl rfl rfl (by omega) ?_) | refine SW.pure rfl rfl ?_ | (show SW _ _ _ _ (⟨_, Op.fieldAddr _ _ _, _, _, _, none⟩ :: _) _ _; refine SW.st (st_field rfl) rfl ?_) | (show SW _ _ _ _ (⟨_, Op.binOp _ _ _ _ _, _, _, _, none⟩ :: _) _ _; refine SW.st (st_sub rfl rfl (by omega) (by omega)) rfl ?_) | (show SW _ _ _ _ (⟨_, Op.indexAddr _ _ _, _, _, _, none⟩ :: _) _ _; refine SW.st (st_indexI (k - 1) rfl rfl (by assumption) (by omega) (by omega)) rfl ?_) | (show SW _ _ _ _ (⟨_, Op.call ⟨.builtin .len, _, _⟩, _, _, _, none⟩ :: _) _ _; refine SW.st (st_len rfl) rfl ?_) | (show SW _ _ _ _ (⟨_, Op.load _ _, _, _, _, none⟩ :: _) _ _; first | refine SW.st (st_load rfl (hb6.cell rfl)) rfl ?_ | refine SW.st (st_load rfl (hb2.cell rfl)) rfl ?_ | refine SW.st (st_loadsx hw rfl rfl ((hrow'))) rfl ?_ | refine SW.st (st_loads rfl rfl ((fun _ _ => hb6.cell))) rfl ?_) | (show SW _ _ _ _ (⟨_, Op.call ⟨.value (.func _), _, _⟩, _, _, _, none⟩ :: _) _ _; refine SW.qcall rfl rfl (fun w1 hw1 => (cL _)) ?_) | exact SW.qnil rfl)
    clear cL hq hrow hrow'
    refine CW.loop (fun j : Nat => [(1, .pointer (some ⟨b, 0, none⟩)), (2, .pointer (some ⟨b2, 0, none⟩)), (6, .pointer (some ⟨b6, 0, none⟩)), (10, .slice r.Lists.A r.Lists.n r.Lists.c), (11, .int .i64 (r.Lists.n : Int)), (12, .int .i64 (k : Int)), (75, .slice ls[k].Pages.A ls[k].Pages.n ls[k].Pages.c), (76, .int .i64 (ls[k].Pages.n : Int)), (77, .int .i64 (j : Int))])
     (fun j w' => j ≤ ls[k].Pages.n ∧ Ext w w' ∧ GB wE w' b ∧ Blk w' b2 35 (encH r) ∧ Blk w' b6 84 (encL ls[k]) ∧ Marks w' b N (addAll (addAll s (pagesB (h.Lists.take k))) ((h.Lists[k].Pages.take j).map pageB)) ∧ ∀ (i : Nat) (hi : i < h.Lists[k].Pages.length), i < j → (h.Lists[k].Pages[i] < z0.To ↔ h.Lists[k].Zone = 0)) (fun j => ls[k].Pages.n - j) 0
     ⟨rfl, rfl, rfl, rfl, rfl, rfl, rfl, rfl, rfl, trivial⟩ ⟨by omega, hw, hE, hb2, hb6, hM, fun i _ h => by omega⟩ ?_
    clear hw hE hb2 hb6 hM hb6b hb6w
    rintro j w' ⟨hj, hw, hE, hb2, hb6, hM, hZ⟩
    by_cases hjn : j < ls[k].Pages.n
    ·have hjl : j < h.Lists[k].Pages.length := by omega
     repeat' (first | (show CW _ _ _ _ _ _; first | refine CW.seq ?_ | refine CW.region ?_ | refine CW.block ?_ | refine CW.condd_t rfl (by omega) ?_ | refine CW.skip ?_) | (show Post _ _ _ _ _; refine Post.seq ?_) | refine SW.nil ?_ | refine SW.pure rfl rfl ?_ | (show SW _ _ _ _ (⟨_, Op.indexAddr _ _ _, _, _, _, none⟩ :: _) _ _; refine SW.st (st_indexN rfl rfl (by assumption) (by omega)) rfl ?_) | (show SW _ _ _ _ (⟨_, Op.load _ _, _, _, _, none⟩ :: _) _ _; refine SW.st (st_loadx hw rfl (hpg.one hjn rfl)) rfl ?_))
     refine SW.callX rfl rfl (markP_ans b _ h.Lists[k].Pages[j] N hN _ hM (goodS_all hgk fun x hx => by
      obtain ⟨p, _, rfl⟩ := List.mem_map.1 hx
      simp [pageB, pw_zero])) fun v w5 hv => ?_
     obtain ⟨hM2, hg5⟩ := hv
     have hG := hM.gr hg5
     replace hw := hw.own hbw hg5
     replace hE := hE.step hg5
     (replace hb2 := hb2.grT hG rfl; replace hb6 := hb6.grT hG rfl)
     have e5 : addB (addAll (addAll s (pagesB (h.Lists.take k))) ((h.Lists[k].Pages.take j).map pageB)) (pageB h.Lists[k].Pages[j]) = addAll (addAll s (pagesB (h.Lists.take k))) ((h.Lists[k].Pages.take (j + 1)).map pageB) := by
      rw [List.take_succ_eq_append_getElem hjl, List.map_append, addAll_append]; rfl
     rw [e5] at hM2
     have hbad := hM2.bad hN
     generalize hp : h.Lists[k].Pages[j] = p
     obtain ⟨y, hy⟩ : ∃ y, (if p < z0.To then (0 : Int) else 1) = y := ⟨_, rfl⟩
     have cZ : ∀ w', Ext w w' → Ans Tryd.prog 120 [.agg (encH r).toArray, .int .i64 p] w' fun v _ => v = .int .i64 y := fun w' hx => by
      have := Pzone_ans r h r0 r1 z0 z1 p w' (hr.ext hx)
      rwa [hy] at this
     cases hs : addAll (addAll s (pagesB (h.Lists.take k))) ((h.Lists[k].Pages.take (j + 1)).map pageB) with
     | none =>
      rw [hs] at hbad
      repeat' (first | (show CW _ _ _ _ _ _; first | refine CW.seq ?_ | refine CW.region ?_ | refine CW.condtr rfl (by with_reducible rfl) ?_ | refine CW.ret ?_ | (apply CW.quiet1 mixed; (· kernel_rfl); rotate_left; intro w1 hw1; replace hw := Ext.trans hw hw1; replace hb2 := hb2.ext hw1; replace hb6 := hb6.ext hw1; replace hM2 := hM2.ext hw1; replace hE := hE.ext hw1; clear hw1; rotate_right)) | (show Post _ _ _ _ _; first | refine Post.seq ?_ | refine Post.seq_ret ?_ | refine Post.blk_ret ?_ | refine Post.again_ret ?_) | refine SW.nil ?_ | (show SW _ _ _ _ (⟨_, _, _, _, _, some _⟩ :: _) _ _; refine SW.skip rfl rfl rfl rfl ?_) | refine SW.pure rfl rfl ?_ | (show SW _ _ _ _ (⟨_, Op.fieldAddr _ _ _, _, _, _, none⟩ :: _) _ _; refine SW.st (st_field rfl) rfl ?_) | (show SW _ _ _ _ (⟨_, Op.nilCheck _, _, _, _, none⟩ :: _) _ _; refine SW.st (st_nilCheck rfl) rfl ?_) | (show SW _ _ _ _ (⟨_, Op.load _ _, _, _, _, none⟩ :: _) _ _; refine SW.st (st_load rfl hbad) rfl ?_) | exact SW.qnil rfl)
      exact Post.ret1 rfl rfl ⟨_, rfl, hw, hE.g, .inr ⟨rfl, fun hh => by
       have := hh.2
       rw [pagesB_none hkh (by omega) hs] at this
       cases this⟩⟩
     | some bs =>
      rw [hs] at hbad
      by_cases hz : y = ls[k].Zone
      ·repeat' (first | (show CW _ _ _ _ _ _; first | refine CW.seq ?_ | refine CW.region ?_ | refine CW.condn_f rfl (by omega) ?_ | refine CW.skip ?_ | (apply CW.quiet1 mixed; (· kernel_rfl); rotate_left; intro w1 hw1; replace hw := Ext.trans hw hw1; replace hb2 := hb2.ext hw1; replace hb6 := hb6.ext hw1; replace hM2 := hM2.ext hw1; replace hE := hE.ext hw1; clear hw1; rotate_right)) | (show Post _ _ _ _ _; first | refine Post.seq ?_ | refine Post.blk ?_) | refine SW.nil ?_ | (show SW _ _ _ _ (⟨_, _, _, _, _, some _⟩ :: _) _ _; refine SW.want rfl rfl ?_) | refine SW.pure rfl rfl ?_ | (show SW _ _ _ _ (⟨_, Op.fieldAddr _ _ _, _, _, _, none⟩ :: _) _ _; refine SW.st (st_field rfl) rfl ?_) | (show SW _ _ _ _ (⟨_, Op.nilCheck _, _, _, _, none⟩ :: _) _ _; refine SW.st (st_nilCheck rfl) rfl ?_) | (show SW _ _ _ _ (⟨_, Op.binOp _ _ _ _ _, _, _, _, none⟩ :: _) _ _; refine SW.st (st_add rfl rfl (by omega) (by omega)) rfl ?_) | (show SW _ _ _ _ (⟨_, Op.load _ _, _, _, _, none⟩ :: _) _ _; first | refine SW.st (st_load rfl hbad) rfl ?_ | refine SW.st (st_load rfl (hb6.cell rfl)) rfl ?_ | refine SW.st (st_loads rfl rfl ((fun _ _ => hb2.cell))) rfl ?_) | (show SW _ _ _ _ (⟨_, Op.call ⟨.value (.func _), _, _⟩, _, _, _, none⟩ :: _) _ _; refine SW.qcall rfl rfl (fun w1 hw1 => (cZ _ (Ext.trans hw hw1))) ?_) | exact SW.qnil rfl)
       refine Post.again (j + 1) ⟨rfl, rfl, rfl, rfl, rfl, rfl, rfl, rfl, rfl, trivial⟩ (by omega) ⟨by omega, hw, hE, hb2, hb6, hM2, fun i hi hij => ?_⟩
       by_cases e : i = j
       ·subst e
        rw [hp]
        split at hy <;> constructor <;> intro _ <;> omega
       ·exact hZ i hi (by omega)
      ·repeat' (first | (show CW _ _ _ _ _ _; first | refine CW.seq ?_ | refine CW.region ?_ | refine CW.condn_t rfl (by omega) ?_ | refine CW.ret ?_ | (apply CW.quiet1 mixed; (· kernel_rfl); rotate_left; intro w1 hw1; replace hw := Ext.trans hw hw1; replace hb2 := hb2.ext hw1; replace hb6 := hb6.ext hw1; replace hM2 := hM2.ext hw1; replace hE := hE.ext hw1; clear hw1; rotate_right)) | (show Post _ _ _ _ _; first | refine Post.seq ?_ | refine Post.seq_ret ?_ | refine Post.blk_ret ?_ | refine Post.again_ret ?_) | refine SW.nil ?_ | (show SW _ _ _ _ (⟨_, _, _, _, _, some _⟩ :: _) _ _; refine SW.want rfl rfl ?_) | refine SW.pure rfl rfl ?_ | (show SW _ _ _ _ (⟨_, Op.fieldAddr _ _ _, _, _, _, none⟩ :: _) _ _; refine SW.st (st_field rfl) rfl ?_) | (show SW _ _ _ _ (⟨_, Op.nilCheck _, _, _, _, none⟩ :: _) _ _; refine SW.st (st_nilCheck rfl) rfl ?_) | (show SW _ _ _ _ (⟨_, Op.load _ _, _, _, _, none⟩ :: _) _ _; first | refine SW.st (st_load rfl hbad) rfl ?_ | refine SW.st (st_load rfl (hb6.cell rfl)) rfl ?_ | refine SW.st (st_loads rfl rfl ((fun _ _ => hb2.cell))) rfl ?_) | (show SW _ _ _ _ (⟨_, Op.call ⟨.value (.func _), _, _⟩, _, _, _, none⟩ :: _) _ _; refine SW.qcall rfl rfl (fun w1 hw1 => (cZ _ (Ext.trans hw hw1))) ?_) | exact SW.qnil rfl)
       exact Post.ret1 rfl rfl ⟨_, rfl, hw, hE.g, .inr ⟨rfl, fun hh => by
        have := hh.1.zone k hkh p (by rw [← hp]; exact List.getElem_mem _)
        split at hy <;> omega⟩⟩
    ·obtain rfl : j = ls[k].Pages.n := by omega
     rw [List.take_of_length_le (l := h.Lists[k].Pages) (by omega), ← addAll_append, ← pagesB_take _ _ hkh] at hM
     repeat' (first | (show CW _ _ _ _ _ _; first | refine CW.seq ?_ | refine CW.region ?_ | refine CW.condd_f rfl (by omega) ?_ | refine CW.exit ?_) | (show Post _ _ _ _ _; first | refine Post.seq ?_ | refine Post.seq_exit ?_ | refine Post.hit ?_ | refine Post.blk ?_ | refine Post.again_exit ?_) | refine SW.nil ?_ | refine SW.pure rfl rfl ?_ | (show SW _ _ _ _ (⟨_, Op.binOp _ _ _ _ _, _, _, _, none⟩ :: _) _ _; refine SW.st (st_add rfl rfl (by omega) (by omega)) rfl ?_))
     refine Post.again (k + 1) ⟨rfl, rfl, rfl, rfl, rfl, trivial⟩ (by omega) ⟨by omega, hw, hE, hb2, hM, hP.snoc hkh (by rwa [← hcp]) hah fun p hp => ?_⟩
     obtain ⟨i, hi, rfl⟩ := List.getElem_of_mem hp
     exact hZ i hi (by omega)
  ·have hno : ¬ ListsOk h.Cpus z0.To h.Lists := fun hh => hhd (by have := hh.head k hkh; rwa [← hcp] at this)
   have hhd' : ¬ (((0 ≤ ls[k].Cpu ∧ ls[k].Cpu < r.Cpus) ∧ (0 ≤ ls[k].Zone ∧ ls[k].Zone ≤ 1) ∧ (0 ≤ ls[k].Ty ∧ ls[k].Ty ≤ 2) ∧ (1 ≤ ls[k].Pages.n ∧ ls[k].Pages.n ≤ 8))) := fun hh => hhd (by unfold headOk; omega)
   have hcs : ls[k].Cpu < 0 ∨ (0 ≤ ls[k].Cpu ∧ (r.Cpus ≤ ls[k].Cpu ∨ (ls[k].Cpu < r.Cpus ∧ (ls[k].Zone < 0 ∨ (0 ≤ ls[k].Zone ∧ (1 < ls[k].Zone ∨ (ls[k].Zone ≤ 1 ∧ (ls[k].Ty < 0 ∨ (0 ≤ ls[k].Ty ∧ (3 ≤ ls[k].Ty ∨ (ls[k].Ty < 3 ∧ (ls[k].Pages.n = 0 ∨ (0 < ls[k].Pages.n ∧ 8 < ls[k].Pages.n))))))))))))) := by omega
   rcases hcs with d | ⟨d1, d | ⟨d2, d | ⟨d3, d | ⟨d4, d | ⟨d5, d | ⟨d6, d | ⟨d7, d⟩⟩⟩⟩⟩⟩⟩
   repeat' (first | (show CW _ _ _ _ _ _; first | refine CW.seq ?_ | refine CW.region ?_ | refine CW.condtr rfl (by with_reducible rfl) ?_ | refine CW.ret ?_ | (apply CW.quiet1 mixed; (· kernel_rfl); rotate_left; intro w1 hw1; replace hw := Ext.trans hw hw1; replace hb2 := hb2.ext hw1; replace hb6 := hb6.ext hw1; replace hM := hM.ext hw1; replace hE := hE.ext hw1; clear hw1; rotate_right)) | (show Post _ _ _ _ _; first | refine Post.seq ?_ | refine Post.seq_ret ?_ | refine Post.blk_ret ?_ | refine Post.again_ret ?_) | refine SW.nil ?_ | (show SW _ _ _ _ (⟨_, _, _, _, _, some _⟩ :: _) _ _; first | refine SW.want_f rfl rfl (by with_reducible rfl) ?_ | refine SW.skip_f rfl rfl (by with_reducible rfl) rfl ?_ | refine SW.skip_u rfl rfl (by with_reducible rfl) rfl ?_ | refine SW.splitd_t rfl rfl rfl (by omega) ?_ | refine SW.splitd_f rfl rfl rfl (by omega) ?_) | refine SW.pure rfl rfl ?_ | (show SW _ _ _ _ (⟨_, Op.fieldAddr _ _ _, _, _, _, none⟩ :: _) _ _; refine SW.st (st_field rfl) rfl ?_) | (show SW _ _ _ _ (⟨_, Op.call ⟨.builtin .len, _, _⟩, _, _, _, none⟩ :: _) _ _; refine SW.st (st_len rfl) rfl ?_) | (show SW _ _ _ _ (⟨_, Op.load _ _, _, _, _, none⟩ :: _) _ _; first | refine SW.st (st_load rfl (hb6.cell rfl)) rfl ?_ | refine SW.st (st_load rfl (hb2.cell rfl)) rfl ?_) | exact SW.qnil rfl)
   all_goals exact Post.ret1 rfl rfl ⟨_, rfl, hw, hE.g, .inr ⟨rfl, fun hh => hno hh.1⟩⟩
 ·obtain rfl : k = r.Lists.n := by omega
  rw [List.take_of_length_le (l := h.Lists) (by omega)] at hM
  repeat' (first | (show CW _ _ _ _ _ _; first | refine CW.seq ?_ | refine CW.region ?_ | refine CW.condd_f rfl (by omega) ?_ | refine CW.ret ?_ | refine CW.exit ?_) | (show Post _ _ _ _ _; first | refine Post.seq ?_ | refine Post.seq_exit ?_ | refine Post.hit ?_ | refine Post.again_exit ?_) | refine SW.nil ?_ | refine SW.pure rfl rfl ?_)
  exact Post.ret1 rfl rfl ⟨_, rfl, hw, hE.g, .inl ⟨rfl, hP.all (by omega), hM⟩⟩
end Go.Proofs.YtfommgdbahemfaaDoor
