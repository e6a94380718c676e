/-
  Contracts: slices.Index, Contains, BinarySearch on strings; named, cacheOf.
-/
import Derived.Test.YtfdmgflboibdoaaPackSlabCreates21
import Derived.Test.YtfdmgflboibdoaaPackSlabCreates24
import Derived.Test.YtfdmgflboibdoaaPackSlabCreates13
import Derived.Test.YtfdmgflboibdoaaPackSlabCreates19
import Derived.Test.YtfdmgflboibdoaaPackSlabCreates7
set_option linter.unusedVariables false
namespace Go.Proofs.Ytfdmgflboibdoaa
open Go.RowKit

theorem IndexString_ans (A : Option Addr) (n c : Nat) (l : List ByteArray) (x : ByteArray) (w : World) (hl : Sl w 1 encStr A n l) (hn : n ≤ 9223372036854775807) :
    Ans Try.prog 179 [.slice A n c, .string x] w fun v _ => ∃ i : Int, v = .int .i64 i ∧ decide (0 ≤ i) = hasS l x := by
  refine ans_of Try.func179 rfl Try.ntmps179 rfl ?_
  have hw := Ext.refl w
  have hA := hl.base
  have hll := hl.len
  repeat' (first | (show CW _ _ _ _ _ _; first | refine CW.seq ?_ | refine CW.region ?_ | refine CW.block ?_) | (show Post _ _ _ _ _; refine Post.seq ?_) | refine SW.nil ?_ | refine SW.pure rfl rfl ?_ | (show SW _ _ _ _ (⟨_, Op.call ⟨.builtin .len, _, _⟩, _, _, _, none⟩ :: _) _ _; refine SW.st (st_len rfl) rfl ?_))
  refine CW.loop (fun k : Nat => [(0, .slice A n c), (1, .string x), (7, .int .i64 (n : Int)), (8, .int .i64 (k : Int))]) (fun k w' => k ≤ n ∧ Ext w w' ∧ ∀ (i : Nat) (h : i < l.length), i < k → l[i] ≠ x)
    (fun k => n - k) 0 ⟨rfl, rfl, rfl, rfl, trivial⟩ ⟨by omega, hw, fun i h hi => by omega⟩ ?_
  clear hw
  rintro k w' ⟨hk, hw, hI⟩
  by_cases hkn : k < n
  · by_cases hx : x = l[k]
    · repeat' (first | (show CW _ _ _ _ _ _; first | refine CW.seq ?_ | refine CW.region ?_ | refine CW.block ?_ | refine CW.condtr rfl (by with_reducible rfl) ?_ | refine CW.condd_t rfl (by omega) ?_ | refine CW.skip ?_ | refine CW.ret ?_) | (show Post _ _ _ _ _; first | refine Post.seq ?_ | refine Post.seq_ret ?_ | refine Post.blk_ret ?_ | refine Post.again_ret ?_) | refine SW.nil ?_ | refine SW.pure rfl rfl ?_ | (show SW _ _ _ _ (⟨_, Op.indexAddr _ _ _, _, _, _, none⟩ :: _) _ _; refine SW.st (st_indexN rfl rfl (by assumption) (by omega)) rfl ?_) | (show SW _ _ _ _ (⟨_, Op.load _ _, _, _, _, none⟩ :: _) _ _; refine SW.st (st_loadx hw rfl (hl.one hkn rfl)) rfl ?_) | (refine SW.st ((st_eqStr rfl rfl).eq (congrArg Value.bool (decide_eq_true hx))) rfl ?_))
      refine Post.ret1 rfl rfl ⟨_, rfl, hw, _, rfl, ?_⟩
      rw [hasS_iff.2 (hx ▸ List.getElem_mem (hl.lt hkn))]
      simp
    · repeat' (first | (show CW _ _ _ _ _ _; first | refine CW.seq ?_ | refine CW.region ?_ | refine CW.block ?_ | refine CW.condfr rfl (by with_reducible rfl) ?_ | refine CW.condd_t rfl (by omega) ?_ | refine CW.skip ?_) | (show Post _ _ _ _ _; first | refine Post.seq ?_ | refine Post.blk ?_) | refine SW.nil ?_ | refine SW.pure rfl rfl ?_ | (show SW _ _ _ _ (⟨_, Op.binOp _ _ _ _ _, _, _, _, none⟩ :: _) _ _; refine SW.st (st_add rfl rfl (by omega) (by omega)) rfl ?_) | (show SW _ _ _ _ (⟨_, Op.indexAddr _ _ _, _, _, _, none⟩ :: _) _ _; refine SW.st (st_indexN rfl rfl (by assumption) (by omega)) rfl ?_) | (show SW _ _ _ _ (⟨_, Op.load _ _, _, _, _, none⟩ :: _) _ _; refine SW.st (st_loadx hw rfl (hl.one hkn rfl)) rfl ?_) | (refine SW.st ((st_eqStr rfl rfl).eq (congrArg Value.bool (decide_eq_false hx))) rfl ?_))
      refine Post.again (k + 1) ⟨rfl, rfl, rfl, rfl, trivial⟩ (by omega) ⟨by omega, hw, fun i h' hi => ?_⟩
      by_cases hik : i = k
      · subst hik
        exact fun e => hx e.symm
      · exact hI i h' (by omega)
  · repeat' (first | (show CW _ _ _ _ _ _; first | refine CW.seq ?_ | refine CW.region ?_ | refine CW.condd_f rfl (by omega) ?_ | refine CW.ret ?_ | refine CW.exit ?_) | (show Post _ _ _ _ _; first | refine Post.seq ?_ | refine Post.seq_exit ?_ | refine Post.hit ?_ | refine Post.again_exit ?_) | refine SW.nil ?_ | refine SW.pure rfl rfl ?_)
    refine Post.ret1 rfl rfl ⟨_, rfl, hw, _, rfl, ?_⟩
    have hx : hasS l x = false := by
      cases e : hasS l x
      · rfl
      · obtain ⟨i, hi, e⟩ := List.getElem_of_mem (hasS_iff.1 e)
        exact absurd e (hI i hi (by omega))
    rw [hx]
    simp

theorem ContainsString_ans (A : Option Addr) (n c : Nat) (l : List ByteArray) (x : ByteArray) (w : World) (hl : Sl w 1 encStr A n l) (hn : n ≤ 9223372036854775807) :
    Ans Try.prog 166 [.slice A n c, .string x] w fun v _ => v = .bool (hasS l x) := by
  refine ans_of Try.func166 rfl Try.ntmps166 rfl ?_
  have hw := Ext.refl w
  repeat' (first | (show CW _ _ _ _ _ _; first | refine CW.seq ?_ | refine CW.region ?_) | (show Post _ _ _ _ _; refine Post.seq ?_) | refine SW.nil ?_ | refine SW.pure rfl rfl ?_)
  refine SW.call rfl rfl (IndexString_ans _ _ _ _ _ _ (hl.ext hw) hn) fun v w1 hw1 hv => ?_
  obtain ⟨i, rfl, hi⟩ := hv
  replace hw := Ext.trans hw hw1
  repeat' (first | (show CW _ _ _ _ _ _; refine CW.ret ?_) | (show Post _ _ _ _ _; refine Post.seq ?_) | refine SW.nil ?_ | refine SW.pure rfl rfl ?_)
  exact Post.ret1 rfl rfl ⟨_, rfl, hw, by rw [hi]⟩
theorem idxOf_congr {α β : Type} {p : α → Bool} {q : β → Bool} {l : List α} {m : List β} (hl : l.length = m.length) (h : ∀ (k : Nat) (h1 : k < l.length) (h2 : k < m.length), p l[k] = q m[k]) : idxOf p l = idxOf q m ∧ l.any p = m.any q := by
  have e : l.map p = m.map q := List.ext_getElem (by simp [hl]) fun k h1 h2 => by simpa using h k (by simpa using h1) (by simpa using h2)
  have a1 : l.any p = m.any q := by
    have x1 : (l.map p).any id = l.any p := by rw [List.any_map]; rfl
    have x2 : (m.map q).any id = m.any q := by rw [List.any_map]; rfl
    rw [← x1, ← x2, e]
  have a2 : l.findIdx p = m.findIdx q := by
    have x1 : (l.map p).findIdx id = l.findIdx p := by rw [List.findIdx_map]; rfl
    have x2 : (m.map q).findIdx id = m.findIdx q := by rw [List.findIdx_map]; rfl
    rw [← x1, ← x2, e]
  unfold idxOf
  rw [a1, a2]
  exact ⟨rfl, rfl⟩
theorem SlStr_uniq {w : World} {A : Option Addr} {n : Nat} {l l' : List ByteArray} (h : Sl w 1 encStr A n l) (h' : Sl w 1 encStr A n l') : l = l' := by
  have e1 := h.len
  have e2 := h'.len
  refine List.ext_getElem (by omega) fun k h1 h2 => ?_
  have a := h.one (i := k) (by omega) (u := .string l[k]) rfl
  have b := h'.one (i := k) (by omega) (u := .string l'[k]) rfl
  rw [a] at b
  simpa using b
theorem namedP_ex (w : World) (n : ByteArray) : ∃ p : CRow → Bool, ∀ x c, RdC w x c → p x = hasN n c := by
  classical
  refine ⟨fun x => decide (∃ c, RdC w x c ∧ hasN n c = true), fun x c h => ?_⟩
  cases e : hasN n c
  · refine decide_eq_false ?_
    rintro ⟨c', h', e'⟩
    unfold hasN at e e'
    rw [SlStr_uniq h'.names h.names, e] at e'
    cases e'
  · exact decide_eq_true ⟨c, h, e⟩

theorem namedF_ans (x : CRow) (c : KCache) (b3 : Nat) (n : ByteArray) (w : World) (h3 : Blk w b3 9 [.string n]) (hx : RdC w x c) (hn : x.Names.n ≤ 9223372036854775807) :
    Ans Try.prog 165 ([.agg (encC x).toArray] ++ [.pointer (some ⟨b3, 0, none⟩)]) w fun v _ => v = .bool (hasN n c) := by
  refine ans_of Try.func165 rfl Try.ntmps165 rfl ?_
  refine CW.seq (CW.region (SW.box rfl rfl fun b1 w1 hw hb1b hb1 => ?_))
  replace h3 := h3.ext hw
  have h3c := h3.cell (i := 0) (v := .string n) rfl
  rw [add_zero] at h3c
  repeat' (first | (show CW _ _ _ _ _ _; first | refine CW.seq ?_ | refine CW.region ?_ | refine CW.ret ?_) | (show Post _ _ _ _ _; refine Post.seq ?_) | refine SW.nil ?_ | refine SW.pure rfl rfl ?_ | (show SW _ _ _ _ (⟨_, Op.fieldAddr _ _ _, _, _, _, none⟩ :: _) _ _; refine SW.st (st_field rfl) rfl ?_) | (show SW _ _ _ _ (⟨_, Op.load _ _, _, _, _, none⟩ :: _) _ _; first | refine SW.st (st_load rfl (hb1.cell (i := 0) (v := .slice x.Names.A x.Names.n x.Names.c) rfl)) rfl ?_ | refine SW.st (st_load rfl h3c) rfl ?_) | (show SW _ _ _ _ (⟨_, Op.call ⟨.value (.func _), _, _⟩, _, _, _, none⟩ :: _) _ _; (refine SW.call rfl rfl (ContainsString_ans _ _ _ _ _ _ (hx.names.ext hw) hn) ?_; intro v w1 hw1 hv; subst hv; replace hw := Ext.trans hw hw1; replace hb1 := hb1.ext hw1; clear hw1)))
  exact Post.ret1 rfl rfl ⟨_, rfl, hw, rfl⟩

theorem named_ans (r : SRow) (s : KSystem) (n : ByteArray) (w : World) (hr : RdS w r s) (hs : s.small) :
    Ans Try.prog 134 [.agg (encSys r).toArray, .string n] w fun v _ => v = .tuple #[.int .i64 (idxOf (hasN n) s.Caches), .bool (s.Caches.any (hasN n))] := by
  refine ans_of Try.func134 rfl Try.ntmps134 rfl ?_
  obtain ⟨cs, hc⟩ := hr.caches
  obtain ⟨z1, z2⟩ := hc.len
  have m3 := hs.caches
  obtain ⟨p, hp⟩ := namedP_ex w n
  have hcong := idxOf_congr (p := p) (q := hasN n) (l := cs) (m := s.Caches) (by omega) fun k h1 h2 => hp _ _ (hc.each.get k h1 h2)
  refine CW.seq (CW.region (SW.box rfl rfl fun b2 w1 hw hb2b hb2 => ?_))
  refine SW.box1 rfl rfl rfl fun b3 w2 hw2 hb3b hb3 => ?_
  (replace hw := Ext.trans hw hw2; replace hb2 := hb2.ext hw2)
  repeat' (first | (show CW _ _ _ _ _ _; first | refine CW.seq ?_ | refine CW.region ?_) | (show Post _ _ _ _ _; refine Post.seq ?_) | refine SW.nil ?_ | refine SW.pure rfl rfl ?_ | (show SW _ _ _ _ (⟨_, Op.fieldAddr _ _ _, _, _, _, none⟩ :: _) _ _; refine SW.st (st_field rfl) rfl ?_) | (show SW _ _ _ _ (⟨_, Op.load _ _, _, _, _, none⟩ :: _) _ _; refine SW.st (st_load rfl (hb2.cell (i := 6) (v := .slice r.Caches.A r.Caches.n r.Caches.c) rfl)) rfl ?_) | (refine SW.st (st_func (vs := [.pointer (some ⟨b3, 0, none⟩)]) rfl) rfl ?_))
  refine SW.call rfl rfl (IndexFuncCRow_ans _ _ _ _ _ (hc.row.ext hw) _ [.pointer (some ⟨b3, 0, none⟩)] p (fun x => .agg (encC x).toArray) (fun x => rfl) (fun x hx w1 hx1 => by
    obtain ⟨k, hk, rfl⟩ := List.getElem_of_mem hx
    have hk' : k < s.Caches.length := by omega
    have hck := hc.each.get k hk hk'
    have q1 := (hs.each _ (List.getElem_mem hk')).names
    have q2 := hck.names.len
    rw [hp _ _ hck]
    exact namedF_ans _ _ b3 n w1 (hb3.ext hx1) (hck.ext (Ext.trans hw hx1)) (by omega)) (by omega)) fun v w4 hw4 hv => ?_
  subst hv
  rw [hcong.1]
  replace hw := Ext.trans hw hw4
  have hge := idxOf_ge (hasN n) s.Caches
  repeat' (first | (show CW _ _ _ _ _ _; first | refine CW.seq ?_ | refine CW.region ?_ | refine CW.ret ?_) | (show Post _ _ _ _ _; refine Post.seq ?_) | refine SW.nil ?_ | refine SW.pure rfl rfl ?_)
  all_goals exact Post.ret2 rfl rfl rfl ⟨_, rfl, hw, by rw [hge]⟩

theorem isNaNC_ans (x : ByteArray) (w : World) : Ans Try.prog 180 [.string x] w fun v _ => v = .bool false := by
  refine ans_of Try.func180 rfl Try.ntmps180 rfl ?_
  have hw := Ext.refl w
  repeat' (first | (show CW _ _ _ _ _ _; first | refine CW.seq ?_ | refine CW.region ?_ | refine CW.ret ?_) | (show Post _ _ _ _ _; refine Post.seq ?_) | refine SW.nil ?_ | refine SW.pure rfl rfl ?_ | (refine SW.st ((st_neStr' rfl rfl).eq (congrArg Value.bool (decide_eq_false (fun h => h rfl)))) rfl ?_))
  exact Post.ret1 rfl rfl ⟨_, rfl, hw, rfl⟩


theorem isNaNS_ans (x : ByteArray) (w : World) : Ans Try.prog 168 [.string x] w fun v _ => v = .bool false := by
  refine ans_of Try.func168 rfl Try.ntmps168 rfl ?_
  have hw := Ext.refl w
  repeat' (first | (show CW _ _ _ _ _ _; first | refine CW.seq ?_ | refine CW.region ?_ | refine CW.ret ?_) | (show Post _ _ _ _ _; refine Post.seq ?_) | refine SW.nil ?_ | refine SW.pure rfl rfl ?_ | (refine SW.st ((st_neStr' rfl rfl).eq (congrArg Value.bool (decide_eq_false (fun h => h rfl)))) rfl ?_))
  exact Post.ret1 rfl rfl ⟨_, rfl, hw, rfl⟩

theorem LessStr_ans (x y : ByteArray) (w : World) : Ans Try.prog 167 [.string x, .string y] w fun v _ => v = .bool (lessS x y) := by
  refine ans_of Try.func167 rfl Try.ntmps167 rfl ?_
  have hw := Ext.refl w
  repeat' (first | (show CW _ _ _ _ _ _; first | refine CW.seq ?_ | refine CW.region ?_ | refine CW.ret ?_) | (show Post _ _ _ _ _; refine Post.seq ?_) | refine SW.nil ?_ | (show SW _ _ _ _ (⟨_, _, _, _, _, some _⟩ :: _) _ _; first | refine SW.want_f rfl rfl (by with_reducible rfl) ?_ | refine SW.skip_t rfl rfl (by with_reducible rfl) rfl ?_) | refine SW.pure rfl rfl ?_ | (show SW _ _ _ _ (⟨_, Op.call ⟨.value (.func _), _, _⟩, _, _, _, none⟩ :: _) _ _; (refine SW.call rfl rfl (isNaNC_ans _ _) ?_; intro v w1 hw1 hv; subst hv; replace hw := Ext.trans hw hw1; clear hw1)) | (refine SW.st (st_ltStr rfl rfl) rfl ?_))
  exact Post.ret1 rfl rfl ⟨_, rfl, hw, rfl⟩

theorem BinStr_ans (A : Option Addr) (n c : Nat) (l : List ByteArray) (x : ByteArray) (w : World) (hl : Sl w 1 encStr A n l) (hs : Sorted l) (hn : n ≤ 1000000000000000000) :
    Ans Try.prog 137 [.slice A n c, .string x] w fun v _ => ∃ b, v = .tuple #[.int .i64 (posS l x : Int), .bool b] := by
  refine ans_of Try.func137 rfl Try.ntmps137 rfl ?_
  have hw := Ext.refl w
  have hA := hl.base
  have hll := hl.len
  repeat' (first | (show CW _ _ _ _ _ _; first | refine CW.seq ?_ | refine CW.region ?_ | refine CW.block ?_) | (show Post _ _ _ _ _; refine Post.seq ?_) | refine SW.nil ?_ | refine SW.pure rfl rfl ?_ | (show SW _ _ _ _ (⟨_, Op.call ⟨.builtin .len, _, _⟩, _, _, _, none⟩ :: _) _ _; refine SW.st (st_len rfl) rfl ?_))
  refine CW.loop (fun s : Nat × Nat => [(0, .slice A n c), (1, .string x), (6, .int .i64 (n : Int)), (7, .int .i64 (s.1 : Int)), (8, .int .i64 (s.2 : Int))])
    (fun s w' => s.1 ≤ s.2 ∧ s.2 ≤ n ∧ Ext w w' ∧ (∀ (k : Nat) (h : k < l.length), k < s.1 → lessS l[k] x = true) ∧ (∀ (k : Nat) (h : k < l.length), s.2 ≤ k → lessS l[k] x = false)) (fun s => s.2 - s.1) (0, n)
    ⟨rfl, rfl, rfl, rfl, rfl, trivial⟩ ⟨by omega, by omega, hw, fun k h h' => by omega, fun k h h' => by omega⟩ ?_
  clear hw
  rintro ⟨i, j⟩ w' ⟨hij, hjn, hw, hI, hJ⟩
  simp only at hij hjn hI hJ ⊢
  by_cases hlt : i < j
  · have hk : (i + j) / 2 < n := by omega
    have hkl := hl.lt hk
    obtain ⟨q, hq⟩ : ∃ q, lessS (l[(i + j) / 2]) x = q := ⟨_, rfl⟩
    have cL : ∀ w', Ans Try.prog 167 [.string (l[(i + j) / 2]), .string x] w' fun v _ => v = .bool q := fun w' => by
      have := LessStr_ans (l[(i + j) / 2]) x w'
      rwa [hq] at this
    cases q
    · repeat' (first | (show CW _ _ _ _ _ _; first | refine CW.seq ?_ | refine CW.region ?_ | refine CW.block ?_ | refine CW.condfr rfl (by with_reducible rfl) ?_ | refine CW.condd_t rfl (by omega) ?_ | refine CW.skip ?_) | (show Post _ _ _ _ _; first | refine Post.seq ?_ | refine Post.blk ?_) | refine SW.nil ?_ | refine SW.pure rfl rfl ?_ | (show SW _ _ _ _ (⟨_, Op.binOp _ _ _ _ _, _, _, _, none⟩ :: _) _ _; refine SW.st (st_add rfl rfl (by omega) (by omega)) rfl ?_) | (show SW _ _ _ _ (⟨_, Op.indexAddr _ _ _, _, _, _, none⟩ :: _) _ _; refine SW.st (st_indexN rfl rfl (by assumption) (by omega)) rfl ?_) | (show SW _ _ _ _ (⟨_, Op.load _ _, _, _, _, none⟩ :: _) _ _; refine SW.st (st_loadx hw rfl (hl.one hk rfl)) rfl ?_) | (show SW _ _ _ _ (⟨_, Op.call ⟨.value (.func _), _, _⟩, _, _, _, none⟩ :: _) _ _; (refine SW.call rfl rfl (cL _) ?_; intro v w1 hw1 hv; subst hv; replace hw := Ext.trans hw hw1; clear hw1)) | (refine SW.st ((st_convI Try.underlying3 und_uint rfl).eq (congrArg (Value.int .u64) (wrap_u64 (by omega) (by omega)))) rfl ?_) | (refine SW.st ((st_convI und_uint Try.underlying3 rfl).eq (congrArg (Value.int .i64) (wrap_in (by omega) (by omega)))) rfl ?_) | (refine SW.st (st_shr1 rfl rfl) rfl ?_))
      refine Post.again (i, (i + j) / 2) ⟨rfl, rfl, rfl, rfl, congrArg (fun z => some (Value.int .i64 z)) (by omega), trivial⟩ (by simp only; omega) ⟨by simp only; omega, by simp only; omega, hw, hI, fun k h h' => ?_⟩
      simp only at h'
      by_cases e : k = (i + j) / 2
      · subst e; exact hq
      · cases c : lessS l[k] x
        · rfl
        · have := lessS_trans (hs ((i + j) / 2) k hkl h (by omega)) c
          rw [hq] at this
          cases this
    · repeat' (first | (show CW _ _ _ _ _ _; first | refine CW.seq ?_ | refine CW.region ?_ | refine CW.block ?_ | refine CW.condtr rfl (by with_reducible rfl) ?_ | refine CW.condd_t rfl (by omega) ?_ | refine CW.skip ?_) | (show Post _ _ _ _ _; first | refine Post.seq ?_ | refine Post.blk ?_) | refine SW.nil ?_ | refine SW.pure rfl rfl ?_ | (show SW _ _ _ _ (⟨_, Op.binOp _ _ _ _ _, _, _, _, none⟩ :: _) _ _; refine SW.st (st_add rfl rfl (by omega) (by omega)) rfl ?_) | (show SW _ _ _ _ (⟨_, Op.indexAddr _ _ _, _, _, _, none⟩ :: _) _ _; refine SW.st (st_indexN rfl rfl (by assumption) (by omega)) rfl ?_) | (show SW _ _ _ _ (⟨_, Op.load _ _, _, _, _, none⟩ :: _) _ _; refine SW.st (st_loadx hw rfl (hl.one hk rfl)) rfl ?_) | (show SW _ _ _ _ (⟨_, Op.call ⟨.value (.func _), _, _⟩, _, _, _, none⟩ :: _) _ _; (refine SW.call rfl rfl (cL _) ?_; intro v w1 hw1 hv; subst hv; replace hw := Ext.trans hw hw1; clear hw1)) | (refine SW.st ((st_convI Try.underlying3 und_uint rfl).eq (congrArg (Value.int .u64) (wrap_u64 (by omega) (by omega)))) rfl ?_) | (refine SW.st ((st_convI und_uint Try.underlying3 rfl).eq (congrArg (Value.int .i64) (wrap_in (by omega) (by omega)))) rfl ?_) | (refine SW.st (st_shr1 rfl rfl) rfl ?_))
      refine Post.again ((i + j) / 2 + 1, j) ⟨rfl, rfl, rfl, congrArg (fun z => some (Value.int .i64 z)) (by omega), rfl, trivial⟩ (by simp only; omega) ⟨by simp only; omega, hjn, hw, fun k h h' => ?_, hJ⟩
      simp only at h'
      by_cases e : k = (i + j) / 2
      · subst e; exact hq
      · exact lessS_trans (hs k ((i + j) / 2) h hkl (by omega)) hq
  · obtain rfl : i = j := by omega
    have hp : posS l x = i := posS_uniq (by omega) (fun j hj h => hI j hj h) (fun h => hJ i h (by omega))
    rw [hp]
    by_cases hin : i < n
    · by_cases he : l[i]'(hl.lt hin) = x
      · repeat' (first | (show CW _ _ _ _ _ _; first | refine CW.seq ?_ | refine CW.region ?_ | refine CW.condd_f rfl (by omega) ?_ | refine CW.ret ?_ | refine CW.exit ?_) | (show Post _ _ _ _ _; first | refine Post.seq ?_ | refine Post.seq_exit ?_ | refine Post.hit ?_ | refine Post.again_exit ?_) | refine SW.nil ?_ | (show SW _ _ _ _ (⟨_, _, _, _, _, some _⟩ :: _) _ _; first | refine SW.want_t rfl rfl (by with_reducible rfl) ?_ | refine SW.skip_f rfl rfl (by with_reducible rfl) rfl ?_ | refine SW.skip_u rfl rfl (by with_reducible rfl) rfl ?_ | refine SW.splitd_t rfl rfl rfl (by omega) ?_) | refine SW.pure rfl rfl ?_ | (show SW _ _ _ _ (⟨_, Op.indexAddr _ _ _, _, _, _, none⟩ :: _) _ _; refine SW.st (st_indexN rfl rfl (by assumption) (by omega)) rfl ?_) | (show SW _ _ _ _ (⟨_, Op.load _ _, _, _, _, none⟩ :: _) _ _; refine SW.st (st_loadx hw rfl (hl.one hin rfl)) rfl ?_) | (refine SW.st ((st_eqStr rfl rfl).eq (congrArg Value.bool (decide_eq_true he))) rfl ?_))
        exact Post.ret2 rfl rfl rfl ⟨_, rfl, hw, _, rfl⟩
      · repeat' (first | (show CW _ _ _ _ _ _; first | refine CW.seq ?_ | refine CW.region ?_ | refine CW.condd_f rfl (by omega) ?_ | refine CW.ret ?_ | refine CW.exit ?_) | (show Post _ _ _ _ _; first | refine Post.seq ?_ | refine Post.seq_exit ?_ | refine Post.hit ?_ | refine Post.again_exit ?_) | refine SW.nil ?_ | (show SW _ _ _ _ (⟨_, _, _, _, _, some _⟩ :: _) _ _; first | refine SW.want_t rfl rfl (by with_reducible rfl) ?_ | refine SW.want_f rfl rfl (by with_reducible rfl) ?_ | refine SW.skip_t rfl rfl (by with_reducible rfl) rfl ?_ | refine SW.splitd_t rfl rfl rfl (by omega) ?_) | refine SW.pure rfl rfl ?_ | (show SW _ _ _ _ (⟨_, Op.indexAddr _ _ _, _, _, _, none⟩ :: _) _ _; refine SW.st (st_indexN rfl rfl (by assumption) (by omega)) rfl ?_) | (show SW _ _ _ _ (⟨_, Op.load _ _, _, _, _, none⟩ :: _) _ _; refine SW.st (st_loadx hw rfl (hl.one hin rfl)) rfl ?_) | (show SW _ _ _ _ (⟨_, Op.call ⟨.value (.func _), _, _⟩, _, _, _, none⟩ :: _) _ _; (refine SW.call rfl rfl (isNaNS_ans _ _) ?_; intro v w1 hw1 hv; subst hv; replace hw := Ext.trans hw hw1; clear hw1)) | (refine SW.st ((st_eqStr rfl rfl).eq (congrArg Value.bool (decide_eq_false he))) rfl ?_))
        exact Post.ret2 rfl rfl rfl ⟨_, rfl, hw, _, rfl⟩
    · repeat' (first | (show CW _ _ _ _ _ _; first | refine CW.seq ?_ | refine CW.region ?_ | refine CW.condd_f rfl (by omega) ?_ | refine CW.ret ?_ | refine CW.exit ?_) | (show Post _ _ _ _ _; first | refine Post.seq ?_ | refine Post.seq_exit ?_ | refine Post.hit ?_ | refine Post.again_exit ?_) | refine SW.nil ?_ | (show SW _ _ _ _ (⟨_, _, _, _, _, some _⟩ :: _) _ _; first | refine SW.skip_t rfl rfl (by with_reducible rfl) rfl ?_ | refine SW.skip_u rfl rfl (by with_reducible rfl) rfl ?_ | refine SW.splitd_f rfl rfl rfl (by omega) ?_) | refine SW.pure rfl rfl ?_)
      exact Post.ret2 rfl rfl rfl ⟨_, rfl, hw, _, rfl⟩

theorem cacheOf_ans (r : SRow) (s : KSystem) (n : ByteArray) (w : World) (hr : RdS w r s) (hs : s.small) :
    Ans Try.prog 140 [.agg (encSys r).toArray, .string n] w fun v _ => v = .int .i64 (idxOf (hasN n) s.Caches) := by
  refine ans_of Try.func140 rfl Try.ntmps140 rfl ?_
  refine CW.seq (CW.region (SW.box rfl rfl fun b2 w1 hw hb2b hb2 => ?_))
  obtain ⟨cs, hc⟩ := hr.caches
  obtain ⟨z1, z2⟩ := hc.len
  have m3 := hs.caches
  repeat' (first | (show CW _ _ _ _ _ _; first | refine CW.seq ?_ | refine CW.region ?_ | refine CW.block ?_) | (show Post _ _ _ _ _; refine Post.seq ?_) | refine SW.nil ?_ | refine SW.pure rfl rfl ?_)
  refine CW.loop (fun k : Nat => [(1, .string n), (2, .pointer (some ⟨b2, 0, none⟩)), (5, .int .i64 (k : Int))])
    (fun k w' => k ≤ r.Caches.n ∧ Ext w w' ∧ Blk w' b2 33 (encSys r) ∧ ∀ (j : Nat) (hj : j < s.Caches.length), j < k → hasN n s.Caches[j] = false) (fun k => r.Caches.n - k) 0
    ⟨rfl, rfl, rfl, trivial⟩ ⟨by omega, hw, hb2, fun j hj h => by omega⟩ ?_
  clear hw hb2
  rintro i w' ⟨hk, hw, hb2, hI⟩
  have hA := hc.row.base
  by_cases hin : i < r.Caches.n
  · have hic : i < cs.length := by omega
    have hil : i < s.Caches.length := by omega
    have hck := hc.each.get i hic hil
    have sm := (hs.each _ (List.getElem_mem hil)).names
    have q1 := hck.names.len
    have g0 := hc.row.fld hin (j := 0) (u := .slice cs[i].Names.A cs[i].Names.n cs[i].Names.c) rfl
    repeat' (first | (show CW _ _ _ _ _ _; first | refine CW.seq ?_ | refine CW.region ?_ | refine CW.block ?_ | refine CW.condd_t rfl (by omega) ?_ | refine CW.skip ?_) | (show Post _ _ _ _ _; refine Post.seq ?_) | refine SW.nil ?_ | refine SW.pure rfl rfl ?_ | (show SW _ _ _ _ (⟨_, Op.fieldAddr _ _ _, _, _, _, none⟩ :: _) _ _; refine SW.st (st_field rfl) rfl ?_) | (show SW _ _ _ _ (⟨_, Op.call ⟨.builtin .len, _, _⟩, _, _, _, none⟩ :: _) _ _; refine SW.st (st_len rfl) rfl ?_) | (show SW _ _ _ _ (⟨_, Op.load _ _, _, _, _, none⟩ :: _) _ _; refine SW.st (st_load rfl (hb2.cell (i := 6) (v := .slice r.Caches.A r.Caches.n r.Caches.c) rfl)) rfl ?_))
    refine CW.loop (fun k : Nat => [(1, .string n), (2, .pointer (some ⟨b2, 0, none⟩)), (5, .int .i64 (i : Int)), (6, .int .i64 (k : Int))])
      (fun k w' => k ≤ cs[i].Names.n ∧ Ext w w' ∧ Blk w' b2 33 (encSys r) ∧ ∀ (j : Nat) (hj : j < s.Caches[i].Names.length), j < k → s.Caches[i].Names[j] ≠ n) (fun k => cs[i].Names.n - k) 0
      ⟨rfl, rfl, rfl, rfl, trivial⟩ ⟨by omega, hw, hb2, fun j hj h => by omega⟩ ?_
    clear hw hb2
    rintro k w' ⟨hk, hw, hb2, hJ⟩
    have hA1 := hck.names.base
    by_cases hkn : k < cs[i].Names.n
    · have hkl : k < s.Caches[i].Names.length := by omega
      by_cases he : s.Caches[i].Names[k] = n
      · have hh : hasN n s.Caches[i] = true := hasS_iff.2 (he ▸ List.getElem_mem hkl)
        repeat' (first | (show CW _ _ _ _ _ _; first | refine CW.seq ?_ | refine CW.region ?_ | refine CW.block ?_ | refine CW.condtr rfl (by with_reducible rfl) ?_ | refine CW.condd_t rfl (by omega) ?_ | refine CW.skip ?_ | refine CW.ret ?_) | (show Post _ _ _ _ _; first | refine Post.seq ?_ | refine Post.seq_ret ?_ | refine Post.blk_ret ?_ | refine Post.again_ret ?_) | refine SW.nil ?_ | refine SW.pure rfl rfl ?_ | (show SW _ _ _ _ (⟨_, Op.fieldAddr _ _ _, _, _, _, none⟩ :: _) _ _; refine SW.st (st_field rfl) rfl ?_) | (show SW _ _ _ _ (⟨_, Op.indexAddr _ _ _, _, _, _, none⟩ :: _) _ _; refine SW.st (st_indexN rfl rfl (by assumption) (by omega)) rfl ?_) | (show SW _ _ _ _ (⟨_, Op.call ⟨.builtin .len, _, _⟩, _, _, _, none⟩ :: _) _ _; refine SW.st (st_len rfl) rfl ?_) | (show SW _ _ _ _ (⟨_, Op.load _ _, _, _, _, none⟩ :: _) _ _; first | refine SW.st (st_load rfl (hb2.cell (i := 6) (v := .slice r.Caches.A r.Caches.n r.Caches.c) rfl)) rfl ?_ | refine SW.st (st_loadx hw rfl g0) rfl ?_ | refine SW.st (st_loadx hw rfl (hck.names.one hkn rfl)) rfl ?_) | (refine SW.st ((st_eqStr rfl rfl).eq (congrArg Value.bool (decide_eq_true he))) rfl ?_))
        exact Post.ret1 rfl rfl ⟨_, rfl, hw, by rw [idxOf_hit hil hh hI]⟩
      · repeat' (first | (show CW _ _ _ _ _ _; first | refine CW.seq ?_ | refine CW.region ?_ | refine CW.block ?_ | refine CW.condfr rfl (by with_reducible rfl) ?_ | refine CW.condd_t rfl (by omega) ?_ | refine CW.skip ?_) | (show Post _ _ _ _ _; first | refine Post.seq ?_ | refine Post.blk ?_) | refine SW.nil ?_ | refine SW.pure rfl rfl ?_ | (show SW _ _ _ _ (⟨_, Op.fieldAddr _ _ _, _, _, _, none⟩ :: _) _ _; refine SW.st (st_field rfl) rfl ?_) | (show SW _ _ _ _ (⟨_, Op.binOp _ _ _ _ _, _, _, _, none⟩ :: _) _ _; refine SW.st (st_add rfl rfl (by omega) (by omega)) rfl ?_) | (show SW _ _ _ _ (⟨_, Op.indexAddr _ _ _, _, _, _, none⟩ :: _) _ _; refine SW.st (st_indexN rfl rfl (by assumption) (by omega)) rfl ?_) | (show SW _ _ _ _ (⟨_, Op.call ⟨.builtin .len, _, _⟩, _, _, _, none⟩ :: _) _ _; refine SW.st (st_len rfl) rfl ?_) | (show SW _ _ _ _ (⟨_, Op.load _ _, _, _, _, none⟩ :: _) _ _; first | refine SW.st (st_load rfl (hb2.cell (i := 6) (v := .slice r.Caches.A r.Caches.n r.Caches.c) rfl)) rfl ?_ | refine SW.st (st_loadx hw rfl g0) rfl ?_ | refine SW.st (st_loadx hw rfl (hck.names.one hkn rfl)) rfl ?_) | (refine SW.st ((st_eqStr rfl rfl).eq (congrArg Value.bool (decide_eq_false he))) rfl ?_))
        exact Post.again (k + 1) ⟨rfl, rfl, rfl, rfl, trivial⟩ (by omega) ⟨by omega, hw, hb2, fun j hj h => by
          by_cases e : j = k
          · subst e; exact he
          · exact hJ j hj (by omega)⟩
    · have hh : hasN n s.Caches[i] = false := by
        cases e : hasN n s.Caches[i]
        · rfl
        · obtain ⟨j, hj, e⟩ := List.getElem_of_mem (hasS_iff.1 e)
          exact absurd e (hJ j hj (by omega))
      repeat' (first | (show CW _ _ _ _ _ _; first | refine CW.seq ?_ | refine CW.region ?_ | refine CW.condd_f rfl (by omega) ?_ | refine CW.exit ?_) | (show Post _ _ _ _ _; first | refine Post.seq ?_ | refine Post.seq_exit ?_ | refine Post.hit ?_ | refine Post.blk ?_ | refine Post.again_exit ?_) | refine SW.nil ?_ | refine SW.pure rfl rfl ?_ | (show SW _ _ _ _ (⟨_, Op.fieldAddr _ _ _, _, _, _, none⟩ :: _) _ _; refine SW.st (st_field rfl) rfl ?_) | (show SW _ _ _ _ (⟨_, Op.binOp _ _ _ _ _, _, _, _, none⟩ :: _) _ _; refine SW.st (st_add rfl rfl (by omega) (by omega)) rfl ?_) | (show SW _ _ _ _ (⟨_, Op.indexAddr _ _ _, _, _, _, none⟩ :: _) _ _; refine SW.st (st_indexN rfl rfl (by assumption) (by omega)) rfl ?_) | (show SW _ _ _ _ (⟨_, Op.call ⟨.builtin .len, _, _⟩, _, _, _, none⟩ :: _) _ _; refine SW.st (st_len rfl) rfl ?_) | (show SW _ _ _ _ (⟨_, Op.load _ _, _, _, _, none⟩ :: _) _ _; first | refine SW.st (st_load rfl (hb2.cell (i := 6) (v := .slice r.Caches.A r.Caches.n r.Caches.c) rfl)) rfl ?_ | refine SW.st (st_loadx hw rfl g0) rfl ?_))
      exact Post.again (i + 1) ⟨rfl, rfl, rfl, trivial⟩ (by omega) ⟨by omega, hw, hb2, fun j hj h => by
        by_cases e : j = i
        · subst e; exact hh
        · exact hI j hj (by omega)⟩
  · repeat' (first | (show CW _ _ _ _ _ _; first | refine CW.seq ?_ | refine CW.region ?_ | refine CW.condd_f rfl (by omega) ?_ | refine CW.ret ?_ | refine CW.exit ?_) | (show Post _ _ _ _ _; first | refine Post.seq ?_ | refine Post.seq_exit ?_ | refine Post.hit ?_ | refine Post.again_exit ?_) | refine SW.nil ?_ | refine SW.pure rfl rfl ?_ | (show SW _ _ _ _ (⟨_, Op.fieldAddr _ _ _, _, _, _, none⟩ :: _) _ _; refine SW.st (st_field rfl) rfl ?_) | (show SW _ _ _ _ (⟨_, Op.call ⟨.builtin .len, _, _⟩, _, _, _, none⟩ :: _) _ _; refine SW.st (st_len rfl) rfl ?_) | (show SW _ _ _ _ (⟨_, Op.load _ _, _, _, _, none⟩ :: _) _ _; refine SW.st (st_load rfl (hb2.cell (i := 6) (v := .slice r.Caches.A r.Caches.n r.Caches.c) rfl)) rfl ?_))
    exact Post.ret1 rfl rfl ⟨_, rfl, hw, by rw [(idxOf_none (fun j hj => hI j hj (by omega))).1]⟩
end Go.Proofs.Ytfdmgflboibdoaa

/-
  Contract: slices.Insert of one string.
-/
set_option linter.unusedVariables false
namespace Go.Proofs.Ytfdmgflboibdoaa
open Go.RowKit


set_option maxHeartbeats 4000000 in
theorem InsertByteArray_ans (A : Option Addr) (n c lo : Nat) (l : List ByteArray) (w : World) (hO : Own w lo 9 1 encStr A n c l) (i : Nat) (hi : i ≤ n) (x : ByteArray) (b : Nat) (hB : Blk w b 9 (encStr x)) (hne : ownB A c ≠ some b) (hn : (n + 1) * 16 ≤ 140737488355328) (hlo : lo ≤ w.heap.size) :
    AnsX Try.prog 138 [.slice A n c, .int .i64 (i : Int), .slice (some ⟨b, 0, none⟩) 1 1] w fun v w' => ∃ A' c', v = .slice A' (n + 1) c' ∧ Own w' lo 9 1 encStr A' (n + 1) c' (insAt l i x) ∧ w.grownBy w' (ownB A c) ∧ ∀ k, ownB A' c' = some k → ownB A c = some k ∨ w.heap.size ≤ k := by
  refine ansx_of Try.func138 rfl Try.ntmps138 rfl ?_
  have hle := hO.le
  have hll := hO.len
  have hA := hO.sl.base
  have hw := Ext.refl w
  have hx1 : Sl w 1 encStr (some ⟨b, 0, none⟩) 1 [x] := Blk.sl1 hB
  have hxl : (encStr x).length = 1 := rfl
  have hfl : ∀ q : List ByteArray, (q.flatMap encStr).length = q.length * 1 := fun q => length_flatMap_enc q
  have hone : ∀ (q : List ByteArray) (v : Value), v ∈ q.flatMap encStr → v.oneCell' = true := fun q v hv => by
    obtain ⟨u, _, hu⟩ := List.mem_flatMap.1 hv
    exact Enc.one (enc := encStr) u v hu
  by_cases hin : i = n
  · subst hin
    repeat' (first | (show CW _ _ _ _ _ _; first | refine CW.seq ?_ | refine CW.region ?_ | refine CW.condd_t rfl (by omega) ?_ | refine CW.condd_f rfl (by omega) ?_ | refine CW.skip ?_) | (show Post _ _ _ _ _; refine Post.seq ?_) | refine SW.nil ?_ | refine SW.pure rfl rfl ?_ | (show SW _ _ _ _ (⟨_, Op.call ⟨.builtin .len, _, _⟩, _, _, _, none⟩ :: _) _ _; refine SW.st (st_len rfl) rfl ?_) | (refine SW.st (st_sliceLo (k := i) rfl rfl (by omega) (by omega)) rfl ?_))
    all_goals first | (exfalso; omega) | skip
    refine SW.append2 hO hx1 hlo (by omega) rfl rfl rfl (by omega) (by omega) fun A2 c2 w2 hcase => ?_
    have hres : Own w2 lo 9 1 encStr A2 (i + 1) c2 (l ++ [x]) ∧ w.grownBy w2 (ownB A c) ∧ ∀ k, ownB A2 c2 = some k → ownB A c = some k ∨ w.heap.size ≤ k := by
      rcases hcase with ⟨rfl, rfl, h1, h2⟩ | ⟨h1, h2⟩
      · exact ⟨h1, h2, fun k e => .inl e⟩
      · exact ⟨h1.low hlo, (ext_grown (Ext.refl w) h2 (Nat.le_refl _) (fun k e => by cases e)).gr _, fun k e => .inr (h1.row_ge k e)⟩
    obtain ⟨hO2, hg, hpos⟩ := hres
    repeat' (first | (show CW _ _ _ _ _ _; refine CW.ret ?_) | (show Post _ _ _ _ _; first | refine Post.seq ?_ | refine Post.seq_ret ?_) | refine SW.nil ?_ | refine SW.pure rfl rfl ?_)
    refine Post.ret1 rfl rfl ⟨_, rfl, A2, c2, rfl, ?_, hg, hpos⟩
    have e : insAt l i x = l ++ [x] := by unfold insAt; rw [List.take_of_length_le (by omega), List.drop_eq_nil_of_le (by omega)]; simp
    rw [e]; exact hO2
  · by_cases hroom : n + 1 ≤ c
    · obtain ⟨g, rest, rfl, h1, h2, h3, h4, h5, h6⟩ := hO.opened (by omega)
      have hgb : g ≠ b := fun e => hne (by rw [h6, e])
      have es : l.flatMap encStr ++ rest = (l.take i).flatMap encStr ++ ((l.drop i).flatMap encStr ++ rest) := by rw [← List.append_assoc, ← List.flatMap_append, List.take_append_drop]
      have e1 : ((l.take i).flatMap encStr).length = i * 1 := by rw [hfl]; simp; omega
      have e2 : ((l.drop i).flatMap encStr).length = (n - i) * 1 := by rw [hfl]; simp [hll]
      have hsrc := hO.sl.drop i c (by omega) (by omega)
      rw [if_neg (by omega)] at hsrc
      rw [es] at h2
      have hov : ∀ w', Ext w w' → (Extern.SlicesOverlaps.overlaps #[91, 91] #[4] #[.slice (some ⟨b, 0, none⟩) 1 1, .slice (if c = i + 1 then (some ⟨g, 0, none⟩) else (some (⟨g, 0, none⟩ : Addr)).map (·.add ((i + 1) * 1))) (n + 1 - (i + 1)) (c - (i + 1))]).run Try.prog w' = .ok (.bool false) w' := fun w' hx => by
        rw [if_neg (by omega), Option.map_some, addr_of]
        have b1 := hB.ext hx
        have b2 := h2.ext hx
        unfold Blk at b1 b2
        exact Lib.run_overlaps_apart w' 91 4 9 (SliceTy.und (t := 91)) 1 (fun w0 => run_sizeOf (SliceTy.size (t := 91)) w0) ⟨b, 0, none⟩ ⟨g, (i + 1) * 1, none⟩ 1 1 _ _ (fun e => hgb e.symm) 9 9 (encStr x).toArray.size ((l.take i).flatMap encStr ++ ((l.drop i).flatMap encStr ++ rest)).toArray.size
          (by simp only [World.shape?, b1]) (by simp only [World.shape?, b2]) (by simp [e1, e2]; omega) (by simp [World.frozen?, b1]) (by simp [World.frozen?, b1])
      repeat' (first | (show CW _ _ _ _ _ _; first | refine CW.seq ?_ | refine CW.region ?_ | refine CW.condd_f rfl (by omega) ?_ | refine CW.condt rfl ?_ | refine CW.skip ?_) | (show Post _ _ _ _ _; refine Post.seq ?_) | refine SW.nil ?_ | refine SW.pure rfl rfl ?_ | (show SW _ _ _ _ (⟨_, Op.binOp _ _ _ _ _, _, _, _, none⟩ :: _) _ _; refine SW.st (st_add rfl rfl (by omega) (by omega)) rfl ?_) | (show SW _ _ _ _ (⟨_, Op.call ⟨.builtin .len, _, _⟩, _, _, _, none⟩ :: _) _ _; refine SW.st (st_len rfl) rfl ?_) | (show SW _ _ _ _ (⟨_, Op.call ⟨.builtin .cap, _, _⟩, _, _, _, none⟩ :: _) _ _; refine SW.st (st_cap rfl) rfl ?_) | (refine SW.st (st_sliceLo (k := i) rfl rfl (by omega) (by omega)) rfl ?_) | (refine SW.st (st_sliceHi (k := n + 1) rfl rfl (by omega)) rfl ?_) | (refine SW.st (st_sliceLo (k := i + 1) rfl rfl (by omega) (by omega)) rfl ?_) | (refine SW.entry Try.func169 (by kernel_rfl) (by kernel_rfl) (by kernel_rfl) (e := Extern.SlicesOverlaps.overlaps #[91, 91] #[4]) (by kernel_rfl) rfl rfl (hov _ hw) ?_))
      all_goals first | (exfalso; omega) | skip
      have hsz : ((n - i) + 1) * 1 ≤ ((l.drop i).flatMap encStr ++ rest).length := by rw [List.length_append, e2]; omega
      have e4 : (l.drop i).flatMap encStr ++ rest = ((l.drop i).flatMap encStr ++ rest).take 1 ++ (((l.drop i).flatMap encStr ++ rest).drop 1).take ((n - i) * 1) ++ ((l.drop i).flatMap encStr ++ rest).drop (1 + (n - i) * 1) := by
        rw [List.append_assoc, ← List.drop_drop, List.take_append_drop, List.take_append_drop]
      generalize hDD : ((l.drop i).flatMap encStr ++ rest).take 1 = D1 at e4
      generalize hDE : (((l.drop i).flatMap encStr ++ rest).drop 1).take ((n - i) * 1) = D2 at e4
      generalize hDF : ((l.drop i).flatMap encStr ++ rest).drop (1 + (n - i) * 1) = D3 at e4
      have f1 : D1.length = 1 := by rw [← hDD]; simp only [List.length_take]; omega
      have f2 : D2.length = (n - i) * 1 := by rw [← hDE]; simp only [List.length_take, List.length_drop]; omega
      have f3 : D3.length + 1 = rest.length := by rw [← hDF]; simp only [List.length_drop, List.length_append, e2]; omega
      rw [e4] at h2
      refine CW.any 8 mixed (rb_tail (by kernel_rfl)) rfl fun w1 hw1 hRB => ?_
      replace hw := Ext.trans hw hw1; replace hO := hO.ext hw1; replace hB := hB.ext hw1; replace h2 := h2.ext hw1; clear hw1
      refine SA.take 0 hRB rfl (by kernel_rfl) (by kernel_rfl) rfl ?_
      repeat (refine SW.pure rfl rfl ?_)
      refine SW.tknil ?_
      refine SA.take 1 hRB rfl (by kernel_rfl) (by kernel_rfl) rfl ?_
      repeat (refine SW.pure rfl rfl ?_)
      refine SW.tknil ?_
      refine SA.take 2 hRB rfl (by kernel_rfl) (by kernel_rfl) rfl ?_
      repeat (refine SW.pure rfl rfl ?_)
      refine SW.tknil ?_
      refine SA.take 3 hRB rfl (by kernel_rfl) (by kernel_rfl) rfl ?_
      repeat ((show SW _ _ _ _ (⟨_, Op.binOp _ _ _ _ _, _, _, _, none⟩ :: _) _ _; refine SW.st (st_add rfl rfl (by omega) (by omega)) rfl ?_))
      refine SW.tknil ?_
      refine SA.take 4 hRB rfl (by kernel_rfl) (by kernel_rfl) rfl ?_
      repeat ((refine SW.st (st_sliceLo (k := i + 1) rfl rfl (by omega) (by omega)) rfl ?_))
      refine SW.tknil ?_
      refine SA.take 5 hRB rfl (by kernel_rfl) (by kernel_rfl) rfl ?_
      repeat (refine SW.pure rfl rfl ?_)
      refine SW.tknil ?_
      refine SA.take 6 hRB rfl (by kernel_rfl) (by kernel_rfl) rfl ?_
      repeat (refine SW.pure rfl rfl ?_)
      refine SW.tknil ?_
      refine SA.take 7 hRB rfl (by kernel_rfl) (by kernel_rfl) rfl ?_
      repeat ((refine SW.st (st_sliceLo (k := i) rfl rfl (by omega) (by omega)) rfl ?_))
      refine SW.tknil ?_
      refine SA.done (by kernel_rfl) ?_
      refine SW.copy (k := n - i) ((i + 1) * 1) ((l.drop i).flatMap encStr) h2 rfl rfl rfl (by omega) e2 (by simp only [List.length_append, e1, e2, f1, f2]; omega) (fun h0 => ⟨by rw [if_neg (by omega)]; simp [addr_of], (⟨g, 0, none⟩ : Addr).add (i * 1), by rw [if_neg (by omega)]; rfl, fun j v hv => cells_flatMap (by omega) (hsrc.ext hw) j v hv⟩) (hone _) fun w3 h2' hg3 => ?_
      have g1 := lay_mid ((l.take i).flatMap encStr ++ D1) D2 D3 ((l.drop i).flatMap encStr) (by rw [e2, f2]) (o := (i + 1) * 1) (by rw [List.length_append, e1, f1]; omega)
      have g0 : (l.take i).flatMap encStr ++ (D1 ++ D2 ++ D3) = (l.take i).flatMap encStr ++ D1 ++ D2 ++ D3 := by simp only [List.append_assoc]
      rw [g0, g1] at h2'
      have hG1 := grown_trans (hw.gr (ownB (some ⟨g, 0, none⟩) c)) hg3 (.inl h6.symm)
      have hB3 := hB.grown hg3 (by simpa using fun e => hgb e.symm)
      repeat' (first | (show CW _ _ _ _ _ _; first | refine CW.seq ?_ | refine CW.region ?_) | (show Post _ _ _ _ _; first | refine Post.seq ?_ | refine Post.np ?_) | refine SW.nil ?_ | refine SW.pure rfl rfl ?_ | (refine SW.st (st_sliceLo (k := i) rfl rfl (by omega) (by omega)) rfl ?_))
      refine SW.copy (k := 1) (i * 1) (encStr x) h2' rfl rfl rfl (by omega) hxl (by simp only [List.length_append, e1, e2, f1, hxl]; omega) (fun h0 => ⟨by rw [if_neg (by omega)]; simp [addr_of], ⟨b, 0, none⟩, rfl, fun j v hv => hB3.cell hv⟩) (Enc.one (enc := encStr) x) fun w4 h2'' hg4 => ?_
      have g2 := lay_mid ((l.take i).flatMap encStr) D1 ((l.drop i).flatMap encStr ++ D3) (encStr x) (by rw [hxl, f1]) (o := i * 1) e1.symm
      have g3 : (l.take i).flatMap encStr ++ D1 ++ (l.drop i).flatMap encStr ++ D3 = (l.take i).flatMap encStr ++ D1 ++ ((l.drop i).flatMap encStr ++ D3) := by simp only [List.append_assoc]
      have g4 : (l.take i).flatMap encStr ++ encStr x ++ ((l.drop i).flatMap encStr ++ D3) = (insAt l i x).flatMap encStr ++ D3 := by unfold insAt; simp only [List.flatMap_append, List.flatMap_cons, List.flatMap_nil, List.append_nil, List.append_assoc]
      rw [g3, g2, g4] at h2''
      have hO' := Own.closed (n := n + 1) (c := c) (l := insAt l i x) (by unfold insAt; simp; omega) h2'' (by omega) hroom (by omega) h5 h1
      have hG2 := grown_trans hG1 hg4 (.inl h6.symm)
      repeat' (first | (show CW _ _ _ _ _ _; first | refine CW.seq ?_ | refine CW.region ?_ | refine CW.ret ?_) | (show Post _ _ _ _ _; first | refine Post.seq ?_ | refine Post.seq_ret ?_) | refine SW.nil ?_ | refine SW.pure rfl rfl ?_)
      exact Post.ret1 rfl rfl ⟨_, rfl, _, _, rfl, hO', hG2, fun k e => .inl e⟩
    · have hcn : c = n := by omega
      have hsrc := hO.sl.drop i c (by omega) (by omega)
      have hpre := hO.sl.pre (i := i) (by omega)
      repeat' (first | (show CW _ _ _ _ _ _; first | refine CW.seq ?_ | refine CW.region ?_ | refine CW.condd_t rfl (by omega) ?_ | refine CW.condd_f rfl (by omega) ?_ | refine CW.skip ?_) | (show Post _ _ _ _ _; refine Post.seq ?_) | refine SW.nil ?_ | refine SW.pure rfl rfl ?_ | (show SW _ _ _ _ (⟨_, Op.binOp _ _ _ _ _, _, _, _, none⟩ :: _) _ _; first | refine SW.st (st_add rfl rfl (by omega) (by omega)) rfl ?_ | refine SW.st (st_sub rfl rfl (by omega) (by omega)) rfl ?_) | (show SW _ _ _ _ (⟨_, Op.call ⟨.builtin .len, _, _⟩, _, _, _, none⟩ :: _) _ _; refine SW.st (st_len rfl) rfl ?_) | (show SW _ _ _ _ (⟨_, Op.call ⟨.builtin .cap, _, _⟩, _, _, _, none⟩ :: _) _ _; refine SW.st (st_cap rfl) rfl ?_) | (refine SW.st (st_sliceLo (k := i) rfl rfl (by omega) (by omega)) rfl ?_) | (refine SW.st (st_sliceHi (k := i) rfl rfl (by omega)) rfl ?_))
      all_goals first | (exfalso; omega) | skip
      refine SW.appendZ (k := n + 1 - i) hpre Try.underlying3 rfl rfl (by omega) rfl (by omega) (by omega) (by omega) (by omega) fun g rest c2 w2 hw2 hg2 h2 h3 h4 h5 => ?_
      have e1 : ((l.take i).flatMap encStr).length = i * 1 := by rw [hfl]; simp; omega
      have e2 : ((l.drop i).flatMap encStr).length = (n - i) * 1 := by rw [hfl]; simp [hll]
      have hsz : ((n - i) + 1) * 1 ≤ rest.length := by omega
      have e4 : rest = rest.take 1 ++ (rest.drop 1).take ((n - i) * 1) ++ rest.drop (1 + (n - i) * 1) := by
        rw [List.append_assoc, ← List.drop_drop, List.take_append_drop, List.take_append_drop]
      generalize hDD : rest.take 1 = D1 at e4
      generalize hDE : (rest.drop 1).take ((n - i) * 1) = D2 at e4
      generalize hDF : rest.drop (1 + (n - i) * 1) = D3 at e4
      have f1 : D1.length = 1 := by rw [← hDD]; simp only [List.length_take]; omega
      have f2 : D2.length = (n - i) * 1 := by rw [← hDE]; simp only [List.length_take, List.length_drop]; omega
      have f3 : D3.length + ((n - i) + 1) * 1 = rest.length := by rw [← hDF]; simp only [List.length_drop]; omega
      rw [e4] at h2
      have hrow : ownB A c ≠ some g := fun e => by have := hO.lt_size _ e; omega
      have hgb : b ≠ g := by have := hB.lt; omega
      replace hsrc := hsrc.ext hw2
      replace hB := hB.ext hw2
      replace hw := Ext.trans hw hw2
      repeat' (first | (show CW _ _ _ _ _ _; first | refine CW.seq ?_ | refine CW.region ?_) | (show Post _ _ _ _ _; refine Post.seq ?_) | refine SW.nil ?_ | refine SW.pure rfl rfl ?_ | (refine SW.st (st_sliceLo (k := i) rfl rfl (by omega) (by omega)) rfl ?_))
      refine SW.copy (k := 1) (i * 1) (encStr x) h2 rfl rfl rfl (by omega) hxl (by simp only [List.length_append, e1, f1, f2, hxl]; omega) (fun h0 => ⟨by rw [if_neg (by omega)]; simp [addr_of], ⟨b, 0, none⟩, rfl, fun j v hv => hB.cell hv⟩) (Enc.one (enc := encStr) x) fun w3 h2' hg3 => ?_
      have g2 := lay_mid ((l.take i).flatMap encStr) D1 (D2 ++ D3) (encStr x) (by rw [hxl, f1]) (o := i * 1) e1.symm
      have g3 : (l.take i).flatMap encStr ++ (D1 ++ D2 ++ D3) = (l.take i).flatMap encStr ++ D1 ++ (D2 ++ D3) := by simp only [List.append_assoc]
      rw [g3, g2] at h2'
      have hX3 : Ext w w3 := hw.own hg2 hg3
      have hsrc3 : Sl w3 1 encStr (if c = i then A else A.map (·.add (i * 1))) (n - i) (l.drop i) := (hO.sl.drop i c (by omega) (by omega)).ext hX3
      replace hw := hX3
      repeat' (first | (show CW _ _ _ _ _ _; refine CW.seq ?_) | (show Post _ _ _ _ _; refine Post.seq ?_) | refine SW.nil ?_)
      refine CW.any 8 mixed (rb_tail (by kernel_rfl)) rfl fun w1 hw1 hRB => ?_
      replace hw := Ext.trans hw hw1; replace h2' := h2'.ext hw1; replace hsrc3 := hsrc3.ext hw1; clear hw1
      refine SA.take 0 hRB rfl (by kernel_rfl) (by kernel_rfl) rfl ?_
      repeat (refine SW.pure rfl rfl ?_)
      refine SW.tknil ?_
      refine SA.take 1 hRB rfl (by kernel_rfl) (by kernel_rfl) rfl ?_
      repeat (refine SW.pure rfl rfl ?_)
      refine SW.tknil ?_
      refine SA.take 2 hRB rfl (by kernel_rfl) (by kernel_rfl) rfl ?_
      repeat (refine SW.pure rfl rfl ?_)
      refine SW.tknil ?_
      refine SA.take 3 hRB rfl (by kernel_rfl) (by kernel_rfl) rfl ?_
      repeat ((show SW _ _ _ _ (⟨_, Op.binOp _ _ _ _ _, _, _, _, none⟩ :: _) _ _; refine SW.st (st_add rfl rfl (by omega) (by omega)) rfl ?_))
      refine SW.tknil ?_
      refine SA.take 4 hRB rfl (by kernel_rfl) (by kernel_rfl) rfl ?_
      repeat ((refine SW.st (st_sliceLo (k := i + 1) rfl rfl (by omega) (by omega)) rfl ?_))
      refine SW.tknil ?_
      refine SA.take 5 hRB rfl (by kernel_rfl) (by kernel_rfl) rfl ?_
      repeat (refine SW.pure rfl rfl ?_)
      refine SW.tknil ?_
      refine SA.take 6 hRB rfl (by kernel_rfl) (by kernel_rfl) rfl ?_
      repeat (refine SW.pure rfl rfl ?_)
      refine SW.tknil ?_
      refine SA.take 7 hRB rfl (by kernel_rfl) (by kernel_rfl) rfl ?_
      repeat ((refine SW.st (st_sliceLo (k := i) rfl rfl (by omega) (by omega)) rfl ?_))
      refine SW.tknil ?_
      refine SA.done (by kernel_rfl) ?_
      refine SW.copy (k := n - i) ((i + 1) * 1) ((l.drop i).flatMap encStr) h2' rfl rfl rfl (by omega) e2 (by simp only [List.length_append, e1, e2, f2, hxl]; omega) (fun h0 => ⟨by rw [if_neg (by omega)]; simp [addr_of], (if c = i then A else A.map (·.add (i * 1))).getD default, ?_, fun j v hv => cells_flatMap (by omega) hsrc3 j v hv⟩) (hone _) fun w4 h2'' hg4 => ?_
      · obtain ⟨a, ha⟩ := Option.isSome_iff_exists.1 (hsrc3.base h0)
        rw [ha]; rfl
      · have g4 := lay_mid ((l.take i).flatMap encStr ++ encStr x) D2 D3 ((l.drop i).flatMap encStr) (by rw [e2, f2]) (o := (i + 1) * 1) (by rw [List.length_append, e1, hxl]; omega)
        have g5 : (l.take i).flatMap encStr ++ encStr x ++ (D2 ++ D3) = (l.take i).flatMap encStr ++ encStr x ++ D2 ++ D3 := by simp only [List.append_assoc]
        have g6 : (l.take i).flatMap encStr ++ encStr x ++ (l.drop i).flatMap encStr ++ D3 = (insAt l i x).flatMap encStr ++ D3 := by unfold insAt; simp only [List.flatMap_append, List.flatMap_cons, List.flatMap_nil, List.append_nil, List.append_assoc]
        rw [g5, g4, g6] at h2''
        have hO' := Own.closed (n := n + 1) (c := c2) (lo := lo) (l := insAt l i x) (by unfold insAt; simp; omega) h2'' (by omega) (by omega) (by omega) h5 (by omega)
        have hw4 : Ext w w4 := hw.own hg2 hg4
        have e9 : i + (n + 1 - i) = n + 1 := by omega
        repeat' (first | (show CW _ _ _ _ _ _; first | refine CW.seq ?_ | refine CW.region ?_ | refine CW.ret ?_) | (show Post _ _ _ _ _; first | refine Post.seq ?_ | refine Post.seq_ret ?_ | refine Post.np ?_) | refine SW.nil ?_ | refine SW.pure rfl rfl ?_)
        rw [e9]
        exact Post.ret1 rfl rfl ⟨_, rfl, _, _, rfl, hO', hw4.gr _, fun k e => .inr (by
          have : k = g := by
            unfold ownB at e
            split at e
            · cases e
            · simpa using e.symm
          omega)⟩

end Go.Proofs.Ytfdmgflboibdoaa
