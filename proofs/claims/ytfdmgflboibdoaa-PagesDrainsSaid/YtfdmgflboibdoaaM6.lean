/-
  Contracts: the reference's list of all blocks: how long it gets; calls of a function value that change the caller's memory.
-/
import Derived.Test.YtfdmgflboibdoaaM5
set_option linter.unusedVariables false
set_option linter.unusedSimpArgs false
namespace Go.Proofs.Ytfdmgflboibdoaa
open Go.RowKit

theorem countP_lt {α : Type} {p q : α → Bool} : ∀ {l : List α}, (∀ x ∈ l, p x = true → q x = true) → (∃ x ∈ l, p x = false ∧ q x = true) → l.countP p < l.countP q
  | [], _, h => by obtain ⟨x, hx, _⟩ := h; simp at hx
  | a :: l, h1, h2 => by
    rw [List.countP_cons, List.countP_cons]
    have hle : l.countP p ≤ l.countP q := List.countP_mono_left (fun x hx => h1 x (by simp [hx]))
    obtain ⟨x, hx, hp, hq⟩ := h2
    rcases List.mem_cons.1 hx with rfl | hx
    · simp [hp, hq]; omega
    · have ih := countP_lt (l := l) (fun y hy => h1 y (by simp [hy])) ⟨x, hx, hp, hq⟩
      have := h1 a (by simp)
      cases hpa : p a <;> cases hqa : q a <;> simp [hpa, hqa] at this ⊢ <;> omega
theorem addAll_len : ∀ {l : List Block} {cs bs : List Block}, (∀ b ∈ l, 1 ≤ pw b.Order) → addAll (some cs) l = some bs → cs.length ≤ (List.range 256).countP (covP cs) → (∀ x ∈ cs, 0 ≤ x.At ∧ 1 ≤ pw x.Order) → bs.length ≤ (List.range 256).countP (covP bs)
  | [], cs, bs, _, h, hc, _ => by injection h with h; subst h; exact hc
  | b :: l, cs, bs, hp, h, hc, hg => by
    have h' : addAll (addB (some cs) b) l = some bs := h
    cases e : addB (some cs) b with
    | none => rw [e, addAll_none] at h'; cases h'
    | some ds =>
      rw [e] at h'
      obtain ⟨cs', e1, hf, rfl⟩ := addB_some e
      injection e1 with e1
      subst e1
      have h1 := hp b (by simp)
      have hok := (okM_iff hg h1).2 hf
      refine addAll_len (fun x hx => hp x (by simp [hx])) h' ?_ (fun x hx => ?_)
      · have := countP_lt (p := covP cs) (q := covP (cs ++ [b])) (l := List.range 256) (fun x _ hx => by simp only [covP, List.any_append, Bool.or_eq_true] at hx ⊢; exact .inl hx)
          ⟨b.At.toNat, by simp; have := hf.1; have := hf.2.1; omega, hok.2.2.2 _ (by have := hf.1; omega) (by have := hf.1; omega), by
            simp only [covP, List.any_append, Bool.or_eq_true]
            right
            have := hf.1
            simp [inB]
            omega⟩
        simp
        omega
      · rcases List.mem_append.1 hx with hx | hx
        · exact hg x hx
        · simp at hx; subst hx; exact ⟨hf.1, h1⟩
theorem addAll_256 {l bs : List Block} (hp : ∀ b ∈ l, 1 ≤ pw b.Order) (h : addAll (some []) l = some bs) : bs.length ≤ 256 := by
  have := addAll_len hp h (by simp) (fun x hx => by simp at hx)
  have h2 : (List.range 256).countP (covP bs) ≤ (List.range 256).length := List.countP_le_length
  simp at h2
  omega

section
variable {P : Program} {n : Nat} {ops : Array Oper} {Q : Exit → Act → World → Prop} {rest : List Oper} {L : Env} {w : World}
theorem SW.callvX {d : Nat} {fo : Operand} {f : FuncId} {cap : List Value} {xs : List Operand} {vs : List Value} {ts : Array TypeId} {T : TypeId} {pos : String} {af : Array Edge} {R : Value → World → Prop}
    [Body P f] (hf : opv L fo = some (.func (.func f) #[] cap.toArray)) (hx : opvs L xs = some vs) (hn : Nat.blt d n = true) (hc : AnsX P f (vs ++ cap) w R) (h : ∀ v w', R v w' → SW P n ops (.eff Q) rest ((d, v) :: L) w') :
    SW P n ops (.eff Q) (⟨some d, .call ⟨.value fo, xs.toArray, ts⟩, T, pos, af, none⟩ :: rest) L w :=
  ⟨fun a ha => by
    simp only [swp, wpList, Region.wanted, if_true]
    refine .inl ?_
    unfold Oper.wp
    rw [run_callv (ha.eval hf), Oper.upon_enter, ha.evals hx]
    refine Calls.mono hc.out ?_
    rintro e w' ⟨v, rfl, hv⟩
    exact (h v w' hv).out _ (ha.put hn v)⟩
end

/-- changes in blocks of two types alone -/
structure Kp (w w' : World) : Prop where
  k : ∀ (g : Nat) (t : TypeId) (cs : List Value), Blk w g t cs → Nat.beq 86 t = false → Nat.beq 25 t = false → Blk w' g t cs
theorem Kp.refl (w : World) : Kp w w := ⟨fun _ _ _ h _ _ => h⟩
theorem Kp.ext {w w1 w2 : World} (h : Kp w w1) (hx : Ext w1 w2) : Kp w w2 := ⟨fun g t cs hb h1 h2 => (h.k g t cs hb h1 h2).ext hx⟩
theorem Kp.trans {w w1 w2 : World} (h : Kp w w1) (k : Kp w1 w2) : Kp w w2 := ⟨fun g t cs hb h1 h2 => k.k g t cs (h.k g t cs hb h1 h2) h1 h2⟩
theorem Kp.grB {w w1 w2 : World} (h : Kp w w1) (hG : GrT w1 w2 86) : Kp w w2 := ⟨fun g t cs hb h1 h2 => (h.k g t cs hb h1 h2).grT hG h1⟩
theorem Kp.grS {w w1 w2 : World} (h : Kp w w1) (hG : GrT w1 w2 25) : Kp w w2 := ⟨fun g t cs hb h1 h2 => (h.k g t cs hb h1 h2).grT hG h2⟩

/-- the list of all blocks so far: a variable of the reference -/
structure AllS (w : World) (lo b : Nat) (l : List Block) : Prop where
  ex : ∃ A c, Blk w b 25 [.slice A l.length c] ∧ Own w lo 86 3 encBk A l.length c l
theorem AllS.ext {w w' : World} {lo b : Nat} {l : List Block} (h : AllS w lo b l) (hx : Ext w w') : AllS w' lo b l := by
  obtain ⟨A, c, h1, h2⟩ := h.ex
  exact ⟨A, c, h1.ext hx, h2.ext hx⟩

theorem add_0 (b : Nat) : (⟨b, 0, none⟩ : Addr).add 0 = ⟨b, 0, none⟩ := by unfold Addr.add; simp
theorem Blk.cell0 {w : World} {b : Nat} {t : TypeId} {cs : List Value} (h : Blk w b t cs) {v : Value} (hv : cs[0]? = some v) : w.cell? ⟨b, 0, none⟩ = some v := by
  rw [← add_0]; exact h.cell hv

def AddRes (w wE : World) (b : Nat) (l : List Block) (x : Block) (v : Value) (w' : World) : Prop := Ext w w' ∧ Kp wE w' ∧ ((v = .bool true ∧ fitsL l x ∧ AllS w' w.heap.size b (l ++ [x])) ∨ (v = .bool false ∧ ¬ fitsL l x ∧ AllS w' w.heap.size b l))

set_option maxHeartbeats 4000000 in
theorem addC_ans (b : Nat) (l : List Block) (x : Block) (w wE : World) (hw : Ext w wE) (hbw : w.heap.size ≤ b) (hS : AllS wE w.heap.size b l) (hall : ∀ y ∈ l, blkOk 0 256 y) (hlen : l.length ≤ 256) (hx : blkOk 0 256 x) :
    AnsX Try.prog 98 [.agg (encBk x).toArray, .pointer (some ⟨b, 0, none⟩)] wE (AddRes w wE b l x) := by
  refine ansx_of Try.func98 rfl Try.ntmps98 rfl ?_
  have hK := Kp.refl wE
  obtain ⟨A, c, hB, hO⟩ := hS.ex
  clear hS
  obtain ⟨⟨o1, o2, a1, a2, a3⟩, ty⟩ := id hx
  have hp := pw_le o1 o2
  refine CW.seq (CW.region (SW.box rfl rfl fun b2 w2 hw2 hb2b hb2 => ?_))
  (replace hw := Ext.trans hw hw2; replace hB := hB.ext hw2; replace hO := hO.ext hw2; replace hK := hK.ext hw2)
  have hB0 := hB.cell0 rfl
  have cO : ∀ w', Ext w w' → Sl w' 3 encBk A l.length l → Ans Try.prog 99 [.slice A l.length c, .int .i64 x.At, .int .i64 x.Order] w' fun v _ => v = .bool (overB l x.At x.Order) := fun w' _ h =>
    overlaps_ans _ _ _ _ 0 256 _ _ _ h hall (by omega) (by omega) (by omega) ⟨by omega, by omega⟩ ⟨o1, o2⟩
  obtain ⟨q, hq⟩ : ∃ q, overB l x.At x.Order = q := ⟨_, rfl⟩
  rw [hq] at cO
  have hcs : (q = true) ∨ (q = false ∧ 256 < x.At + pw x.Order) ∨ (q = false ∧ x.At + pw x.Order ≤ 256) := by cases q <;> simp <;> omega
  rcases hcs with rfl | ⟨rfl, d⟩ | ⟨rfl, d⟩
  repeat' (first | (show CW _ _ _ _ _ _; first | refine CW.seq ?_ | refine CW.region ?_ | refine CW.condtr rfl (by with_reducible rfl) ?_ | refine CW.condd_t rfl (by omega) ?_ | refine CW.condd_f rfl (by omega) ?_ | refine CW.skip ?_ | refine CW.ret ?_ | (apply CW.quiet1 mixed; (· kernel_rfl); rotate_left; intro w1 hw1; replace hw := Ext.trans hw hw1; replace hB := hB.ext hw1; replace hO := hO.ext hw1; replace hb2 := hb2.ext hw1; replace hK := hK.ext hw1; clear hw1; rotate_right)) | (show Post _ _ _ _ _; first | refine Post.seq ?_ | refine Post.seq_ret ?_) | refine SW.nil ?_ | (show SW _ _ _ _ (⟨_, _, _, _, _, some _⟩ :: _) _ _; first | refine SW.want_f rfl rfl (by with_reducible rfl) ?_ | refine SW.skip_f rfl rfl (by with_reducible rfl) rfl ?_ | refine SW.splitd_f rfl rfl rfl (by omega) ?_) | refine SW.pure rfl rfl ?_ | (show SW _ _ _ _ (⟨_, Op.fieldAddr _ _ _, _, _, _, none⟩ :: _) _ _; refine SW.st (st_field rfl) rfl ?_) | (show SW _ _ _ _ (⟨_, Op.binOp _ _ _ _ _, _, _, _, none⟩ :: _) _ _; refine SW.st (st_add rfl rfl (by omega) (by omega)) rfl ?_) | (show SW _ _ _ _ (⟨_, Op.load _ _, _, _, _, none⟩ :: _) _ _; first | refine SW.st (st_load rfl hB0) rfl ?_ | refine SW.st (st_load rfl (hb2.cell rfl)) rfl ?_) | (show SW _ _ _ _ (⟨_, Op.call ⟨.value (.func _), _, _⟩, _, _, _, none⟩ :: _) _ _; first | refine SW.qcall rfl rfl (fun w1 hw1 => (cO _ (Ext.trans hw hw1) (hO.sl.ext hw1))) ?_ | refine SW.qcall rfl rfl (fun w1 hw1 => (power_ans _ (by omega) _)) ?_) | exact SW.qnil rfl)
  iterate 2 exact Post.ret1 rfl rfl ⟨_, rfl, hw, hK, .inr ⟨rfl, fun hf => by have h1 := hf.2.1; have h2 := hf.2.2; simp [hq] at h2 <;> omega, ⟨A, c, hB, hO⟩⟩⟩
  have hB1 := hB.cell0 rfl
  repeat' ((show SW _ _ _ _ (⟨_, Op.load _ _, _, _, _, none⟩ :: _) _ _; first | refine SW.st (st_load rfl hB1) rfl ?_ | refine SW.st (st_loads rfl rfl ((fun _ _ => hb2.cell))) rfl ?_))
  refine SW.build1 rfl rfl rfl rfl rfl fun b4 w4 hXX hb4 hB4 => ?_
  (replace hw := Ext.trans hw hXX; replace hB := hB.ext hXX; replace hO := hO.ext hXX; replace hK := hK.ext hXX)
  refine SW.append hO (Blk.sl1 (enc := encBk) hB4) hw.size rfl rfl rfl (by omega) (by omega) fun A2 c2 w5 hO2 hg => ?_
  have hG := hO.gr hg
  replace hw := ext_grown hw hg (Nat.le_refl _) hO.row_ge
  replace hK := hK.grB hG
  (replace hB := hB.grT hG rfl)
  refine SW.storeB (i := 0) hB (by rw [add_0]; rfl) rfl rfl rfl fun w6 hB' hg => ?_
  have hG := hB.gr hg
  replace hw := hw.own hbw hg
  replace hK := hK.grS hG
  (replace hO2 := hO2.grT hG rfl)
  repeat' (first | (show CW _ _ _ _ _ _; first | refine CW.seq ?_ | refine CW.region ?_ | refine CW.ret ?_) | (show Post _ _ _ _ _; refine Post.seq ?_) | refine SW.nil ?_ | refine SW.pure rfl rfl ?_)
  exact Post.ret1 rfl rfl ⟨_, rfl, hw, hK, .inl ⟨rfl, ⟨a1, d, hq⟩, ⟨A2, c2, by simpa using hB', by simpa using hO2⟩⟩⟩
end Go.Proofs.Ytfdmgflboibdoaa
