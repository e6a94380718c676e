/-
  Contract: the law PagesFrees.
-/
import Derived.Test.YtfdmgflboibdoaaPackPagesFrees22
set_option linter.unusedVariables false
set_option linter.unusedSimpArgs false
namespace Go.Proofs.Ytfdmgflboibdoaa
open Go.RowKit

def LenZ (z : Zone) : Prop := z.Free.length ≤ 257 ∧ z.Types.length ≤ 32
theorem backP_len {s : Zone × Zone} (h : LenZ s.1 ∧ LenZ s.2) (b : Block) : LenZ (backP s b).1 ∧ LenZ (backP s b).2 := by
  unfold backP
  split
  · exact ⟨⟨(backV_len _ _ _).1, (backV_len _ _ _).2.1⟩, h.2⟩
  · exact ⟨h.1, (backV_len _ _ _).1, (backV_len _ _ _).2.1⟩
theorem backAll_len : ∀ (l : List Block) {s : Zone × Zone}, LenZ s.1 ∧ LenZ s.2 → LenZ (backAll s l).1 ∧ LenZ (backAll s l).2
  | [], _, h => h
  | b :: l, s, h => backAll_len l (s := backP s b) (backP_len h b)
theorem LenZ.small {z : Zone} (h : LenZ z) : z.Free.length * 24 ≤ 140737488355328 ∧ z.Types.length * 8 ≤ 140737488355328 := ⟨Nat.le_trans (Nat.mul_le_mul_right 24 h.1) (by decide), by have := h.2; omega⟩
theorem mem_insA {α : Type} {l : List α} {i : Nat} {b x : α} (h : x ∈ insAt l i b) : x = b ∨ x ∈ l := by
  unfold insAt at h
  rw [List.mem_append, List.mem_append] at h
  rcases h with (h | h) | h
  · exact .inr (List.mem_of_mem_take h)
  · exact .inl (by simpa using h)
  · exact .inr (List.mem_of_mem_drop h)
theorem setL_mem {L : List PList} {x y : PList} (h : y ∈ setL L x) : y = x ∨ y ∈ L := by
  unfold setL at h
  split at h
  · rcases List.mem_or_eq_of_mem_set h with h | h
    · exact .inr h
    · exact .inl h
  · exact mem_insA h
theorem setL_len (L : List PList) (x : PList) : (setL L x).length ≤ L.length + 1 := by
  unfold setL
  split
  · simp
  · rw [length_insAt _ (kpos_le L x)]; omega
theorem pagesAt_len {h : Heap} {z0 z1 : Zone} (f : FHeap h z0 z1) (x : PList) : (pagesAt h.Lists x).length ≤ 8 := by
  cases e : khere h.Lists x with
  | false => rw [pagesAt_f e]; simp
  | true =>
    obtain ⟨h1, _⟩ := khere_t e
    rw [pagesAt_t e h1]
    exact (f.lists _ (List.getElem_mem h1)).2
theorem small_lists {h : Heap} {z0 z1 : Zone} (f : FHeap h z0 z1) (x : PList) (hx : x.Pages.length ≤ 9) : (setL h.Lists x).length * 48 ≤ 140737488355328 ∧ ∀ l ∈ setL h.Lists x, l.Pages.length * 8 ≤ 140737488355328 := by
  have := f.count
  have := setL_len h.Lists x
  refine ⟨by omega, fun l hl => ?_⟩
  rcases setL_mem hl with rfl | hl
  · omega
  · have := (f.lists l hl).2; omega
theorem small_freeV (h : Heap) (cpu a : Int) (hs : h.small) : (freeV h cpu a).2.small := by
  have hz : ((8 : Int), (⟨[], [], 0, [], []⟩ : Heap)).2.small := by constructor <;> simp
  cases hq : heapB h
  · rw [freeV_8 hq]; exact hz
  · by_cases hc : 0 ≤ cpu ∧ cpu < h.Cpus
    · cases hf : foundA h.Live a
      · rw [freeV_4 hq hc hf]; exact hz
      · rw [freeV_0 hq hc hf]
        obtain ⟨z0, z1, f⟩ := fheap_of (heapB_iff.1 hq)
        obtain ⟨hk, _⟩ := found_at hf
        have hl0 := zone_len f.d.may0
        have hl1 := zone_len f.d.may1
        have hzz : LenZ z0 ∧ LenZ z1 := ⟨⟨by omega, hl0.2⟩, ⟨by omega, hl1.2⟩⟩
        have hlive : (h.Live.eraseIdx (lbOf h.Live a)).length * 24 ≤ 140737488355328 := by
          have := hs.live
          have := List.length_eraseIdx_le h.Live (lbOf h.Live a)
          omega
        by_cases ho : 0 < h.Live[lbOf h.Live a].Order
        · rw [freedV_big f.d.zones hk rfl ho]
          have hb := backP_len (s := (z0, z1)) hzz h.Live[lbOf h.Live a]
          refine ⟨by simp [freedBig], hs.mins, hs.lists, hlive, fun z hz => ?_, hs.pages⟩
          simp only [freedBig, List.mem_cons, List.not_mem_nil, or_false] at hz
          rcases hz with rfl | rfl
          · exact hb.1.small
          · exact hb.2.small
        · rw [freedV_one f.d.zones hk rfl ho]
          have hp := pagesAt_len f (keyOf z0 z1 cpu a)
          unfold freedOne
          split
          · have hb := backAll_len (((pagesAt h.Lists (keyOf z0 z1 cpu a) ++ [a]).take 4).map pageB) (s := (z0, z1)) hzz
            obtain ⟨g1, g2⟩ := small_lists f (withP (keyOf z0 z1 cpu a) ((pagesAt h.Lists (keyOf z0 z1 cpu a) ++ [a]).drop 4)) (by simp only [withP, List.length_drop, List.length_append, List.length_singleton]; omega)
            refine ⟨by simp, hs.mins, g1, hlive, fun z hz => ?_, g2⟩
            simp only [List.mem_cons, List.not_mem_nil, or_false] at hz
            rcases hz with rfl | rfl
            · exact hb.1.small
            · exact hb.2.small
          · obtain ⟨g1, g2⟩ := small_lists f (withP (keyOf z0 z1 cpu a) (pagesAt h.Lists (keyOf z0 z1 cpu a) ++ [a])) (by simp only [withP, List.length_append, List.length_singleton]; omega)
            refine ⟨by simp, hs.mins, g1, hlive, fun z hz => ?_, g2⟩
            simp only [List.mem_cons, List.not_mem_nil, or_false] at hz
            rcases hz with rfl | rfl
            · exact hzz.1.small
            · exact hzz.2.small
    · rw [freeV_1 hq hc]; exact hz

set_option maxHeartbeats 2000000 in
theorem pagesFrees_ans (r : HRow) (h : Heap) (cpu a : Int) (w : World) (hr : RdH w r h) (hs : h.small) (hzn : ∀ z ∈ h.Zones, big64 z) (ha : -9223372036854775808 ≤ a ∧ a ≤ 9223372036854775807) :
    Ans Try.prog 21 [.agg (encH r).toArray, .int .i64 cpu, .int .i64 a] w fun v _ => v = .bool true := by
  refine ans_of Try.func21 rfl Try.ntmps21 rfl ?_
  obtain ⟨o, ho⟩ : ∃ o, freeV h cpu a = o := ⟨_, rfl⟩
  have hsm := small_freeV h cpu a hs
  rw [ho] at hsm
  refine CW.seq (CW.region (SW.box rfl rfl fun b1 w1 hw hb1b hb1 => ?_))
  repeat' (first | (show CW _ _ _ _ _ _; first | refine CW.seq ?_ | refine CW.region ?_) | (show Post _ _ _ _ _; refine Post.seq ?_) | refine SW.nil ?_ | refine SW.pure rfl rfl ?_ | (show SW _ _ _ _ (⟨_, Op.load _ _, _, _, _, none⟩ :: _) _ _; refine SW.st (st_loads rfl rfl ((fun _ _ => hb1.cell))) rfl ?_))
  refine SW.call rfl rfl (HeapCopy_ans r h _ (hr.ext hw) hs) fun v w4 hw4 hv => ?_
  obtain ⟨k, rfl, hK⟩ := hv
  (replace hw := Ext.trans hw hw4; replace hb1 := hb1.ext hw4)
  refine SW.alloc rfl fun b3 w1 hw1 hb3b hb3 => ?_
  skip
  refine SW.storeAgg hb3 rfl rfl rfl rfl (one_h k) fun w2 hb3' hg => ?_
  have hXX := hw1.own hb3b hg
  have hb3w : w.heap.size ≤ b3 := Nat.le_trans hw.size hb3b
  replace hw := Ext.trans hw hXX
  replace hb1 := hb1.ext hXX
  replace hK := hK.ext hXX
  replace hb3 := hb3'
  clear hb3' hw1 hg hXX
  repeat' (first | (show CW _ _ _ _ _ _; first | refine CW.seq ?_ | refine CW.region ?_) | (show Post _ _ _ _ _; refine Post.seq ?_) | refine SW.nil ?_ | refine SW.pure rfl rfl ?_ | (show SW _ _ _ _ (⟨_, Op.load _ _, _, _, _, none⟩ :: _) _ _; refine SW.st (st_loads rfl rfl ((fun _ _ => hb3.cell))) rfl ?_))
  refine SW.call rfl rfl (Free_ans k h cpu a _ hK.rd hs hzn ha) fun v w5 hw5 hv => ?_
  rw [ho] at hv
  obtain ⟨s1, rfl, hs1⟩ := hv
  (replace hw := Ext.trans hw hw5; replace hb1 := hb1.ext hw5; replace hb3 := hb3.ext hw5; replace hK := hK.ext hw5)
  repeat' (refine SW.pure rfl rfl ?_)
  refine SW.alloc rfl fun b4 w1 hw1 hb4b hb4 => ?_
  skip
  refine SW.storeAgg hb4 rfl rfl rfl rfl (one_h s1) fun w2 hb4' hg => ?_
  have hXX := hw1.own hb4b hg
  have hb4w : w.heap.size ≤ b4 := Nat.le_trans hw.size hb4b
  replace hw := Ext.trans hw hXX
  replace hb1 := hb1.ext hXX
  replace hb3 := hb3.ext hXX
  replace hK := hK.ext hXX
  replace hs1 := hs1.ext hXX
  replace hb4 := hb4'
  clear hb4' hw1 hg hXX
  repeat' (first | (show CW _ _ _ _ _ _; first | refine CW.seq ?_ | refine CW.region ?_) | (show Post _ _ _ _ _; refine Post.seq ?_) | refine SW.nil ?_ | refine SW.pure rfl rfl ?_ | (show SW _ _ _ _ (⟨_, Op.load _ _, _, _, _, none⟩ :: _) _ _; refine SW.st (st_loads rfl rfl ((fun _ _ => hb1.cell))) rfl ?_))
  refine SW.call rfl rfl (HeapFree_ans r h cpu a _ (hr.ext hw) hs hzn ha) fun v w6 hw6 hv => ?_
  rw [ho] at hv
  obtain ⟨s2, rfl, hs2⟩ := hv
  (replace hw := Ext.trans hw hw6; replace hb1 := hb1.ext hw6; replace hb3 := hb3.ext hw6; replace hb4 := hb4.ext hw6; replace hK := hK.ext hw6; replace hs1 := hs1.ext hw6)
  repeat' (refine SW.pure rfl rfl ?_)
  refine SW.alloc rfl fun b6 w1 hw1 hb6b hb6 => ?_
  skip
  refine SW.storeAgg hb6 rfl rfl rfl rfl (one_h s2) fun w2 hb6' hg => ?_
  have hXX := hw1.own hb6b hg
  have hb6w : w.heap.size ≤ b6 := Nat.le_trans hw.size hb6b
  replace hw := Ext.trans hw hXX
  replace hb1 := hb1.ext hXX
  replace hb3 := hb3.ext hXX
  replace hb4 := hb4.ext hXX
  replace hK := hK.ext hXX
  replace hs1 := hs1.ext hXX
  replace hs2 := hs2.ext hXX
  replace hb6 := hb6'
  clear hb6' hw1 hg hXX
  have cA : ∀ w', Ext w w' → RdH w' s1 o.2 → RdH w' s2 o.2 → Ans Try.prog 24 [.agg (encH s1).toArray, .agg (encH s2).toArray] w' fun v _ => v = .bool true := fun w' _ h1 h2 => sameHeap_ans s1 s2 o.2 w' h1 h2 hsm
  have cB : ∀ w', Ext w w' → RdH w' k h → Ans Try.prog 24 [.agg (encH k).toArray, .agg (encH r).toArray] w' fun v _ => v = .bool true := fun w' hx h1 => sameHeap_ans k r h w' h1 (hr.ext hx) hs
  repeat' (first | (show CW _ _ _ _ _ _; first | refine CW.seq ?_ | refine CW.region ?_ | refine CW.ret ?_) | (show Post _ _ _ _ _; refine Post.seq ?_) | refine SW.nil ?_ | (show SW _ _ _ _ (⟨_, _, _, _, _, some _⟩ :: _) _ _; first | refine SW.want_t rfl rfl (by with_reducible rfl) ?_ | refine SW.splitd_t rfl rfl rfl (by omega) ?_) | refine SW.pure rfl rfl ?_ | (show SW _ _ _ _ (⟨_, Op.load _ _, _, _, _, none⟩ :: _) _ _; first | refine SW.st (st_loads rfl rfl ((fun _ _ => hb4.cell))) rfl ?_ | refine SW.st (st_loads rfl rfl ((fun _ _ => hb6.cell))) rfl ?_ | refine SW.st (st_loads rfl rfl ((fun _ _ => hb3.cell))) rfl ?_ | refine SW.st (st_loads rfl rfl ((fun _ _ => hb1.cell))) rfl ?_) | (show SW _ _ _ _ (⟨_, Op.call ⟨.value (.func _), _, _⟩, _, _, _, none⟩ :: _) _ _; first | (refine SW.call rfl rfl (cA _ hw hs1.rd hs2.rd) ?_; intro v w1 hw1 hv; subst hv; replace hw := Ext.trans hw hw1; replace hb1 := hb1.ext hw1; replace hb3 := hb3.ext hw1; replace hb4 := hb4.ext hw1; replace hb6 := hb6.ext hw1; replace hK := hK.ext hw1; replace hs1 := hs1.ext hw1; replace hs2 := hs2.ext hw1; clear hw1) | (refine SW.call rfl rfl (cB _ hw hK.rd) ?_; intro v w1 hw1 hv; subst hv; replace hw := Ext.trans hw hw1; replace hb1 := hb1.ext hw1; replace hb3 := hb3.ext hw1; replace hb4 := hb4.ext hw1; replace hb6 := hb6.ext hw1; replace hK := hK.ext hw1; replace hs1 := hs1.ext hw1; replace hs2 := hs2.ext hw1; clear hw1)))
  exact Post.ret1 rfl rfl ⟨_, rfl, hw, rfl⟩
end Go.Proofs.Ytfdmgflboibdoaa
