/-
  Texts of the claim PagesAllocs, part 12: what its theorem leans on.
-/
import Derived.Test.YtfommgdbahemfaaDoorRows
import Derived.Test.YtfommgdbahemfaaDoorPackPagesAllocs2
import Derived.ProofKit
import Derived.SizedLaws
import Derived.JoinedCond
import Derived.Deep.Slices
import Derived.Deep.Fields
import Derived.Lib.SmallJoins
import Derived.OpenShut
import Derived.Test.YtfommgdbahemfaaDoorPackPagesAllocs1
import Derived.Test.YtfommgdbahemfaaDoorPackPagesAllocs6
import Derived.Test.YtfommgdbahemfaaDoorPackPagesAllocs9
import Derived.Test.YtfommgdbahemfaaDoorPackPagesAllocs7
set_option linter.unusedVariables false
namespace Go.Proofs.YtfommgdbahemfaaDoor
open Go.ChangeShapes Go.WideShapes Go.ChangeAt Go.RowKit Go.Deep Go.Joins
theorem own : ownKnob Tryd.prog.godebug = none := by kernel_rfl
theorem laidOut : laidOutB Tryd.prog = true := by kernel_rfl
theorem trodAll_stays {H : Type} {enc : TypeId × Value → H} {P : Program} (hl : laidOutB P = true) {W W' : World} (hb : Below W.heap.size W W') :
  ∀ (ts : List TypeId) (vs : List Value) (ds : List (DataW H)) (ps : List MemPlace), (∀ t ∈ ts, P.readableRec t = true ∧ t < P.types.size) →
   DataW.TrodAll enc P W 0 (fun _ => true) true ts vs ds ps → (∀ x ∈ ps, x.block < W.heap.size) → DataW.TrodAll enc P W' 0 (fun b => decide (b < W.heap.size)) true ts vs ds ps
 | [], [], [], _, _, h, _ => h
 | t :: ts, v :: vs, d :: ds, ps, hts, h, hlt => by
  obtain ⟨p, q, h1, h2, rfl⟩ := h
  exact ⟨p, q, Below.trod hl (hts t (by simp)).1 (hts t (by simp)).2 h1 hb (fun x hx => hlt x (by simp [hx])),
   trodAll_stays hl hb ts vs ds q (fun u hu => hts u (by simp [hu])) h2 (fun x hx => hlt x (by simp [hx])), rfl⟩
 | [], _ :: _, _, _, _, h, _ => by simp [DataW.TrodAll] at h
 | [], [], _ :: _, _, _, h, _ => by simp [DataW.TrodAll] at h
 | _ :: _, [], _, _, _, h, _ => by simp [DataW.TrodAll] at h
 | _ :: _, _ :: _, [], _, _, h, _ => by simp [DataW.TrodAll] at h
theorem law_close {H : Type} {enc : TypeId × Value → H} {P : Program} {f : Func} {s : ChangeSpec} {fid : FuncId} {W : World} {args : Array Value} {ds gs : List (DataW H)} {before : List MemPlace} {tb : TypeId}
  (hl : laidOutB P = true) (hts : ∀ t ∈ f.params.toList, P.readableRec t = true ∧ t < P.types.size) (hr : f.resultTypes = #[tb]) (hb : P.underlying tb = some .bool) (hv : s.vars = [])
  (hsp : (s.fn H (ds ++ [])).results = [.lit (.bool true)] ∧ (s.fn H (ds ++ [])).args = ds ∧ (s.fn H (ds ++ [])).vars = [])
  (hW : DataW.Whole enc P f.params.toList s.vars false W args.toList ds gs before) (h : Ans P fid args.toList W fun v _ => v = .bool true) :
  Calls P fid args W fun e W' => ∃ v, e = .returned v ∧ s.post enc P f false true false false W args v W' := by
 have hW' := hW
 obtain ⟨p, q, hA, hV, rfl, _, _⟩ := hW
 rw [hv] at hV
 obtain ⟨rfl, rfl⟩ := trodVars_none hV
 simp only [List.append_nil] at hW'
 have hlt : ∀ x ∈ p, x.block < W.heap.size := fun x hx => by simpa using hW'.lt x hx
 refine Calls.mono h.out ?_
 rintro e W' ⟨v, rfl, hx, rfl⟩
 obtain ⟨s1, s2, s3⟩ := hsp
 refine ⟨_, rfl, ds, [], p, [], p, [], hW', ?_, ?_, ?_, Below.frame hx _, fun h => by cases h⟩
 ·rw [s1, hr]
  exact trodAll_mk1 (shut_bool hb true)
 ·rw [s2]
  exact trodAll_stays hl hx _ _ _ _ hts hA hlt
 ·rw [s3, hv]
  rfl
end Go.Proofs.YtfommgdbahemfaaDoor
set_option linter.unusedVariables false
set_option maxRecDepth 100000
namespace Go.Proofs.YtfommgdbahemfaaDoor
open Go.ChangeShapes Go.WideShapes Go.ChangeAt Go.RowKit Go.Deep Go.Joins
def in64 (z : Int) : Prop := -9223372036854775808 ≤ z ∧ z ≤ 9223372036854775807
section
variable {H : Type} {enc : TypeId × Value → H} {W : World} {base : Nat} {spare : Nat → Bool} {held : Bool} {fuel : Nat} {cs : List Value} {x : DataW H × List MemPlace}
theorem in64_of_wf {z : Int} (h : (Lit.int .i64 z).wf = true) : in64 z := by
 have h1 : IntKind.i64.min = -9223372036854775808 := rfl
 have h2 : IntKind.i64.max = 9223372036854775807 := rfl
 simp only [Lit.wf, Bool.and_eq_true, decide_eq_true_eq] at h
 unfold in64
 omega
theorem el_int {t : TypeId} (ht : Tryd.prog.underlying t = some (.int .i64)) (h : DataW.trod enc Tryd.prog W base spare held fuel t cs = some x) : ∃ z : Int, cs = encI z ∧ in64 z := by
 obtain ⟨z, rfl, _, hw⟩ := DataW.trod_int ht h
 exact ⟨z, rfl, in64_of_wf hw⟩
end
section
variable {H : Type} {P : Program}
theorem bd_arg {ts : List TypeId} {ds : List (DataW H)} (h : (DataW.weightsEach P ts ds).all (· ≤ reachBytes) = true) {j : Nat} {t : TypeId} {d : DataW H} (ht : ts[j]? = some t) (hd : ds[j]? = some d) : ∀ y ∈ d.weights P t, y ≤ reachBytes := fun y hy => by
 simpa using List.all_eq_true.1 h _ (DataW.weights_mem_each ht hd y hy)
theorem bd_field {t : TypeId} {fs : Array Field} {parts : List (DataW H)} (hu : P.underlying t = some (.struct fs)) {j : Nat} {tj : TypeId} {dj : DataW H} (ht : (fs.toList.map (·.type))[j]? = some tj) (hd : parts[j]? = some dj) (h : ∀ y ∈ (DataW.agg parts).weights P t, y ≤ reachBytes) : ∀ y ∈ dj.weights P tj, y ≤ reachBytes := fun y hy => by
 apply h
 simp only [DataW.weights, hu]
 exact DataW.weights_mem_each ht hd y hy
end
section
variable {H : Type} {enc : TypeId × Value → H} {W : World} {base : Nat} {spare : Nat → Bool} {held : Bool} {fuel : Nat} {cs : List Value} {x : DataW H × List MemPlace}
theorem el_block (h : DataW.trod enc Tryd.prog W base spare held fuel 55 cs = some x) : ∃ r : Block, cs = encBk r ∧ True := by
 obtain ⟨xs, n, _, _, hlen, hxl, hf⟩ := DataW.trod_struct Tryd.underlying55 h
 have hc : Tryd.prog.cellsOf 55 = 3 := by kernel_rfl
 have hi : Tryd.prog.cellsOf 3 = 1 := by kernel_rfl
 rw [hc] at hlen
 match cs, hlen with
 | [c0, c1, c2], _ =>
  match xs, hxl with
  | [y0, y1, y2], _ =>
   have h0 : DataW.trod enc Tryd.prog W base spare held n 3 (List.take (Tryd.prog.cellsOf 3) (List.drop 0 [c0, c1, c2])) = some y0 := hf 0 _ rfl
   have h1 : DataW.trod enc Tryd.prog W base spare held n 3 (List.take (Tryd.prog.cellsOf 3) (List.drop 1 [c0, c1, c2])) = some y1 := hf 1 _ rfl
   have h2 : DataW.trod enc Tryd.prog W base spare held n 3 (List.take (Tryd.prog.cellsOf 3) (List.drop 2 [c0, c1, c2])) = some y2 := hf 2 _ rfl
   rw [hi] at h0 h1 h2
   obtain ⟨a, ha, wa⟩ := el_int Tryd.underlying3 h0
   obtain ⟨b, hb, wb⟩ := el_int Tryd.underlying3 h1
   obtain ⟨c, hcc, wc⟩ := el_int Tryd.underlying3 h2
   simp [encI] at ha hb hcc
   subst ha hb hcc
   exact ⟨⟨a, b, c⟩, rfl, trivial⟩
end
end Go.Proofs.YtfommgdbahemfaaDoor
set_option linter.unusedVariables false
set_option maxRecDepth 100000
namespace Go.Proofs.YtfommgdbahemfaaDoor
open Go.ChangeShapes Go.WideShapes Go.ChangeAt Go.RowKit Go.Deep Go.Joins
section
variable {H : Type} {enc : TypeId × Value → H} {W : World} {base : Nat} {spare : Nat → Bool} {held : Bool} {fuel : Nat} {cs : List Value} {x : DataW H × List MemPlace}
theorem weightsAll_mem {P : Program} {e : TypeId} : ∀ {l : List (DataW H)} {d : DataW H}, d ∈ l → ∀ n ∈ d.weights P e, n ∈ DataW.weightsAll P e l
 | a :: r, d, h, n, hn => by
  simp only [DataW.weightsAll, List.mem_append]
  rcases List.mem_cons.1 h with rfl | h
  ·exact .inl hn
  ·exact .inr (weightsAll_mem h n hn)
theorem all2_of {α β : Type} {R : α → β → Prop} : ∀ (l : List α), (∀ a ∈ l, ∃ b, R a b) → ∃ bs : List β, All2 R l bs
 | [], _ => ⟨[], .nil⟩
 | a :: r, h => by
  obtain ⟨b, hb⟩ := h a (by simp)
  obtain ⟨bs, hbs⟩ := all2_of r (fun x hx => h x (by simp [hx]))
  refine ⟨b :: bs, by simp [hbs.len], fun i h1 h2 => ?_⟩
  cases i with
  | zero => exact hb
  | succ i => exact hbs.get i (by simpa using h1) (by simpa using h2)
theorem open_slw {α : Type} {t e sz b : Nat} [S : SliceTy Tryd.prog t e sz] (hc : Tryd.prog.cellsOf e = sz) (hby : Tryd.prog.bytesOf e = b) {en : α → List Value} {Good : α → Prop}
  (hel : ∀ fuel cs x, DataW.trod enc Tryd.prog W base spare held fuel e cs = some x → (∀ y ∈ x.1.weights Tryd.prog e, y ≤ reachBytes) → ∃ a : α, cs = en a ∧ Good a) (h : DataW.trod enc Tryd.prog W base spare held fuel t cs = some x) (hw : ∀ y ∈ x.1.weights Tryd.prog t, y ≤ reachBytes) :
  ∃ A n c l, cs = [.slice A n c] ∧ Sl W sz en A n l ∧ n * b ≤ 140737488351232 ∧ ∀ a ∈ l, Good a := by
 rcases open_slice S.und h with ⟨h1, h2⟩ | ⟨a, len, cap, m, k, D, Pl, h1, hb, hl, hm, hmm, hx, hi⟩
 ·exact ⟨none, 0, 0, [], h1, Sl.nil_ _ _ _ _, by simp, by simp⟩
 ·have hlm : len ≤ m := by rw [hmm]; split <;> omega
  have hx1 : x.1 = .slice ((List.range len).map D) ((List.range (m - len)).map fun j => D (len + j)) := by rw [hx]
  have hnb : len * b ≤ 140737488351232 := by
   have := hw ((((List.range len).map D).length + ((List.range (m - len)).map fun j => D (len + j)).length) * Tryd.prog.bytesOf e) (by rw [hx1]; simp [DataW.weights, S.und])
   rw [hby] at this
   simp only [reachBytes] at this
   refine Nat.le_trans (Nat.mul_le_mul_right _ ?_) this
   simp
  have hex : ∀ i, i < len → ∃ q : α, Good q ∧ ∀ j u, (en q)[j]? = some u → W.cell? ((a.add (i * sz)).add j) = some u := fun i hlt => by
   obtain ⟨cs', hcs, ht⟩ := hi i (by omega)
   obtain ⟨q, rfl, hg⟩ := hel _ _ _ ht (fun y hy => by
    apply hw
    rw [hx1]
    simp only [DataW.weights, S.und, List.mem_cons, List.mem_append]
    exact .inr (.inl (weightsAll_mem (List.mem_map.2 ⟨i, by simpa using hlt, rfl⟩) y hy)))
   obtain ⟨_, hcl, hat⟩ := World.cells?_some hcs
   rw [hc] at hcl hat
   refine ⟨q, hg, fun j u hu => ?_⟩
   have hj : j < (en q).length := by
    rcases Nat.lt_or_ge j (en q).length with h | h
    ·exact h
    ·simp [List.getElem?_eq_none h] at hu
   rw [hat j (by omega)]
   exact hu
  by_cases h0 : len = 0
  ·subst h0
   exact ⟨some a, 0, cap, [], h1, Sl.nil_ _ _ _ _, by simp, by simp⟩
  have hch : ∃ f : Nat → α, ∀ i, i < len → Good (f i) ∧ ∀ j u, (en (f i))[j]? = some u → W.cell? ((a.add (i * sz)).add j) = some u := by
   have hne : Nonempty α := ⟨(hex 0 (by omega)).choose⟩
   exact ⟨fun i => if h : i < len then (hex i h).choose else Classical.choice hne, fun i h => by simp only [h, dif_pos]; exact (hex i h).choose_spec⟩
  obtain ⟨f, hf⟩ := hch
  refine ⟨some a, len, cap, (List.range len).map f, h1, ⟨by simp, fun _ => rfl, fun i hi' j u hu => ?_⟩, hnb, ?_⟩
  ·simp at hi'
   exact (hf i hi').2 j u (by simpa using hu)
  ·intro q hq
   obtain ⟨i, hi', rfl⟩ := List.mem_map.1 hq
   exact (hf i (by simpa using hi')).1
theorem elw_int {t : TypeId} (ht : Tryd.prog.underlying t = some (.int .i64)) : ∀ fuel cs x, DataW.trod enc Tryd.prog W base spare held fuel t cs = some x → (∀ y ∈ x.1.weights Tryd.prog t, y ≤ reachBytes) → ∃ z : Int, cs = encI z ∧ in64 z := fun _ _ _ h _ => el_int ht h
theorem elw_block : ∀ fuel cs x, DataW.trod enc Tryd.prog W base spare held fuel 55 cs = some x → (∀ y ∈ x.1.weights Tryd.prog 55, y ≤ reachBytes) → ∃ r : Block, cs = encBk r ∧ True := fun _ _ _ h _ => el_block h
def Zone.good (z : Zone) : Prop := in64 z.From ∧ in64 z.To ∧ z.Free.length * 24 ≤ 140737488351232 ∧ z.Types.length * 8 ≤ 140737488351232
theorem elw_zone : ∀ fuel cs x, DataW.trod enc Tryd.prog W base spare held fuel 25 cs = some x → (∀ y ∈ x.1.weights Tryd.prog 25, y ≤ reachBytes) → ∃ r : ZRow, cs = encZ r ∧ ∃ z : Zone, RdZ W r z ∧ z.good := by
 intro fuel cs x h hw
 obtain ⟨xs, n, _, rfl, hlen, hxl, hf⟩ := DataW.trod_struct Tryd.underlying25 h
 have hc : Tryd.prog.cellsOf 25 = 4 := by kernel_rfl
 have hi : Tryd.prog.cellsOf 3 = 1 := by kernel_rfl
 have hi2 : Tryd.prog.cellsOf 22 = 1 := by kernel_rfl
 have hi3 : Tryd.prog.cellsOf 23 = 1 := by kernel_rfl
 rw [hc] at hlen
 match cs, hlen with
 | [c0, c1, c2, c3], _ =>
  match xs, hxl with
  | [y0, y1, y2, y3], _ =>
   have h0 : DataW.trod enc Tryd.prog W base spare held n 3 (List.take (Tryd.prog.cellsOf 3) (List.drop 0 [c0, c1, c2, c3])) = some y0 := hf 0 _ rfl
   have h1 : DataW.trod enc Tryd.prog W base spare held n 3 (List.take (Tryd.prog.cellsOf 3) (List.drop 1 [c0, c1, c2, c3])) = some y1 := hf 1 _ rfl
   have h2 : DataW.trod enc Tryd.prog W base spare held n 22 (List.take (Tryd.prog.cellsOf 22) (List.drop 2 [c0, c1, c2, c3])) = some y2 := hf 2 _ rfl
   have h3 : DataW.trod enc Tryd.prog W base spare held n 23 (List.take (Tryd.prog.cellsOf 23) (List.drop 3 [c0, c1, c2, c3])) = some y3 := hf 3 _ rfl
   rw [hi] at h0 h1
   rw [hi2] at h2
   rw [hi3] at h3
   have w2 := bd_field Tryd.underlying25 (j := 2) rfl rfl hw
   have w3 := bd_field Tryd.underlying25 (j := 3) rfl rfl hw
   obtain ⟨a, ha, wa⟩ := el_int Tryd.underlying3 h0
   obtain ⟨b, hb, wb⟩ := el_int Tryd.underlying3 h1
   obtain ⟨A2, n2, k2, l2, e2, s2, b2, _⟩ := open_slw (t := 22) (b := 24) (by kernel_rfl) (by kernel_rfl) elw_block h2 w2
   obtain ⟨A3, n3, k3, l3, e3, s3, b3, _⟩ := open_slw (t := 23) (b := 8) (by kernel_rfl) (by kernel_rfl) (elw_int Tryd.underlying3) h3 w3
   simp [encI] at ha hb e2 e3
   subst ha hb e2 e3
   refine ⟨⟨a, b, ⟨A2, n2, k2⟩, ⟨A3, n3, k3⟩⟩, rfl, ⟨a, b, l2, l3⟩, ⟨rfl, rfl, s2, s3⟩, wa, wb, ?_, ?_⟩
   ·simp only [s2.len]; exact b2
   ·simp only [s3.len]; exact b3
theorem elw_list : ∀ fuel cs x, DataW.trod enc Tryd.prog W base spare held fuel 84 cs = some x → (∀ y ∈ x.1.weights Tryd.prog 84, y ≤ reachBytes) → ∃ r : LRow, cs = encL r ∧ ∃ l : PList, RdL W r l ∧ l.Pages.length * 8 ≤ 140737488351232 := by
 intro fuel cs x h hw
 obtain ⟨xs, n, _, rfl, hlen, hxl, hf⟩ := DataW.trod_struct Tryd.underlying84 h
 have hc : Tryd.prog.cellsOf 84 = 4 := by kernel_rfl
 have hi : Tryd.prog.cellsOf 3 = 1 := by kernel_rfl
 have hi3 : Tryd.prog.cellsOf 23 = 1 := by kernel_rfl
 rw [hc] at hlen
 match cs, hlen with
 | [c0, c1, c2, c3], _ =>
  match xs, hxl with
  | [y0, y1, y2, y3], _ =>
   have h0 : DataW.trod enc Tryd.prog W base spare held n 3 (List.take (Tryd.prog.cellsOf 3) (List.drop 0 [c0, c1, c2, c3])) = some y0 := hf 0 _ rfl
   have h1 : DataW.trod enc Tryd.prog W base spare held n 3 (List.take (Tryd.prog.cellsOf 3) (List.drop 1 [c0, c1, c2, c3])) = some y1 := hf 1 _ rfl
   have h2 : DataW.trod enc Tryd.prog W base spare held n 3 (List.take (Tryd.prog.cellsOf 3) (List.drop 2 [c0, c1, c2, c3])) = some y2 := hf 2 _ rfl
   have h3 : DataW.trod enc Tryd.prog W base spare held n 23 (List.take (Tryd.prog.cellsOf 23) (List.drop 3 [c0, c1, c2, c3])) = some y3 := hf 3 _ rfl
   rw [hi] at h0 h1 h2
   rw [hi3] at h3
   have w3 := bd_field Tryd.underlying84 (j := 3) rfl rfl hw
   obtain ⟨a, ha, wa⟩ := el_int Tryd.underlying3 h0
   obtain ⟨b, hb, wb⟩ := el_int Tryd.underlying3 h1
   obtain ⟨c, hcc, wc⟩ := el_int Tryd.underlying3 h2
   obtain ⟨A3, n3, k3, l3, e3, s3, b3, _⟩ := open_slw (t := 23) (b := 8) (by kernel_rfl) (by kernel_rfl) (elw_int Tryd.underlying3) h3 w3
   simp [encI] at ha hb hcc e3
   subst ha hb hcc e3
   refine ⟨⟨a, b, c, ⟨A3, n3, k3⟩⟩, rfl, ⟨a, b, c, l3⟩, ⟨rfl, rfl, rfl, s3⟩, ?_⟩
   simp only [s3.len]; exact b3
structure Heap.good (h : Heap) : Prop where
 small : h.small
 zones : ∀ z ∈ h.Zones, z.good
theorem elw_heap : ∀ fuel cs x, DataW.trod enc Tryd.prog W base spare held fuel 35 cs = some x → (∀ y ∈ x.1.weights Tryd.prog 35, y ≤ reachBytes) → ∃ r : HRow, cs = encH r ∧ ∃ h : Heap, RdH W r h ∧ h.good := by
 intro fuel cs x h hw
 obtain ⟨xs, n, _, rfl, hlen, hxl, hf⟩ := DataW.trod_struct Tryd.underlying35 h
 have hc : Tryd.prog.cellsOf 35 = 5 := by kernel_rfl
 have hi : Tryd.prog.cellsOf 3 = 1 := by kernel_rfl
 have hi1 : Tryd.prog.cellsOf 23 = 1 := by kernel_rfl
 have hi2 : Tryd.prog.cellsOf 32 = 1 := by kernel_rfl
 have hi3 : Tryd.prog.cellsOf 33 = 1 := by kernel_rfl
 have hi4 : Tryd.prog.cellsOf 22 = 1 := by kernel_rfl
 rw [hc] at hlen
 match cs, hlen with
 | [c0, c1, c2, c3, c4], _ =>
  match xs, hxl with
  | [y0, y1, y2, y3, y4], _ =>
   have h0 : DataW.trod enc Tryd.prog W base spare held n 32 (List.take (Tryd.prog.cellsOf 32) (List.drop 0 [c0, c1, c2, c3, c4])) = some y0 := hf 0 _ rfl
   have h1 : DataW.trod enc Tryd.prog W base spare held n 23 (List.take (Tryd.prog.cellsOf 23) (List.drop 1 [c0, c1, c2, c3, c4])) = some y1 := hf 1 _ rfl
   have h2 : DataW.trod enc Tryd.prog W base spare held n 3 (List.take (Tryd.prog.cellsOf 3) (List.drop 2 [c0, c1, c2, c3, c4])) = some y2 := hf 2 _ rfl
   have h3 : DataW.trod enc Tryd.prog W base spare held n 33 (List.take (Tryd.prog.cellsOf 33) (List.drop 3 [c0, c1, c2, c3, c4])) = some y3 := hf 3 _ rfl
   have h4 : DataW.trod enc Tryd.prog W base spare held n 22 (List.take (Tryd.prog.cellsOf 22) (List.drop 4 [c0, c1, c2, c3, c4])) = some y4 := hf 4 _ rfl
   rw [hi2] at h0
   rw [hi1] at h1
   rw [hi] at h2
   rw [hi3] at h3
   rw [hi4] at h4
   have w0 := bd_field Tryd.underlying35 (j := 0) rfl rfl hw
   have w1 := bd_field Tryd.underlying35 (j := 1) rfl rfl hw
   have w3 := bd_field Tryd.underlying35 (j := 3) rfl rfl hw
   have w4 := bd_field Tryd.underlying35 (j := 4) rfl rfl hw
   obtain ⟨A0, n0, k0, l0, e0, s0, b0, g0⟩ := open_slw (t := 32) (b := 64) (by kernel_rfl) (by kernel_rfl) elw_zone h0 w0
   obtain ⟨A1, n1, k1, l1, e1, s1, b1, _⟩ := open_slw (t := 23) (b := 8) (by kernel_rfl) (by kernel_rfl) (elw_int Tryd.underlying3) h1 w1
   obtain ⟨b, hb, wb⟩ := el_int Tryd.underlying3 h2
   obtain ⟨A3, n3, k3, l3, e3, s3, b3, g3⟩ := open_slw (t := 33) (b := 48) (by kernel_rfl) (by kernel_rfl) elw_list h3 w3
   obtain ⟨A4, n4, k4, l4, e4, s4, b4, _⟩ := open_slw (t := 22) (b := 24) (by kernel_rfl) (by kernel_rfl) elw_block h4 w4
   obtain ⟨Z, hZ⟩ := all2_of l0 g0
   obtain ⟨L, hL⟩ := all2_of l3 g3
   simp [encI] at e0 e1 hb e3 e4
   subst e0 e1 hb e3 e4
   refine ⟨⟨⟨A0, n0, k0⟩, ⟨A1, n1, k1⟩, b, ⟨A3, n3, k3⟩, ⟨A4, n4, k4⟩⟩, rfl, ⟨Z, l1, b, L, l4⟩, ⟨rfl, s1, s4, ⟨l0, s0, hZ.mono fun _ _ h => h.1⟩, ⟨l3, s3, hL.mono fun _ _ h => h.1⟩⟩, ⟨?_, ?_, ?_, ?_, ?_, ?_⟩, ?_⟩
   ·simp only [← hZ.len, s0.len]; omega
   ·simp only [s1.len]; omega
   ·simp only [← hL.len, s3.len]; omega
   ·simp only [s4.len]; omega
   ·intro z hz
    obtain ⟨i, hi, rfl⟩ := List.getElem_of_mem hz
    have := (hZ.get i (by have := hZ.len; simp only at hi; omega) hi).2
    exact ⟨by have := this.2.2.1; simp only at this ⊢; omega, by have := this.2.2.2; simp only at this ⊢; omega⟩
   ·intro z hz
    obtain ⟨i, hi, rfl⟩ := List.getElem_of_mem hz
    have := (hL.get i (by have := hL.len; simp only at hi; omega) hi).2
    simp only at this ⊢
    omega
   ·intro z hz
    obtain ⟨i, hi, rfl⟩ := List.getElem_of_mem hz
    exact (hZ.get i (by have := hZ.len; simp only at hi; omega) hi).2
theorem open_heap {r : Reach} {b0 : Nat} {v : Value} {d : DataW H} {p : List MemPlace} (hv : Value.okWide Tryd.prog W r b0 35 v) (h : DataW.Trod enc Tryd.prog W base spare held 35 v d p) (hw : ∀ y ∈ d.weights Tryd.prog 35, y ≤ reachBytes) :
  ∃ (r : HRow) (h : Heap), v = .agg (encH r).toArray ∧ RdH W r h ∧ h.good := by
 obtain ⟨cs, rfl, hsz⟩ := okWide_struct Tryd.underlying35 hv
 obtain ⟨fuel, hf⟩ := h
 obtain ⟨r, hr, hh, h1, h2⟩ := elw_heap _ _ _ hf hw
 refine ⟨r, hh, ?_, h1, h2⟩
 have : cs.toList = encH r := hr
 rw [← this]
end
end Go.Proofs.YtfommgdbahemfaaDoor
set_option linter.unusedVariables false
set_option linter.unusedSimpArgs false
namespace Go.Proofs.YtfommgdbahemfaaDoor
open Go.RowKit
def Marks (w : World) (b N : Nat) : Option (List Block) → Prop
 | some bs => Blk w b 125 (cellsM (covP bs) N false)
 | none => ∃ p, Blk w b 125 (cellsM p N true)
theorem Marks.ext {w w' : World} {b N : Nat} {s : Option (List Block)} (h : Marks w b N s) (hx : Ext w w') : Marks w' b N s := by
 cases s with
 | none => obtain ⟨p, h⟩ := h; exact ⟨p, Blk.ext h hx⟩
 | some bs => exact Blk.ext h hx
theorem Marks.bad {w : World} {b N : Nat} {s : Option (List Block)} (h : Marks w b N s) (hN : N = 256) : w.cell? ((⟨b, 0, none⟩ : Addr).add 256) = some (.bool s.isNone) := by
 subst hN
 cases s with
 | none => obtain ⟨p, h⟩ := h; exact Blk.cell h (cellsM_bad _ _ _)
 | some bs => exact Blk.cell h (cellsM_bad _ _ _)
theorem Marks.gr {w w' : World} {b N : Nat} {s : Option (List Block)} (h : Marks w b N s) (hg : w.grownBy w' (some b)) : GrT w w' 125 := by
 cases s with
 | none => obtain ⟨p, h⟩ := h; exact Blk.gr h hg
 | some bs => exact Blk.gr h hg
theorem markB_ans (b : Nat) (s : Option (List Block)) (x : Block) (N : Nat) (hN : N = 256) (w : World) (hM : Marks w b N s) (hs : goodS s) (hp : 1 ≤ pw x.Order ∧ pw x.Order ≤ 16) :
  AnsX Tryd.prog 88 [.pointer (some ⟨b, 0, none⟩), .int .i64 x.At, .int .i64 (pw x.Order)] w fun v w' => Marks w' b N (addB s x) ∧ w.grownBy w' (some b) := by
 cases s with
 | none =>
  obtain ⟨p, hB⟩ := hM
  refine ⟨Calls.mono (mark_ans b p true N hN x.At (pw x.Order) w hB ⟨by omega, hp.2⟩).out ?_⟩
  rintro e w' ⟨v, he, p', bad', hB', hg, h⟩
  refine ⟨v, he, ?_, hg⟩
  have : bad' = true := by rcases h with ⟨_, h, _⟩ | ⟨_, h⟩ <;> exact h
  subst this
  exact ⟨p', hB'⟩
 | some bs =>
  refine ⟨Calls.mono (mark_ans b (covP bs) false N hN x.At (pw x.Order) w hM ⟨by omega, hp.2⟩).out ?_⟩
  rintro e w' ⟨v, he, p', bad', hB', hg, h⟩
  refine ⟨v, he, ?_, hg⟩
  have hiff := okM_iff (hs bs rfl) (b := x) hp.1
  rcases h with ⟨h1, rfl, rfl⟩ | ⟨h1, rfl⟩
  ·have : addB (some bs) x = some (bs ++ [x]) := by simp [addB, hiff.1 h1]
   rw [this]
   show Blk w' b _ _
   rw [← cellsM_congr (fun i _ => addM_cov bs x i)]
   exact hB'
  ·have : addB (some bs) x = none := by
    simp only [addB]
    rw [if_neg (fun hf => h1 (hiff.2 hf))]
   rw [this]
   exact ⟨p', hB'⟩
theorem lessL_ans (r s : LRow) (a b : PList) (w : World) (ha : r.Cpu = a.Cpu ∧ r.Zone = a.Zone ∧ r.Ty = a.Ty) (hb : s.Cpu = b.Cpu ∧ s.Zone = b.Zone ∧ s.Ty = b.Ty) :
  Ans Tryd.prog 119 [.agg (encL r).toArray, .agg (encL s).toArray] w fun v _ => v = .bool (decide (aheadL a b)) := by
 refine ans_of Tryd.func119 rfl Tryd.ntmps119 rfl ?_
 refine CW.seq (CW.region (SW.box rfl rfl fun b2 w1 hw hb2b hb2 => ?_))
 refine SW.box rfl rfl fun b3 w2 hw2 hb3b hb3 => ?_
 (replace hw := Ext.trans hw hw2; replace hb2 := hb2.ext hw2)
 obtain ⟨a1, a2, a3⟩ := ha
 obtain ⟨b1, b2', b3'⟩ := hb
 have key : aheadL a b ↔ (r.Cpu < s.Cpu ∨ (r.Cpu = s.Cpu ∧ (r.Zone < s.Zone ∨ (r.Zone = s.Zone ∧ r.Ty < s.Ty)))) := by unfold aheadL; rw [a1, a2, a3, b1, b2', b3']
 by_cases h1 : r.Cpu < s.Cpu
 ·rw [decide_eq_true (key.2 (by omega))]
  repeat' (first | (show CW _ _ _ _ _ _; first | refine CW.seq ?_ | refine CW.region ?_ | refine CW.condn_t rfl (by omega) ?_ | refine CW.ret ?_) | (show Post _ _ _ _ _; first | refine Post.seq ?_ | refine Post.seq_ret ?_) | refine SW.nil ?_ | refine SW.pure rfl rfl ?_ | (show SW _ _ _ _ (⟨_, Op.fieldAddr _ _ _, _, _, _, none⟩ :: _) _ _; refine SW.st (st_field rfl) rfl ?_) | (show SW _ _ _ _ (⟨_, Op.load _ _, _, _, _, none⟩ :: _) _ _; first | refine SW.st (st_load rfl (hb2.cell rfl)) rfl ?_ | refine SW.st (st_load rfl (hb3.cell rfl)) rfl ?_))
  all_goals first | (exfalso; omega) | exact Post.ret1 rfl rfl ⟨_, rfl, hw, by simp [h1]⟩
 ·by_cases h2 : r.Cpu = s.Cpu
  ·by_cases h3 : r.Zone < s.Zone
   ·rw [decide_eq_true (key.2 (by omega))]
    repeat' (first | (show CW _ _ _ _ _ _; first | refine CW.seq ?_ | refine CW.region ?_ | refine CW.condn_t rfl (by omega) ?_ | refine CW.condn_f rfl (by omega) ?_ | refine CW.skip ?_ | refine CW.ret ?_) | (show Post _ _ _ _ _; first | refine Post.seq ?_ | refine Post.seq_ret ?_) | refine SW.nil ?_ | refine SW.pure rfl rfl ?_ | (show SW _ _ _ _ (⟨_, Op.fieldAddr _ _ _, _, _, _, none⟩ :: _) _ _; refine SW.st (st_field rfl) rfl ?_) | (show SW _ _ _ _ (⟨_, Op.load _ _, _, _, _, none⟩ :: _) _ _; first | refine SW.st (st_load rfl (hb2.cell rfl)) rfl ?_ | refine SW.st (st_load rfl (hb3.cell rfl)) rfl ?_))
    all_goals first | (exfalso; omega) | exact Post.ret1 rfl rfl ⟨_, rfl, hw, by simp [h3]⟩
   ·by_cases h4 : r.Zone = s.Zone
    ·by_cases h5 : r.Ty < s.Ty
     ·rw [decide_eq_true (key.2 (by omega))]
      repeat' (first | (show CW _ _ _ _ _ _; first | refine CW.seq ?_ | refine CW.region ?_ | refine CW.condn_f rfl (by omega) ?_ | refine CW.skip ?_ | refine CW.ret ?_) | (show Post _ _ _ _ _; refine Post.seq ?_) | refine SW.nil ?_ | refine SW.pure rfl rfl ?_ | (show SW _ _ _ _ (⟨_, Op.fieldAddr _ _ _, _, _, _, none⟩ :: _) _ _; refine SW.st (st_field rfl) rfl ?_) | (show SW _ _ _ _ (⟨_, Op.load _ _, _, _, _, none⟩ :: _) _ _; first | refine SW.st (st_load rfl (hb2.cell rfl)) rfl ?_ | refine SW.st (st_load rfl (hb3.cell rfl)) rfl ?_))
      all_goals first | (exfalso; omega) | exact Post.ret1 rfl rfl ⟨_, rfl, hw, by simp [h5]⟩
     ·rw [decide_eq_false (fun h => by have := key.1 h; omega)]
      repeat' (first | (show CW _ _ _ _ _ _; first | refine CW.seq ?_ | refine CW.region ?_ | refine CW.condn_f rfl (by omega) ?_ | refine CW.skip ?_ | refine CW.ret ?_) | (show Post _ _ _ _ _; refine Post.seq ?_) | refine SW.nil ?_ | refine SW.pure rfl rfl ?_ | (show SW _ _ _ _ (⟨_, Op.fieldAddr _ _ _, _, _, _, none⟩ :: _) _ _; refine SW.st (st_field rfl) rfl ?_) | (show SW _ _ _ _ (⟨_, Op.load _ _, _, _, _, none⟩ :: _) _ _; first | refine SW.st (st_load rfl (hb2.cell rfl)) rfl ?_ | refine SW.st (st_load rfl (hb3.cell rfl)) rfl ?_))
      all_goals first | (exfalso; omega) | exact Post.ret1 rfl rfl ⟨_, rfl, hw, by simp [h5]⟩
    ·rw [decide_eq_false (fun h => by have := key.1 h; omega)]
     repeat' (first | (show CW _ _ _ _ _ _; first | refine CW.seq ?_ | refine CW.region ?_ | refine CW.condn_t rfl (by omega) ?_ | refine CW.condn_f rfl (by omega) ?_ | refine CW.skip ?_ | refine CW.ret ?_) | (show Post _ _ _ _ _; first | refine Post.seq ?_ | refine Post.seq_ret ?_) | refine SW.nil ?_ | refine SW.pure rfl rfl ?_ | (show SW _ _ _ _ (⟨_, Op.fieldAddr _ _ _, _, _, _, none⟩ :: _) _ _; refine SW.st (st_field rfl) rfl ?_) | (show SW _ _ _ _ (⟨_, Op.load _ _, _, _, _, none⟩ :: _) _ _; first | refine SW.st (st_load rfl (hb2.cell rfl)) rfl ?_ | refine SW.st (st_load rfl (hb3.cell rfl)) rfl ?_))
     all_goals first | (exfalso; omega) | exact Post.ret1 rfl rfl ⟨_, rfl, hw, by simp [h3]⟩
  ·rw [decide_eq_false (fun h => by have := key.1 h; omega)]
   repeat' (first | (show CW _ _ _ _ _ _; first | refine CW.seq ?_ | refine CW.region ?_ | refine CW.condn_t rfl (by omega) ?_ | refine CW.ret ?_) | (show Post _ _ _ _ _; first | refine Post.seq ?_ | refine Post.seq_ret ?_) | refine SW.nil ?_ | refine SW.pure rfl rfl ?_ | (show SW _ _ _ _ (⟨_, Op.fieldAddr _ _ _, _, _, _, none⟩ :: _) _ _; refine SW.st (st_field rfl) rfl ?_) | (show SW _ _ _ _ (⟨_, Op.load _ _, _, _, _, none⟩ :: _) _ _; first | refine SW.st (st_load rfl (hb2.cell rfl)) rfl ?_ | refine SW.st (st_load rfl (hb3.cell rfl)) rfl ?_))
   all_goals first | (exfalso; omega) | exact Post.ret1 rfl rfl ⟨_, rfl, hw, by simp [h1]⟩
theorem aheadL_ans (r s : LRow) (a b : PList) (w : World) (ha : r.Cpu = a.Cpu ∧ r.Zone = a.Zone ∧ r.Ty = a.Ty) (hb : s.Cpu = b.Cpu ∧ s.Zone = b.Zone ∧ s.Ty = b.Ty) :
  Ans Tryd.prog 96 [.agg (encL r).toArray, .agg (encL s).toArray] w fun v _ => v = .bool (decide (aheadL a b)) := by
 refine ans_of Tryd.func96 rfl Tryd.ntmps96 rfl ?_
 refine CW.seq (CW.region (SW.box rfl rfl fun b2 w1 hw hb2b hb2 => ?_))
 refine SW.box rfl rfl fun b3 w2 hw2 hb3b hb3 => ?_
 (replace hw := Ext.trans hw hw2; replace hb2 := hb2.ext hw2)
 obtain ⟨a1, a2, a3⟩ := ha
 obtain ⟨b1, b2', b3'⟩ := hb
 have key : aheadL a b ↔ (r.Cpu < s.Cpu ∨ (r.Cpu = s.Cpu ∧ (r.Zone < s.Zone ∨ (r.Zone = s.Zone ∧ r.Ty < s.Ty)))) := by unfold aheadL; rw [a1, a2, a3, b1, b2', b3']
 by_cases h1 : r.Cpu < s.Cpu
 ·rw [decide_eq_true (key.2 (by omega))]
  repeat' (first | (show CW _ _ _ _ _ _; first | refine CW.seq ?_ | refine CW.region ?_ | refine CW.ret ?_) | (show Post _ _ _ _ _; refine Post.seq ?_) | refine SW.nil ?_ | (show SW _ _ _ _ (⟨_, _, _, _, _, some _⟩ :: _) _ _; first | refine SW.skip_f rfl rfl (by with_reducible rfl) rfl ?_ | refine SW.skip_u rfl rfl (by with_reducible rfl) rfl ?_ | refine SW.splitd_t rfl rfl rfl (by omega) ?_) | refine SW.pure rfl rfl ?_ | (show SW _ _ _ _ (⟨_, Op.fieldAddr _ _ _, _, _, _, none⟩ :: _) _ _; refine SW.st (st_field rfl) rfl ?_) | (show SW _ _ _ _ (⟨_, Op.load _ _, _, _, _, none⟩ :: _) _ _; first | refine SW.st (st_load rfl (hb2.cell rfl)) rfl ?_ | refine SW.st (st_load rfl (hb3.cell rfl)) rfl ?_))
  all_goals first | (exfalso; omega) | exact Post.ret1 rfl rfl ⟨_, rfl, hw, by simp [h1]⟩
 ·by_cases h2 : r.Cpu = s.Cpu
  ·by_cases h3 : r.Zone < s.Zone
   ·rw [decide_eq_true (key.2 (by omega))]
    repeat' (first | (show CW _ _ _ _ _ _; first | refine CW.seq ?_ | refine CW.region ?_ | refine CW.ret ?_) | (show Post _ _ _ _ _; refine Post.seq ?_) | refine SW.nil ?_ | (show SW _ _ _ _ (⟨_, _, _, _, _, some _⟩ :: _) _ _; first | refine SW.want_t rfl rfl (by with_reducible rfl) ?_ | refine SW.want_f rfl rfl (by with_reducible rfl) ?_ | refine SW.skip_f rfl rfl (by with_reducible rfl) rfl ?_ | refine SW.skip_u rfl rfl (by with_reducible rfl) rfl ?_ | refine SW.splitd_t rfl rfl rfl (by omega) ?_ | refine SW.splitd_f rfl rfl rfl (by omega) ?_) | refine SW.pure rfl rfl ?_ | (show SW _ _ _ _ (⟨_, Op.fieldAddr _ _ _, _, _, _, none⟩ :: _) _ _; refine SW.st (st_field rfl) rfl ?_) | (show SW _ _ _ _ (⟨_, Op.load _ _, _, _, _, none⟩ :: _) _ _; first | refine SW.st (st_load rfl (hb2.cell rfl)) rfl ?_ | refine SW.st (st_load rfl (hb3.cell rfl)) rfl ?_))
    all_goals first | (exfalso; omega) | exact Post.ret1 rfl rfl ⟨_, rfl, hw, by simp [h3]⟩
   ·by_cases h4 : r.Zone = s.Zone
    ·by_cases h5 : r.Ty < s.Ty
     ·rw [decide_eq_true (key.2 (by omega))]
      repeat' (first | (show CW _ _ _ _ _ _; first | refine CW.seq ?_ | refine CW.region ?_ | refine CW.ret ?_) | (show Post _ _ _ _ _; refine Post.seq ?_) | refine SW.nil ?_ | (show SW _ _ _ _ (⟨_, _, _, _, _, some _⟩ :: _) _ _; first | refine SW.want_t rfl rfl (by with_reducible rfl) ?_ | refine SW.want_f rfl rfl (by with_reducible rfl) ?_ | refine SW.splitd_t rfl rfl rfl (by omega) ?_ | refine SW.splitd_f rfl rfl rfl (by omega) ?_) | refine SW.pure rfl rfl ?_ | (show SW _ _ _ _ (⟨_, Op.fieldAddr _ _ _, _, _, _, none⟩ :: _) _ _; refine SW.st (st_field rfl) rfl ?_) | (show SW _ _ _ _ (⟨_, Op.load _ _, _, _, _, none⟩ :: _) _ _; first | refine SW.st (st_load rfl (hb2.cell rfl)) rfl ?_ | refine SW.st (st_load rfl (hb3.cell rfl)) rfl ?_))
      all_goals first | (exfalso; omega) | exact Post.ret1 rfl rfl ⟨_, rfl, hw, by simp [h5]⟩
     ·rw [decide_eq_false (fun h => by have := key.1 h; omega)]
      repeat' (first | (show CW _ _ _ _ _ _; first | refine CW.seq ?_ | refine CW.region ?_ | refine CW.ret ?_) | (show Post _ _ _ _ _; refine Post.seq ?_) | refine SW.nil ?_ | (show SW _ _ _ _ (⟨_, _, _, _, _, some _⟩ :: _) _ _; first | refine SW.want_t rfl rfl (by with_reducible rfl) ?_ | refine SW.want_f rfl rfl (by with_reducible rfl) ?_ | refine SW.splitd_t rfl rfl rfl (by omega) ?_ | refine SW.splitd_f rfl rfl rfl (by omega) ?_) | refine SW.pure rfl rfl ?_ | (show SW _ _ _ _ (⟨_, Op.fieldAddr _ _ _, _, _, _, none⟩ :: _) _ _; refine SW.st (st_field rfl) rfl ?_) | (show SW _ _ _ _ (⟨_, Op.load _ _, _, _, _, none⟩ :: _) _ _; first | refine SW.st (st_load rfl (hb2.cell rfl)) rfl ?_ | refine SW.st (st_load rfl (hb3.cell rfl)) rfl ?_))
      all_goals first | (exfalso; omega) | exact Post.ret1 rfl rfl ⟨_, rfl, hw, by simp [h5]⟩
    ·rw [decide_eq_false (fun h => by have := key.1 h; omega)]
     repeat' (first | (show CW _ _ _ _ _ _; first | refine CW.seq ?_ | refine CW.region ?_ | refine CW.ret ?_) | (show Post _ _ _ _ _; refine Post.seq ?_) | refine SW.nil ?_ | (show SW _ _ _ _ (⟨_, _, _, _, _, some _⟩ :: _) _ _; first | refine SW.want_t rfl rfl (by with_reducible rfl) ?_ | refine SW.want_f rfl rfl (by with_reducible rfl) ?_ | refine SW.skip_t rfl rfl (by with_reducible rfl) rfl ?_ | refine SW.splitd_t rfl rfl rfl (by omega) ?_ | refine SW.splitd_f rfl rfl rfl (by omega) ?_) | refine SW.pure rfl rfl ?_ | (show SW _ _ _ _ (⟨_, Op.fieldAddr _ _ _, _, _, _, none⟩ :: _) _ _; refine SW.st (st_field rfl) rfl ?_) | (show SW _ _ _ _ (⟨_, Op.load _ _, _, _, _, none⟩ :: _) _ _; first | refine SW.st (st_load rfl (hb2.cell rfl)) rfl ?_ | refine SW.st (st_load rfl (hb3.cell rfl)) rfl ?_))
     all_goals first | (exfalso; omega) | exact Post.ret1 rfl rfl ⟨_, rfl, hw, by simp [h3]⟩
  ·rw [decide_eq_false (fun h => by have := key.1 h; omega)]
   repeat' (first | (show CW _ _ _ _ _ _; first | refine CW.seq ?_ | refine CW.region ?_ | refine CW.ret ?_) | (show Post _ _ _ _ _; refine Post.seq ?_) | refine SW.nil ?_ | (show SW _ _ _ _ (⟨_, _, _, _, _, some _⟩ :: _) _ _; first | refine SW.want_f rfl rfl (by with_reducible rfl) ?_ | refine SW.skip_t rfl rfl (by with_reducible rfl) rfl ?_ | refine SW.skip_u rfl rfl (by with_reducible rfl) rfl ?_ | refine SW.splitd_f rfl rfl rfl (by omega) ?_) | refine SW.pure rfl rfl ?_ | (show SW _ _ _ _ (⟨_, Op.fieldAddr _ _ _, _, _, _, none⟩ :: _) _ _; refine SW.st (st_field rfl) rfl ?_) | (show SW _ _ _ _ (⟨_, Op.load _ _, _, _, _, none⟩ :: _) _ _; first | refine SW.st (st_load rfl (hb2.cell rfl)) rfl ?_ | refine SW.st (st_load rfl (hb3.cell rfl)) rfl ?_))
   all_goals first | (exfalso; omega) | exact Post.ret1 rfl rfl ⟨_, rfl, hw, by simp [h1]⟩
structure RdH2 (w : World) (r : HRow) (h : Heap) (r0 r1 : ZRow) (z0 z1 : Zone) : Prop where
 rd : RdH w r h
 eq : h.Zones = [z0, z1]
 n : r.Zones.n = 2
 row : Sl w 4 encZ r.Zones.A r.Zones.n [r0, r1]
 z0 : RdZ w r0 z0
 z1 : RdZ w r1 z1
theorem RdH2.ext {w w' : World} {r : HRow} {h : Heap} {r0 r1 : ZRow} {z0 z1 : Zone} (a : RdH2 w r h r0 r1 z0 z1) (hx : Ext w w') : RdH2 w' r h r0 r1 z0 z1 :=
 ⟨a.rd.ext hx, a.eq, a.n, a.row.ext hx, a.z0.ext hx, a.z1.ext hx⟩
theorem RdH2.c0 {w : World} {r : HRow} {h : Heap} {r0 r1 : ZRow} {z0 z1 : Zone} (a : RdH2 w r h r0 r1 z0 z1) (j : Nat) (u : Value) (hu : (encZ r0)[j]? = some u) : w.cell? (((r.Zones.A.getD default).add (0 * 4)).add j) = some u := a.row.cell 0 (by simp) j u hu
theorem RdH2.c1 {w : World} {r : HRow} {h : Heap} {r0 r1 : ZRow} {z0 z1 : Zone} (a : RdH2 w r h r0 r1 z0 z1) (j : Nat) (u : Value) (hu : (encZ r1)[j]? = some u) : w.cell? (((r.Zones.A.getD default).add (1 * 4)).add j) = some u := a.row.cell 1 (by simp) j u hu
theorem two_of {α : Type} {l : List α} (h : l.length = 2) : ∃ a b, l = [a, b] := by
 match l, h with
 | [a, b], _ => exact ⟨a, b, rfl⟩
theorem RdH.two {w : World} {r : HRow} {h : Heap} (a : RdH w r h) (hl : h.Zones.length = 2) : ∃ r0 r1 z0 z1, RdH2 w r h r0 r1 z0 z1 := by
 obtain ⟨zs, hz⟩ := a.zones
 obtain ⟨z0, z1, e1⟩ := two_of hl
 have l0 := hz.each.len
 obtain ⟨r0, r1, e2⟩ := two_of (show zs.length = 2 by omega)
 subst e2
 have l1 := hz.row.len
 have h0 := hz.each.get 0 (by simp) (by omega)
 have h1 := hz.each.get 1 (by simp) (by omega)
 simp only [e1] at h0 h1
 exact ⟨r0, r1, z0, z1, a, e1, by simpa using l1.symm, hz.row, h0, h1⟩
theorem Pzone_ans (r : HRow) (h : Heap) (r0 r1 : ZRow) (z0 z1 : Zone) (x : Int) (w : World) (hr : RdH2 w r h r0 r1 z0 z1) :
  Ans Tryd.prog 120 [.agg (encH r).toArray, .int .i64 x] w fun v _ => v = .int .i64 (if x < z0.To then 0 else 1) := by
 refine ans_of Tryd.func120 rfl Tryd.ntmps120 rfl ?_
 refine CW.seq (CW.region (SW.box rfl rfl fun b2 w1 hw hb2b hb2 => ?_))
 have hn := hr.n
 have hA := hr.row.base
 have e1 := hr.z0.to_
 by_cases hx : x < z0.To
 ·rw [if_pos hx]
  repeat' (first | (show CW _ _ _ _ _ _; first | refine CW.seq ?_ | refine CW.region ?_ | refine CW.condd_t rfl (by omega) ?_ | refine CW.ret ?_) | (show Post _ _ _ _ _; first | refine Post.seq ?_ | refine Post.seq_ret ?_) | refine SW.nil ?_ | refine SW.pure rfl rfl ?_ | (show SW _ _ _ _ (⟨_, Op.fieldAddr _ _ _, _, _, _, none⟩ :: _) _ _; refine SW.st (st_field rfl) rfl ?_) | (show SW _ _ _ _ (⟨_, Op.indexAddr _ _ _, _, _, _, none⟩ :: _) _ _; refine SW.st (st_indexI (0) rfl rfl (by assumption) (by omega) (by omega)) rfl ?_) | (show SW _ _ _ _ (⟨_, Op.load _ _, _, _, _, none⟩ :: _) _ _; first | refine SW.st (st_load rfl (hb2.cell rfl)) rfl ?_ | refine SW.st (st_loadx hw rfl (hr.c0 1 _ rfl)) rfl ?_))
  exact Post.ret1 rfl rfl ⟨_, rfl, hw, rfl⟩
 ·rw [if_neg hx]
  repeat' (first | (show CW _ _ _ _ _ _; first | refine CW.seq ?_ | refine CW.region ?_ | refine CW.condd_f rfl (by omega) ?_ | refine CW.skip ?_ | refine CW.ret ?_) | (show Post _ _ _ _ _; refine Post.seq ?_) | refine SW.nil ?_ | refine SW.pure rfl rfl ?_ | (show SW _ _ _ _ (⟨_, Op.fieldAddr _ _ _, _, _, _, none⟩ :: _) _ _; refine SW.st (st_field rfl) rfl ?_) | (show SW _ _ _ _ (⟨_, Op.indexAddr _ _ _, _, _, _, none⟩ :: _) _ _; refine SW.st (st_indexI (0) rfl rfl (by assumption) (by omega) (by omega)) rfl ?_) | (show SW _ _ _ _ (⟨_, Op.load _ _, _, _, _, none⟩ :: _) _ _; first | refine SW.st (st_load rfl (hb2.cell rfl)) rfl ?_ | refine SW.st (st_loadx hw rfl (hr.c0 1 _ rfl)) rfl ?_))
  exact Post.ret1 rfl rfl ⟨_, rfl, hw, rfl⟩
end Go.Proofs.YtfommgdbahemfaaDoor
set_option linter.unusedVariables false
namespace Go.Proofs.YtfommgdbahemfaaDoor
def nxs (l : List Block) : Prop := l.Pairwise nextOk
theorem beside_two {y o : Int} (h0 : 0 ≤ o) (h4 : o < 4) (hm : y % pw o = 0) : beside (beside y o) o = y ∧ (beside y o = y + pw o ∨ beside y o = y - pw o) := by
 unfold beside
 have hp := pw_cases h0 (show o ≤ 4 by omega)
 generalize pw o = q at *
 rcases hp with ⟨e, rfl⟩ | ⟨e, rfl⟩ | ⟨e, rfl⟩ | ⟨e, rfl⟩ | ⟨e, rfl⟩ <;> (refine ⟨?_, ?_⟩ <;> split <;> (try split) <;> omega)
theorem zone_nxs {z : Zone} (h : ZoneMay z) : nxs z.Free := by
 have hu := zone_ups h
 unfold nxs
 rw [List.pairwise_iff_getElem]
 intro i j hi hj hij
 by_cases e : j = i + 1
 ·subst e; exact h.next i hj
 ·refine ⟨ups_get hu hj hij, fun hh => ?_⟩
  obtain ⟨h1, h2, h3⟩ := hh
  have g1 := ups_get hu (show i + 1 < z.Free.length by omega) (Nat.lt_succ_self i)
  have g2 := ups_get hu hj (show i + 1 < j by omega)
  have b1 := (h.blk (i + 1) (by omega)).1
  have b2 := (h.blk j hj).1
  have p1 := pw_le b1.1 b1.2.1
  have p2 := (beside_two b2.1 h1 b2.2.2.2.2).2
  have p3 := pw_le b2.1 b2.2.1
  rw [h2] at g1
  omega
theorem inB_union {a o : Int} (h0 : 0 ≤ o) (h4 : o < 4) (hm : a % pw o = 0) (t1 t2 t3 : Int) (i : Nat) : inB ⟨min a (beside a o), o + 1, t1⟩ i = (inB ⟨a, o, t2⟩ i || inB ⟨beside a o, o, t3⟩ i) := by
 have h1 := (beside_two h0 h4 hm).2
 have h2 := pw_succ h0 (show o ≤ 4 by omega)
 have h3 := pw_le h0 (show o ≤ 4 by omega)
 rw [Bool.eq_iff_iff]
 simp only [inB, Bool.and_eq_true, Bool.or_eq_true, decide_eq_true_eq]
 rw [h2]
 omega
theorem cov_without {l : List Block} {a o : Int} (h : l.any (isB a o) = true) (i : Nat) : covP l i = (covP (without l a o) i || inB ⟨a, o, 0⟩ i) := by
 rw [Bool.eq_iff_iff]
 simp only [Bool.or_eq_true, covP, List.any_eq_true, without, List.mem_filter]
 constructor
 ·rintro ⟨x, hx, hi⟩
  by_cases e : isB a o x = true
  ·obtain ⟨e1, e2⟩ := isB_iff.1 e
   right; rw [← hi, ← e1, ← e2]; rfl
  ·left; exact ⟨x, ⟨hx, by simp [e]⟩, hi⟩
 ·rintro (⟨x, ⟨hx, _⟩, hi⟩ | hi)
  ·exact ⟨x, hx, hi⟩
  ·obtain ⟨b, hb, hh⟩ := List.any_eq_true.1 h
   obtain ⟨e1, e2⟩ := isB_iff.1 hh
   exact ⟨b, hb, by rw [← hi, ← e1, ← e2]; rfl⟩
structure Joined (f t : Int) (l : List Block) (a o : Int) (l' : List Block) (a' o' : Int) : Prop where
 ok : JOk f t l' a' o'
 nx : nxs l'
 cov : ∀ i, (covP l' i || inB ⟨a', o', 0⟩ i) = (covP l i || inB ⟨a, o, 0⟩ i)
 fin : o' < 4 → l'.any (isB (beside a' o') o') = false
theorem joinL_joined {f t : Int} (h0 : 0 ≤ f) : ∀ (k : Nat) {l : List Block} {a o : Int}, 4 - o < k → JOk f t l a o → nxs l → Joined f t l a o (joinL k l a o).1 (joinL k l a o).2.1 (joinL k l a o).2.2
 | 0, l, a, o, hk, h, hn => by have := h.fit.2.1; omega
 | k + 1, l, a, o, hk, h, hn => by
  simp only [joinL]
  split
  ·rename_i ho
   split
   ·rename_i hany
    have ih := joinL_joined h0 k (by omega) (h.step h0 ho hany) (hn.sublist List.filter_sublist)
    refine ⟨ih.ok, ih.nx, fun i => ?_, ih.fin⟩
    rw [ih.cov i, inB_union h.fit.1 ho h.fit.2.2.2.2 0 0 0, cov_without hany i]
    rw [Bool.or_assoc, Bool.or_comm (inB _ i) (inB _ i)]
   ·rename_i hany
    exact ⟨h, hn, fun _ => rfl, fun _ => by simpa using hany⟩
  ·rename_i ho
   exact ⟨h, hn, fun _ => rfl, fun h => absurd h ho⟩
theorem ins_nxs {f t : Int} {l0 : List Block} {a0 o0 : Int} {l : List Block} {a o : Int} (h : Joined f t l0 a0 o0 l a o) (u : Int) : nxs (insAt l (lbOf l a) ⟨a, o, u⟩) := by
 have hk := h.ok
 have hp := pw_le hk.fit.1 hk.fit.2.1
 have hlow : ∀ x ∈ l.take (lbOf l a), nextOk x ⟨a, o, u⟩ := fun x hx => by
  obtain ⟨j, hj, rfl⟩ := List.getElem_of_mem hx
  simp only [List.length_take] at hj
  rw [List.getElem_take]
  have h1 := lb_below (l := l) (a := a) (k := j) (by omega)
  have h2 := hk.dis _ (List.getElem_mem (show j < l.length by omega))
  refine ⟨by simp only; omega, fun hh => ?_⟩
  obtain ⟨g1, g2, g3⟩ := hh
  have := h.fin g1
  rw [List.any_eq_false] at this
  exact this _ (List.getElem_mem (show j < l.length by omega)) (isB_iff.2 ⟨g3, g2⟩)
 have hhigh : ∀ y ∈ l.drop (lbOf l a), nextOk ⟨a, o, u⟩ y := fun y hy => by
  obtain ⟨j, hj, rfl⟩ := List.getElem_of_mem hy
  simp only [List.length_drop] at hj
  rw [List.getElem_drop]
  have hlt : lbOf l a < l.length := by omega
  have h1 := lb_at hlt
  have hm := List.getElem_mem (show lbOf l a + j < l.length by omega)
  have h2 := hk.dis _ hm
  have hb := (hk.blk _ hm).1
  have hpj := pw_le hb.1 hb.2.1
  have h3 : (l[lbOf l a]).At ≤ (l[lbOf l a + j]'(by omega)).At := by
   rcases Nat.eq_zero_or_pos j with e | e
   ·subst e; simp
   ·have := ups_get hk.ups (show lbOf l a + j < l.length by omega) (show lbOf l a < lbOf l a + j by omega)
    have hb0 := (hk.blk _ (List.getElem_mem hlt)).1
    have := pw_le hb0.1 hb0.2.1
    omega
  refine ⟨by simp only; omega, fun hh => ?_⟩
  obtain ⟨g1, g2, g3⟩ := hh
  simp only at g2 g3
  have e := (beside_two hb.1 g1 hb.2.2.2.2).1
  rw [← g3, ← g2] at e
  have := h.fin (by omega)
  rw [List.any_eq_false] at this
  exact this _ hm (isB_iff.2 ⟨e.symm, g2.symm⟩)
 have hall : (l.take (lbOf l a) ++ l.drop (lbOf l a)).Pairwise nextOk := by rw [List.take_append_drop]; exact h.nx
 rw [List.pairwise_append] at hall
 unfold nxs insAt
 rw [List.append_assoc, List.pairwise_append]
 refine ⟨hall.1, ?_, fun x hx y hy => ?_⟩
 ·rw [List.singleton_append, List.pairwise_cons]
  exact ⟨hhigh, hall.2.1⟩
 ·rw [List.singleton_append, List.mem_cons] at hy
  rcases hy with rfl | hy
  ·exact hlow x hx
  ·exact hall.2.2 x hx y hy
theorem cov_insAt (l : List Block) (i : Nat) (b : Block) (k : Nat) : covP (insAt l i b) k = (covP l k || inB b k) := by
 have : covP l k = (covP (l.take i) k || covP (l.drop i) k) := by
  unfold covP
  rw [← List.any_append, List.take_append_drop]
 rw [this]
 simp only [covP, insAt, List.any_append, List.any_cons, List.any_nil, Bool.or_false]
 cases (l.take i).any fun b => inB b k <;> cases inB b k <;> simp
theorem mem_insAt {l : List Block} {i : Nat} {b x : Block} (h : x ∈ insAt l i b) : x = b ∨ x ∈ l := by
 unfold insAt at h
 rw [List.mem_append, List.mem_append] at h
 rcases h with (h | h) | h
 ·exact .inr (List.mem_of_mem_take h)
 ·exact .inl (by simpa using h)
 ·exact .inr (List.mem_of_mem_drop h)
structure Kept (z z' : Zone) (a o : Int) : Prop where
 may : ZoneMay z'
 from_ : z'.From = z.From
 to_ : z'.To = z.To
 types : z'.Types = z.Types
 cov : ∀ i, covP z'.Free i = (covP z.Free i || inB ⟨a, o, 0⟩ i)
theorem backV_keep {z : Zone} {a o : Int} (hz : ZoneMay z) (hf : fitsZ z.From z.To a o) (ho : overB z.Free a o = false) : (backV z a o).1 = 0 ∧ Kept z (backV z a o).2 a o := by
 have h0 : 0 ≤ z.From := hz.ok.1
 have hJ := over_dis (f := 0) (t := 0) hz hf ho
 have hj := joinL_joined h0 5 (by have := hf.1; omega) hJ (zone_nxs hz)
 obtain ⟨⟨l, a', o'⟩, hq⟩ : ∃ u, joinL 5 z.Free a o = u := ⟨_, rfl⟩
 rw [hq] at hj
 simp only at hj
 obtain ⟨t, ht⟩ : ∃ t, z.Types.getD ((a' - z.From) / 8).toNat 0 = t := ⟨_, rfl⟩
 rw [backV_0 (zoneB_t hz) hf ho hq ht]
 have htok : tyOk t := by
  subst ht
  rw [List.getD_eq_getElem?_getD]
  cases e : z.Types[((a' - z.From) / 8).toNat]? with
  | none => exact ⟨by decide, by decide⟩
  | some v =>
   obtain ⟨h, rfl⟩ := List.getElem?_eq_some_iff.1 e
   exact hz.types _ (List.getElem_mem h)
 have hn := ins_nxs hj t
 refine ⟨rfl, ⟨hz.ok, hz.len, hz.types, fun i hi => ?_, fun i hi => ?_⟩, rfl, rfl, rfl, fun i => ?_⟩
 ·rcases mem_insAt (List.getElem_mem hi) with e | e
  ·simp only at e ⊢
   rw [e]; exact ⟨hj.ok.fit, htok⟩
  ·exact hj.ok.blk _ e
 ·unfold nxs at hn
  rw [List.pairwise_iff_getElem] at hn
  exact hn i (i + 1) (by simp only at hi; omega) hi (Nat.lt_succ_self i)
 ·rw [cov_insAt, ← hj.cov i]; rfl
end Go.Proofs.YtfommgdbahemfaaDoor
set_option linter.unusedVariables false
namespace Go.Proofs.YtfommgdbahemfaaDoor
noncomputable def backP (s : Zone × Zone) (b : Block) : Zone × Zone := if b.At < s.1.To then ((backV s.1 b.At b.Order).2, s.2) else (s.1, (backV s.2 b.At b.Order).2)
noncomputable def backAll (s : Zone × Zone) (l : List Block) : Zone × Zone := l.foldl backP s
theorem backAll_take (s : Zone × Zone) (l : List Block) (k : Nat) (h : k < l.length) : backAll s (l.take (k + 1)) = backP (backAll s (l.take k)) l[k] := by
 unfold backAll
 rw [List.take_succ_eq_append_getElem h, List.foldl_append]; rfl
structure DInv (s : Zone × Zone) (bs : List Block) : Prop where
 may0 : ZoneMay s.1
 may1 : ZoneMay s.2
 from0 : s.1.From = 0
 mid : s.1.To = s.2.From
 to1 : s.2.To = 256
 cov : ∀ i, (covP s.1.Free i || covP s.2.Free i) = covP bs i
theorem covP_append (l m : List Block) (i : Nat) : covP (l ++ m) i = (covP l i || covP m i) := by simp [covP]
theorem zone_good {z : Zone} (h : ZoneMay z) : ∀ b ∈ z.Free, 0 ≤ b.At ∧ 1 ≤ pw b.Order := fun b hb => by
 obtain ⟨i, hi, rfl⟩ := List.getElem_of_mem hb
 have h1 := (h.blk i hi).1
 have h2 := h.ok.1
 have := pw_le h1.1 h1.2.1
 obtain ⟨_, _, h3, _, _⟩ := h1
 omega
structure NextB (bs : List Block) (b : Block) : Prop where
 ord : 0 ≤ b.Order ∧ b.Order ≤ 4
 at_ : 0 ≤ b.At ∧ b.At < 256
 al : b.At % pw b.Order = 0
 fits : fitsL bs b
 good : ∀ x ∈ bs, 0 ≤ x.At ∧ 1 ≤ pw x.Order
theorem DInv.free {s : Zone × Zone} {bs : List Block} (h : DInv s bs) {b : Block} (hb : NextB bs b) : overB s.1.Free b.At b.Order = false ∧ overB s.2.Free b.At b.Order = false := by
 have hp := pw_le hb.ord.1 hb.ord.2
 have hm := (okM_iff hb.good hp.1).2 hb.fits
 obtain ⟨m1, m2, m3, m4⟩ := hm
 have key : ∀ l : List Block, (∀ x ∈ l, 0 ≤ x.At ∧ 1 ≤ pw x.Order) → (∀ i, covP l i = true → covP bs i = true) → overB l b.At b.Order = false := fun l hl hc =>
  ((okM_iff hl hp.1).1 ⟨m1, m2, m3, fun i h1 h2 => by
   cases e : covP l i with
   | false => rfl
   | true => have := hc i e; rw [m4 i h1 h2] at this; cases this⟩).2.2
 exact ⟨key _ (zone_good h.may0) fun i hi => by rw [← h.cov i, hi]; rfl, key _ (zone_good h.may1) fun i hi => by rw [← h.cov i, hi]; simp⟩
theorem DInv.low {s : Zone × Zone} {bs : List Block} (h : DInv s bs) {b : Block} (hb : NextB bs b) (hl : b.At < s.1.To) : fitsZ s.1.From s.1.To b.At b.Order := ⟨hb.ord.1, hb.ord.2, by rw [h.from0]; exact hb.at_.1, hl, hb.al⟩
theorem DInv.high {s : Zone × Zone} {bs : List Block} (h : DInv s bs) {b : Block} (hb : NextB bs b) (hl : ¬ b.At < s.1.To) : fitsZ s.2.From s.2.To b.At b.Order := ⟨hb.ord.1, hb.ord.2, by rw [← h.mid]; omega, by rw [h.to1]; exact hb.at_.2, hb.al⟩
theorem cov_single (b : Block) (i : Nat) : covP [b] i = inB b i := by simp [covP]
theorem DInv.back {s : Zone × Zone} {bs : List Block} (h : DInv s bs) {b : Block} (hb : NextB bs b) : DInv (backP s b) (bs ++ [b]) ∧ (backP s b).1.To = s.1.To := by
 obtain ⟨o0, o1⟩ := h.free hb
 unfold backP
 by_cases hl : b.At < s.1.To
 ·rw [if_pos hl]
  obtain ⟨_, k⟩ := backV_keep h.may0 (h.low hb hl) o0
  refine ⟨⟨k.may, h.may1, by rw [← h.from0]; exact k.from_, by rw [← h.mid]; exact k.to_, h.to1, fun i => ?_⟩, k.to_⟩
  rw [covP_append, cov_single, ← h.cov i]
  simp only
  rw [k.cov i]
  have : inB ⟨b.At, b.Order, 0⟩ i = inB b i := rfl
  rw [this]
  cases covP s.1.Free i <;> cases covP s.2.Free i <;> cases inB b i <;> rfl
 ·rw [if_neg hl]
  obtain ⟨_, k⟩ := backV_keep h.may1 (h.high hb hl) o1
  refine ⟨⟨h.may0, k.may, h.from0, by simp only; rw [k.from_]; exact h.mid, by simp only; rw [k.to_]; exact h.to1, fun i => ?_⟩, rfl⟩
  rw [covP_append, cov_single, ← h.cov i]
  simp only
  rw [k.cov i]
  have : inB ⟨b.At, b.Order, 0⟩ i = inB b i := rfl
  rw [this, Bool.or_assoc]
theorem addAll_some : ∀ {l s t : List Block}, addAll (some s) l = some t → t = s ++ l
 | [], s, t, h => by simp [addAll] at h; simp [h]
 | b :: l, s, t, h => by
  have e : addAll (some s) (b :: l) = addAll (addB (some s) b) l := rfl
  rw [e] at h
  cases e2 : addB (some s) b with
  | none => rw [e2, addAll_none] at h; cases h
  | some u =>
   rw [e2] at h
   obtain ⟨cs, hcs, _, rfl⟩ := addB_some e2
   cases hcs
   rw [addAll_some h]
   simp
theorem addAll_fitsL {l m : List Block} {b : Block} (h : (addAll (some []) (l ++ b :: m)).isSome = true) : fitsL l b := by
 have h1 : (addAll (some []) (l ++ [b])).isSome = true := addAll_some_of (m := m) (by simpa using h)
 rw [addAll_append] at h1
 cases e : addAll (some []) l with
 | none => rw [e, addAll_none] at h1; cases h1
 | some t =>
  have := addAll_some e
  rw [List.nil_append] at this
  subst this
  rw [e] at h1
  cases e2 : addAll (some t) [b] with
  | none => rw [e2] at h1; cases h1
  | some u =>
   have : addB (some t) b = some u := e2
   obtain ⟨cs, hcs, hf, _⟩ := addB_some this
   cases hcs
   exact hf
theorem addAll_good {l : List Block} (h : (addAll (some []) l).isSome = true) (hb : ∀ b ∈ l, 1 ≤ pw b.Order) : ∀ x ∈ l, 0 ≤ x.At ∧ 1 ≤ pw x.Order := by
 have hg := goodS_all (l := l) goodS_nil hb
 obtain ⟨t, ht⟩ := Option.isSome_iff_exists.1 h
 have e := addAll_some ht
 rw [List.nil_append] at e
 subst e
 exact hg _ ht
structure DHeap (h : Heap) (z0 z1 : Zone) : Prop where
 zones : h.Zones = [z0, z1]
 may0 : ZoneMay z0
 may1 : ZoneMay z1
 from0 : z0.From = 0
 mid : z0.To = z1.From
 to1 : z1.To = 256
 all : (addAll (some []) (z0.Free ++ z1.Free ++ pagesB h.Lists)).isSome = true
theorem pagesB_ord {l : List PList} : ∀ b ∈ pagesB l, b.Order = 0 := fun b hb => by
 unfold pagesB at hb
 obtain ⟨x, _, hx⟩ := List.mem_flatMap.1 hb
 obtain ⟨p, _, rfl⟩ := List.mem_map.1 hx
 rfl
theorem DHeap.start {h : Heap} {z0 z1 : Zone} (d : DHeap h z0 z1) : DInv (z0, z1) (z0.Free ++ z1.Free) := ⟨d.may0, d.may1, d.from0, d.mid, d.to1, fun i => by rw [covP_append]⟩
theorem DHeap.pw {h : Heap} {z0 z1 : Zone} (d : DHeap h z0 z1) : ∀ b ∈ z0.Free ++ z1.Free ++ pagesB h.Lists, 1 ≤ pw b.Order := fun b hb => by
 rcases List.mem_append.1 hb with hb | hb
 ·rcases List.mem_append.1 hb with hb | hb
  ·exact (zone_good d.may0 b hb).2
  ·exact (zone_good d.may1 b hb).2
 ·rw [pagesB_ord b hb, pw_zero]; omega
theorem DHeap.next {h : Heap} {z0 z1 : Zone} (d : DHeap h z0 z1) {k : Nat} (hk : k < (pagesB h.Lists).length) : NextB (z0.Free ++ z1.Free ++ (pagesB h.Lists).take k) (pagesB h.Lists)[k] := by
 have hall := d.all
 have e : z0.Free ++ z1.Free ++ pagesB h.Lists = (z0.Free ++ z1.Free ++ (pagesB h.Lists).take k) ++ (pagesB h.Lists)[k] :: (pagesB h.Lists).drop (k + 1) := by simp
 rw [e] at hall
 have hf := addAll_fitsL hall
 have ho := pagesB_ord _ (List.getElem_mem hk)
 have hg := addAll_good (addAll_some_of hall) (fun b hb => d.pw b (by
  rcases List.mem_append.1 hb with hb | hb
  ·exact List.mem_append_left _ hb
  ·exact List.mem_append_right _ (List.mem_of_mem_take hb)))
 have hp := pw_zero
 refine ⟨by rw [ho]; decide, ⟨hf.1, ?_⟩, by rw [ho, hp]; omega, hf, hg⟩
 have := hf.2.1
 rw [ho, hp] at this
 omega
theorem DHeap.inv {h : Heap} {z0 z1 : Zone} (d : DHeap h z0 z1) : ∀ k, k ≤ (pagesB h.Lists).length → DInv (backAll (z0, z1) ((pagesB h.Lists).take k)) (z0.Free ++ z1.Free ++ (pagesB h.Lists).take k)
 | 0, _ => by simpa [backAll] using d.start
 | k + 1, hk => by
  have ih := (d.inv k (by omega)).back (d.next (show k < _ by omega))
  rw [backAll_take _ _ _ (by omega), List.take_succ_eq_append_getElem (by omega), ← List.append_assoc]
  exact ih.1
def cntB (l : List PList) (i : Nat) : Nat := (pagesB (l.take i)).length
theorem cnt_succ {l : List PList} {i : Nat} (hi : i < l.length) : cntB l (i + 1) = cntB l i + l[i].Pages.length := by
 unfold cntB
 rw [pagesB_take _ _ hi]
 simp
theorem pagesB_cut (l : List PList) (i : Nat) : pagesB l = pagesB (l.take i) ++ pagesB (l.drop i) := by
 unfold pagesB
 rw [← List.flatMap_append, List.take_append_drop]
theorem cnt_get {l : List PList} {i j : Nat} (hi : i < l.length) (hj : j < l[i].Pages.length) : ∃ h : cntB l i + j < (pagesB l).length, (pagesB l)[cntB l i + j] = pageB (l[i].Pages[j]) := by
 have e := pagesB_cut l i
 have e2 : l.drop i = l[i] :: l.drop (i + 1) := by simp
 have e3 : pagesB (l.drop i) = l[i].Pages.map pageB ++ pagesB (l.drop (i + 1)) := by rw [e2]; rfl
 have hlt : cntB l i + j < (pagesB l).length := by rw [e, e3]; simp [cntB]; omega
 refine ⟨hlt, ?_⟩
 have : (pagesB l)[cntB l i + j]? = some (pageB (l[i].Pages[j])) := by
  rw [e, List.getElem?_append_right (by unfold cntB; omega)]
  have : cntB l i + j - (pagesB (l.take i)).length = j := by unfold cntB; omega
  rw [this, e3, List.getElem?_append_left (by simpa using hj)]
  simp [hj]
 rw [List.getElem?_eq_getElem hlt] at this
 exact Option.some.inj this
theorem cnt_all (l : List PList) : cntB l l.length = (pagesB l).length := by simp [cntB]
end Go.Proofs.YtfommgdbahemfaaDoor
