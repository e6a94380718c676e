/-
  Texts of the claim PagesAllocs, part 17: what its theorem leans on.
-/
import Derived.Test.YtfommgdbahemfaaDoorPackPagesAllocs15
import Derived.Test.YtfommgdbahemfaaDoorPackPagesAllocs16
import Derived.Test.YtfommgdbahemfaaDoorPackPagesAllocs5
set_option linter.unusedVariables false
namespace Go.Proofs.YtfommgdbahemfaaDoor
def typeF (fl : Int) : Int := if 0 ≤ fl ∧ fl ≤ 15 then (if fl / 2 % 4 = 0 then 0 else if fl / 2 % 4 = 1 then 1 else if fl / 2 % 4 = 2 then 2 else -1) else -1
theorem typeF_ok {fl : Int} (h : 0 ≤ typeF fl) : (0 ≤ fl ∧ fl ≤ 15) ∧ tyOk (typeF fl) := by
 unfold typeF tyOk at *
 split at h
 ·rename_i hf
  rw [if_pos hf]
  refine ⟨hf, ?_⟩
  repeat' split
  all_goals omega
 ·omega
def zof (s : Zone × Zone) (zi : Int) : Zone := if zi = 0 then s.1 else s.2
def zset (s : Zone × Zone) (zi : Int) (z : Zone) : Zone × Zone := if zi = 0 then (z, s.2) else (s.1, z)
def heldV (m0 m1 : Int) (s : Zone × Zone) (zi fl : Int) : Int := (if 8 ≤ fl then (if zi = 0 then m0 else m1) / 2 else (if zi = 0 then m0 else m1)) + (if zi = 0 ∧ fl % 2 = 0 then (s.2.To - s.2.From) / 32 else 0)
def enoughP (m0 m1 : Int) (s : Zone × Zone) (zi o fl : Int) : Prop := heldV m0 m1 s zi fl ≤ pagesOf (zof s zi).Free - pw o
instance (m0 m1 : Int) (s : Zone × Zone) (zi o fl : Int) : Decidable (enoughP m0 m1 s zi o fl) := inferInstanceAs (Decidable (_ ≤ _))
inductive FillR (m0 m1 zi t fl : Int) : Zone × Zone → List Int → (Zone × Zone) × List Int → Prop
 | full {s : Zone × Zone} {l : List Int} (h : l.length = 3) : FillR m0 m1 zi t fl s l (s, l)
 | poor {s : Zone × Zone} {l : List Int} (h : l.length < 3) (he : ¬ enoughP m0 m1 s zi 0 fl) : FillR m0 m1 zi t fl s l (s, l)
 | none {s : Zone × Zone} {l : List Int} {u : Zone × Int × Int} (h : l.length < 3) (he : enoughP m0 m1 s zi 0 fl) (ht : TakeR (zof s zi) 0 t u) (hu : u.2.2 ≠ 0) : FillR m0 m1 zi t fl s l (s, l)
 | more {s : Zone × Zone} {l : List Int} {u : Zone × Int × Int} {r : (Zone × Zone) × List Int} (h : l.length < 3) (he : enoughP m0 m1 s zi 0 fl) (ht : TakeR (zof s zi) 0 t u) (hu : u.2.2 = 0) (hr : FillR m0 m1 zi t fl (zset s zi u.1) (l ++ [u.2.1]) r) : FillR m0 m1 zi t fl s l r
theorem FillR.det {m0 m1 zi t fl : Int} {s : Zone × Zone} {l : List Int} {r r' : (Zone × Zone) × List Int} (h : FillR m0 m1 zi t fl s l r) : FillR m0 m1 zi t fl s l r' → r = r' := by
 induction h with
 | full h => intro k; cases k with
  | full => rfl
  | poor h' | none h' | more h' => omega
 | poor h he => intro k; cases k with
  | full h' => omega
  | poor => rfl
  | none _ he' | more _ he' => exact absurd he' he
 | none h he ht hu => intro k; cases k with
  | full h' => omega
  | poor _ he' => exact absurd he he'
  | none => rfl
  | more _ _ ht' hu' => rw [ht.det ht'] at hu; exact absurd hu' hu
 | more h he ht hu hr ih => intro k; cases k with
  | full h' => omega
  | poor _ he' => exact absurd he he'
  | none _ _ ht' hu' => rw [ht.det ht'] at hu; exact absurd hu hu'
  | more _ _ ht' hu' hr' =>
   have e := ht.det ht'
   subst e
   exact ih hr'
def withPg (x : PList) (pg : List Int) : PList := ⟨x.Cpu, x.Zone, x.Ty, pg⟩
def popL (L : List PList) (x : PList) (pg : List Int) : List PList := if pg.length ≤ 1 then L.eraseIdx (kpos L x) else L.set (kpos L x) (withPg x pg.dropLast)
def moreL (L : List PList) (x : PList) (pg : List Int) : List PList := if pg = [] then L else setL L (withPg x pg)
inductive TryR (m0 m1 cpu zi o t fl : Int) (s : Zone × Zone) (L : List PList) : Option ((Zone × Zone) × List PList × Int) → Prop
 | list (ho : o = 0) (hk : khere L ⟨cpu, zi, t, []⟩ = true) (hp : pagesAt L ⟨cpu, zi, t, []⟩ ≠ []) : TryR m0 m1 cpu zi o t fl s L (some (s, popL L ⟨cpu, zi, t, []⟩ (pagesAt L ⟨cpu, zi, t, []⟩), (pagesAt L ⟨cpu, zi, t, []⟩).getLast hp))
 | poor (hn : ¬ (o = 0 ∧ khere L ⟨cpu, zi, t, []⟩ = true)) (he : ¬ enoughP m0 m1 s zi o fl) : TryR m0 m1 cpu zi o t fl s L none
 | none {u : Zone × Int × Int} (hn : ¬ (o = 0 ∧ khere L ⟨cpu, zi, t, []⟩ = true)) (he : enoughP m0 m1 s zi o fl) (ht : TakeR (zof s zi) o t u) (hu : u.2.2 ≠ 0) : TryR m0 m1 cpu zi o t fl s L none
 | big {u : Zone × Int × Int} (ho : 0 < o) (he : enoughP m0 m1 s zi o fl) (ht : TakeR (zof s zi) o t u) (hu : u.2.2 = 0) : TryR m0 m1 cpu zi o t fl s L (some (zset s zi u.1, L, u.2.1))
 | fill {u : Zone × Int × Int} {r : (Zone × Zone) × List Int} (ho : o = 0) (hk : khere L ⟨cpu, zi, t, []⟩ = false) (he : enoughP m0 m1 s zi o fl) (ht : TakeR (zof s zi) o t u) (hu : u.2.2 = 0) (hr : FillR m0 m1 zi t fl (zset s zi u.1) [] r) : TryR m0 m1 cpu zi o t fl s L (some (r.1, moreL L ⟨cpu, zi, t, []⟩ r.2, u.2.1))
theorem TryR.det {m0 m1 cpu zi o t fl : Int} {s : Zone × Zone} {L : List PList} {r r' : Option ((Zone × Zone) × List PList × Int)} (h : TryR m0 m1 cpu zi o t fl s L r) (k : TryR m0 m1 cpu zi o t fl s L r') : r = r' := by
 cases h with
 | list ho hk hp => cases k with
  | list => rfl
  | poor hn | none hn => exact absurd ⟨ho, hk⟩ hn
  | big ho' => omega
  | fill _ hk' => rw [hk] at hk'; cases hk'
 | poor hn he => cases k with
  | list ho hk => exact absurd ⟨ho, hk⟩ hn
  | poor => rfl
  | none _ he' | big _ he' | fill _ _ he' => exact absurd he' he
 | none hn he ht hu => cases k with
  | list ho hk => exact absurd ⟨ho, hk⟩ hn
  | poor _ he' => exact absurd he he'
  | none => rfl
  | big _ _ ht' hu' | fill _ _ _ ht' hu' => rw [ht.det ht'] at hu; exact absurd hu' hu
 | big ho he ht hu => cases k with
  | list ho' => omega
  | poor _ he' => exact absurd he he'
  | none _ _ ht' hu' => rw [ht.det ht'] at hu; exact absurd hu hu'
  | big _ _ ht' => rw [ht.det ht']
  | fill ho' => omega
 | fill ho hk he ht hu hr => cases k with
  | list _ hk' => rw [hk] at hk'; cases hk'
  | poor _ he' => exact absurd he he'
  | none _ _ ht' hu' => rw [ht.det ht'] at hu; exact absurd hu hu'
  | big ho' => omega
  | fill _ _ _ ht' _ hr' =>
   have e := ht.det ht'
   subst e
   rw [hr.det hr']
inductive AttR (m0 m1 cpu o t fl : Int) (s : Zone × Zone) (L : List PList) : Option ((Zone × Zone) × List PList × Int) → Prop
 | high {r : (Zone × Zone) × List PList × Int} (hf : fl % 2 = 0) (h : TryR m0 m1 cpu 1 o t fl s L (some r)) : AttR m0 m1 cpu o t fl s L (some r)
 | low {r : Option ((Zone × Zone) × List PList × Int)} (hf : fl % 2 = 0 → TryR m0 m1 cpu 1 o t fl s L none) (h : TryR m0 m1 cpu 0 o t fl s L r) : AttR m0 m1 cpu o t fl s L r
theorem AttR.det {m0 m1 cpu o t fl : Int} {s : Zone × Zone} {L : List PList} {r r' : Option ((Zone × Zone) × List PList × Int)} (h : AttR m0 m1 cpu o t fl s L r) (k : AttR m0 m1 cpu o t fl s L r') : r = r' := by
 cases h with
 | high hf h => cases k with
  | high _ h' => exact h.det h'
  | low hf' => cases h.det (hf' hf)
 | low hf h => cases k with
  | high hf' h' => cases h'.det (hf hf')
  | low _ h' => exact h.det h'
def minsOf (h : Heap) (i : Nat) : Int := h.Mins.getD i 0
def heapOf (h : Heap) (s : Zone × Zone) (L : List PList) (lv : List Block) : Heap := ⟨[s.1, s.2], h.Mins, h.Cpus, L, lv⟩
def liveWith (h : Heap) (at_ o t : Int) : List Block := insAt h.Live (lbOf h.Live at_) ⟨at_, o, t⟩
inductive AllocR (h : Heap) (cpu o fl : Int) : Heap × Int × Int → Prop
 | bad (hb : heapB h = false) : AllocR h cpu o fl (.zero, 0, 8)
 | range (hb : heapB h = true) (hr : ¬ ((0 ≤ cpu ∧ cpu < h.Cpus) ∧ 0 ≤ o ∧ o ≤ 4)) : AllocR h cpu o fl (.zero, 0, 1)
 | form (hb : heapB h = true) (hr : (0 ≤ cpu ∧ cpu < h.Cpus) ∧ 0 ≤ o ∧ o ≤ 4) (ht : typeF fl < 0) : AllocR h cpu o fl (.zero, 0, 3)
 | once {z0 z1 : Zone} {r : (Zone × Zone) × List PList × Int} (hb : heapB h = true) (hr : (0 ≤ cpu ∧ cpu < h.Cpus) ∧ 0 ≤ o ∧ o ≤ 4) (ht : 0 ≤ typeF fl) (hz : h.Zones = [z0, z1]) (ha : AttR (minsOf h 0) (minsOf h 1) cpu o (typeF fl) fl (z0, z1) h.Lists (some r)) :
   AllocR h cpu o fl (heapOf h r.1 r.2.1 (liveWith h r.2.2 o (typeF fl)), r.2.2, 0)
 | twice {z0 z1 : Zone} {r : (Zone × Zone) × List PList × Int} (hb : heapB h = true) (hr : (0 ≤ cpu ∧ cpu < h.Cpus) ∧ 0 ≤ o ∧ o ≤ 4) (ht : 0 ≤ typeF fl) (hz : h.Zones = [z0, z1]) (ha : AttR (minsOf h 0) (minsOf h 1) cpu o (typeF fl) fl (z0, z1) h.Lists none)
   (h2 : AttR (minsOf h 0) (minsOf h 1) cpu o (typeF fl) fl (backAll (z0, z1) (pagesB h.Lists)) [] (some r)) : AllocR h cpu o fl (heapOf h r.1 r.2.1 (liveWith h r.2.2 o (typeF fl)), r.2.2, 0)
 | room {z0 z1 : Zone} (hb : heapB h = true) (hr : (0 ≤ cpu ∧ cpu < h.Cpus) ∧ 0 ≤ o ∧ o ≤ 4) (ht : 0 ≤ typeF fl) (hz : h.Zones = [z0, z1]) (ha : AttR (minsOf h 0) (minsOf h 1) cpu o (typeF fl) fl (z0, z1) h.Lists none)
   (h2 : AttR (minsOf h 0) (minsOf h 1) cpu o (typeF fl) fl (backAll (z0, z1) (pagesB h.Lists)) [] none) : AllocR h cpu o fl (.zero, 0, 6)
theorem AllocR.det {h : Heap} {cpu o fl : Int} {u v : Heap × Int × Int} (a : AllocR h cpu o fl u) (b : AllocR h cpu o fl v) : u = v := by
 cases a with
 | bad hb => cases b with
  | bad => rfl
  | range hb' | form hb' | once hb' | twice hb' | room hb' => rw [hb] at hb'; cases hb'
 | range hb hr => cases b with
  | bad hb' => rw [hb] at hb'; cases hb'
  | range => rfl
  | form _ hr' | once _ hr' | twice _ hr' | room _ hr' => exact absurd hr' hr
 | form hb hr ht => cases b with
  | bad hb' => rw [hb] at hb'; cases hb'
  | range _ hr' => exact absurd hr hr'
  | form => rfl
  | once _ _ ht' | twice _ _ ht' | room _ _ ht' => omega
 | once hb hr ht hz ha => cases b with
  | bad hb' => rw [hb] at hb'; cases hb'
  | range _ hr' => exact absurd hr hr'
  | form _ _ ht' => omega
  | once _ _ _ hz' ha' => rw [hz] at hz'; simp only [List.cons.injEq, and_true] at hz'; obtain ⟨rfl, rfl⟩ := hz'; cases ha.det ha'; rfl
  | twice _ _ _ hz' ha' | room _ _ _ hz' ha' => rw [hz] at hz'; simp only [List.cons.injEq, and_true] at hz'; obtain ⟨rfl, rfl⟩ := hz'; cases ha.det ha'
 | twice hb hr ht hz ha h2 => cases b with
  | bad hb' => rw [hb] at hb'; cases hb'
  | range _ hr' => exact absurd hr hr'
  | form _ _ ht' => omega
  | once _ _ _ hz' ha' => rw [hz] at hz'; simp only [List.cons.injEq, and_true] at hz'; obtain ⟨rfl, rfl⟩ := hz'; cases ha.det ha'
  | twice _ _ _ hz' ha' h2' => rw [hz] at hz'; simp only [List.cons.injEq, and_true] at hz'; obtain ⟨rfl, rfl⟩ := hz'; cases h2.det h2'; rfl
  | room _ _ _ hz' ha' h2' => rw [hz] at hz'; simp only [List.cons.injEq, and_true] at hz'; obtain ⟨rfl, rfl⟩ := hz'; cases h2.det h2'
 | room hb hr ht hz ha h2 => cases b with
  | bad hb' => rw [hb] at hb'; cases hb'
  | range _ hr' => exact absurd hr hr'
  | form _ _ ht' => omega
  | once _ _ _ hz' ha' => rw [hz] at hz'; simp only [List.cons.injEq, and_true] at hz'; obtain ⟨rfl, rfl⟩ := hz'; cases ha.det ha'
  | twice _ _ _ hz' ha' h2' => rw [hz] at hz'; simp only [List.cons.injEq, and_true] at hz'; obtain ⟨rfl, rfl⟩ := hz'; cases h2.det h2'
  | room => rfl
structure VS (s : Zone × Zone) : Prop where
 may0 : ZoneMay s.1
 may1 : ZoneMay s.2
 from0 : s.1.From = 0
 mid : s.1.To = s.2.From
 to1 : s.2.To = 256
theorem VS.zof {s : Zone × Zone} (h : VS s) (zi : Int) : ZoneMay (zof s zi) := by unfold Go.Proofs.YtfommgdbahemfaaDoor.zof; split; exact h.may0; exact h.may1
theorem VS.set_ {s : Zone × Zone} (h : VS s) {zi : Int} {z' : Zone} (hk : TakeK (Go.Proofs.YtfommgdbahemfaaDoor.zof s zi) z') : VS (zset s zi z') := by
 obtain ⟨k1, k2, k3⟩ := hk
 unfold Go.Proofs.YtfommgdbahemfaaDoor.zof at k2 k3
 unfold zset
 split
 ·rename_i e
  rw [if_pos e] at k2 k3
  exact ⟨k1, h.may1, by rw [k2]; exact h.from0, by rw [k3]; exact h.mid, h.to1⟩
 ·rename_i e
  rw [if_neg e] at k2 k3
  exact ⟨h.may0, k1, h.from0, by rw [k2]; exact h.mid, by rw [k3]; exact h.to1⟩
theorem FillR.vs {m0 m1 zi t fl : Int} {s : Zone × Zone} {l : List Int} {r : (Zone × Zone) × List Int} (h : FillR m0 m1 zi t fl s l r) : VS s → VS r.1 ∧ r.2.length ≤ 3 := by
 induction h with
 | full h => exact fun k => ⟨k, by simp only; omega⟩
 | poor h he => exact fun k => ⟨k, by simp only; omega⟩
 | none h => exact fun k => ⟨k, by simp only; omega⟩
 | more h he ht hu hr ih => exact fun k => ih (k.set_ (ht.keep hu).1)
theorem DInv.vs {s : Zone × Zone} {bs : List Block} (h : DInv s bs) : VS s := ⟨h.may0, h.may1, h.from0, h.mid, h.to1⟩
def freeAt (s : Zone × Zone) (L : List PList) (a : Int) : Prop := (∃ x ∈ s.1.Free, x.At = a) ∨ (∃ x ∈ s.2.Free, x.At = a) ∨ ∃ l ∈ L, a ∈ l.Pages
theorem TryR.found {m0 m1 cpu zi o t fl : Int} {s : Zone × Zone} {L : List PList} {r : (Zone × Zone) × List PList × Int} (h : TryR m0 m1 cpu zi o t fl s L (some r)) (hv : VS s) : VS r.1 ∧ freeAt s L r.2.2 := by
 have fz : ∀ {u : Zone × Int × Int}, TakeR (zof s zi) o t u → u.2.2 = 0 → VS (zset s zi u.1) ∧ freeAt s L u.2.1 := fun {u} ht hu => by
  obtain ⟨k1, ⟨x, hx, e⟩, _⟩ := ht.keep hu
  refine ⟨hv.set_ k1, ?_⟩
  unfold zof at hx
  split at hx
  ·exact .inl ⟨x, hx, e⟩
  ·exact .inr (.inl ⟨x, hx, e⟩)
 cases h with
 | list ho hk hp =>
  refine ⟨hv, .inr (.inr ?_)⟩
  obtain ⟨hl, _⟩ := khere_t hk
  refine ⟨_, List.getElem_mem hl, ?_⟩
  have e := pagesAt_t hk hl
  have hm : ∀ a, a ∈ pagesAt L ⟨cpu, zi, t, []⟩ → a ∈ L[kpos L ⟨cpu, zi, t, []⟩].Pages := fun a ha => by rw [e] at ha; exact ha
  exact hm _ (List.getLast_mem hp)
 | big ho he ht hu => exact fz ht hu
 | fill ho hk he ht hu hr => exact ⟨(hr.vs (fz ht hu).1).1, (fz ht hu).2⟩
theorem AttR.found {m0 m1 cpu o t fl : Int} {s : Zone × Zone} {L : List PList} {r : (Zone × Zone) × List PList × Int} (h : AttR m0 m1 cpu o t fl s L (some r)) (hv : VS s) : VS r.1 ∧ freeAt s L r.2.2 := by
 cases h with
 | high _ h => exact h.found hv
 | low _ h => exact h.found hv
end Go.Proofs.YtfommgdbahemfaaDoor
set_option linter.unusedVariables false
set_option linter.unusedSimpArgs false
namespace Go.Proofs.YtfommgdbahemfaaDoor
open Go.RowKit
theorem AnsX.mono {P : Program} {f : FuncId} {args : List Value} {w : World} {R R' : Value → World → Prop} (h : AnsX P f args w R) (hr : ∀ v w', R v w' → R' v w') : AnsX P f args w R' :=
 ⟨Calls.mono h.out fun e w' ⟨v, he, hv⟩ => ⟨v, he, hr v w' hv⟩⟩
structure HK where
 b : Nat
 g : Nat
 c : Nat
 m : Sli
 lv : Sli
 cp : Int
 M : List Int
 V : List Block
structure HP where
 u0 : ZRow
 u1 : ZRow
 li : Sli
 ls : List LRow
abbrev HK.h (k : HK) (p : HP) : HRow := ⟨⟨some ⟨k.g, 0, none⟩, 2, k.c⟩, k.m, k.cp, p.li, k.lv⟩
structure HS (wb w : World) (k : HK) (p : HP) (s : Zone × Zone) (L : List PList) : Prop where
 blk : Blk w k.b 35 (encH (k.h p))
 zs : ZsOwn w wb.heap.size k.g k.c p.u0 p.u1 s
 mins : Own w wb.heap.size 3 1 encI k.m.A k.m.n k.m.c k.M
 live : Own w wb.heap.size 55 3 encBk k.lv.A k.lv.n k.lv.c k.V
 ls : OwnLs w wb.heap.size p.li p.ls L
 sm : SepM k.m [p.u0, p.u1] p.ls
 sf : SepF k.lv [p.u0, p.u1]
 blo : wb.heap.size ≤ k.b
 base : Ext wb w
def Mine (k : HK) (p : HP) (i : Nat) : Prop := i = k.b ∨ i = k.g ∨ ob p.li = some i ∨ ∃ y ∈ p.ls, ob y.Pages = some i
section
variable {w w' w0 w1 w2 wb : World} {i t : Nat} {k : HK} {p p' p0 p1 p2 : HP} {s : Zone × Zone} {L : List PList} {cs : List Value} {row : Option Nat}
theorem HS.ext (h : HS wb w k p s L) (hx : Ext w w') : HS wb w' k p s L := ⟨h.blk.ext hx, h.zs.ext hx, h.mins.ext hx, h.live.ext hx, h.ls.ext hx, h.sm, h.sf, h.blo, h.base.trans hx⟩
theorem HS.page (h : HS wb w k p s L) {y : LRow} (hy : y ∈ p.ls) : ∃ l ∈ L, OwnL w wb.heap.size y l := by
 obtain ⟨j, hj, rfl⟩ := List.getElem_of_mem hy
 have hj' : j < L.length := by rw [← h.ls.each.len]; exact hj
 exact ⟨_, List.getElem_mem hj', h.ls.each.get j hj hj'⟩
theorem HS.lt (h : HS wb w k p s L) (hi : Mine k p i) : i < w.heap.size := by
 rcases hi with rfl | rfl | hi | ⟨y, hy, hi⟩
 ·exact h.blk.lt
 ·exact h.zs.row.lt_size _ h.zs.own
 ·exact h.ls.row.lt_size i hi
 ·obtain ⟨l, _, hl⟩ := h.page hy
  exact hl.pages.lt_size i hi
theorem HS.not (h : HS wb w k p s L) (hi : w.heap.size ≤ i) : ¬ Mine k p i := fun hm => by have := h.lt hm; omega
theorem HS.low (h : HS wb w k p s L) : wb.heap.size ≤ w.heap.size := Nat.le_of_lt (Nat.lt_of_le_of_lt h.blo h.blk.lt)
structure KpH (w0 : World) (k : HK) (p0 : HP) (w : World) (p : HP) : Prop where
 os : w.os = w0.os
 tape : w.tape = w0.tape
 output : w.output = w0.output
 size : w0.heap.size ≤ w.heap.size
 block : ∀ i, i < w0.heap.size → ¬ Mine k p0 i → w.heap[i]? = w0.heap[i]?
 mine : ∀ i, Mine k p i → Mine k p0 i ∨ w0.heap.size ≤ i
theorem KpH.refl (w : World) (k : HK) (p : HP) : KpH w k p w p := ⟨rfl, rfl, rfl, Nat.le_refl _, fun _ _ _ => rfl, fun _ h => .inl h⟩
theorem KpH.step (h : KpH w0 k p0 w p) (hg : w.grownBy w' row) (hr : ∀ i, row = some i → Mine k p i ∨ w0.heap.size ≤ i) (hp : ∀ i, Mine k p' i → Mine k p i ∨ w0.heap.size ≤ i) : KpH w0 k p0 w' p' :=
 ⟨hg.os.trans h.os, hg.tape.trans h.tape, hg.output.trans h.output, Nat.le_trans h.size hg.size, fun i hi hm => by
  rw [hg.block i (Nat.lt_of_lt_of_le hi h.size) (fun e => by
   rcases hr i e.symm with e | e
   ·rcases h.mine i e with e | e
    ·exact hm e
    ·omega
   ·omega)]
  exact h.block i hi hm, fun i hi => by
  rcases hp i hi with e | e
  ·exact h.mine i e
  ·exact .inr e⟩
theorem KpH.ext (h : KpH w0 k p0 w p) (hx : Ext w w') : KpH w0 k p0 w' p := h.step (hx.gr none) (fun i e => by cases e) (fun i e => .inl e)
theorem KpH.trans (h : KpH w0 k p0 w1 p1) (h' : KpH w1 k p1 w2 p2) : KpH w0 k p0 w2 p2 :=
 ⟨h'.os.trans h.os, h'.tape.trans h.tape, h'.output.trans h.output, Nat.le_trans h.size h'.size, fun i hi hm => by
  rw [h'.block i (Nat.lt_of_lt_of_le hi h.size) (fun e => by rcases h.mine i e with e | e; exact hm e; omega)]
  exact h.block i hi hm, fun i hi => by
  rcases h'.mine i hi with e | e
  ·exact h.mine i e
  ·exact .inr (Nat.le_trans h.size e)⟩
theorem KpH.blk (h : KpH w0 k p0 w p) (hB : Blk w0 i t cs) (hn : ¬ Mine k p0 i) : Blk w i t cs := (h.block i hB.lt hn).trans hB
theorem KpH.not (h : KpH w0 k p0 w p) (hn : ¬ Mine k p0 i) (hi : i < w0.heap.size) : ¬ Mine k p i := fun e => by rcases h.mine i e with e | e; exact hn e; omega
end
def putU (p : HP) (zi : Nat) (u : ZRow) : HP := if zi = 0 then ⟨u, p.u1, p.li, p.ls⟩ else ⟨p.u0, u, p.li, p.ls⟩
theorem putU_li {p : HP} {zi : Nat} {u : ZRow} : (putU p zi u).li = p.li ∧ (putU p zi u).ls = p.ls := by unfold putU; split <;> exact ⟨rfl, rfl⟩
theorem mine_putU {k : HK} {p : HP} {zi : Nat} {u : ZRow} {i : Nat} : Mine k (putU p zi u) i ↔ Mine k p i := by unfold Mine; rw [putU_li.1, putU_li.2]
theorem HS.setZ {wb w0 w w' : World} {k : HK} {p : HP} {s : Zone × Zone} {L : List PList} {zi : Nat} {u : ZRow} {z : Zone} (h0 : HS wb w0 k p s L) (h : HS wb w k p s L) (hz : zi < 2)
  (hO : Own w' wb.heap.size 25 4 encZ (some ⟨k.g, 0, none⟩) 2 k.c ([p.u0, p.u1].set zi u)) (hg : w.grownBy w' (some k.g)) (hn : OwnZ w w0.heap.size u z) : HS wb w' k (putU p zi u) (zset s (zi : Int) z) L := by
 have hG := h.zs.gr hg
 have hx : Ext wb w' := h.base.own h.zs.glo hg
 have hn' := (hn.low h0.low).grT hG rfl
 have hf : ∀ g, ownB u.Types.A u.Types.c = some g → w0.heap.size ≤ g := fun g e => hn.types.row_ge g e
 have hff : ∀ g, ownB u.Free.A u.Free.c = some g → w0.heap.size ≤ g := fun g e => hn.free.row_ge g e
 have hpl : ∀ (j : Nat) (hj : j < p.ls.length) (g : Nat), ownB p.ls[j].Pages.A p.ls[j].Pages.c = some g → g < w0.heap.size := fun j hj g e => h0.lt (.inr (.inr (.inr ⟨_, List.getElem_mem hj, e⟩)))
 have hsm : ∀ us : List ZRow, (∀ v ∈ us, v ∈ [p.u0, p.u1] ∨ v = u) → SepM k.m us p.ls := fun us hu => ⟨h.sm.mins, fun j hj g e v hv => by
  rcases hu v hv with h1 | rfl
  ·exact h.sm.types j hj g e v h1
  ·intro e2; have := hf g e2; have := hpl j hj g e; omega, h.sm.sep⟩
 have hsf : ∀ us : List ZRow, (∀ v ∈ us, v ∈ [p.u0, p.u1] ∨ v = u) → SepF k.lv us := fun us hu v hv g e => by
  rcases hu v hv with h1 | rfl
  ·exact h.sf v h1 g e
  ·intro e2; have := hff g e; have := h0.live.lt_size g e2; omega
 unfold putU zset
 by_cases hzi : zi = 0
 ·subst hzi
  simp only [if_true, Int.ofNat_eq_natCast, Int.natCast_zero] at *
  exact ⟨h.blk.grT hG rfl, ⟨hO, hn', h.zs.z1.grT hG rfl, h.zs.glo, h.zs.pos⟩, h.mins.grT hG rfl, h.live.grT hG rfl, h.ls.grT hG rfl, hsm _ (by simp), hsf _ (by simp), h.blo, hx⟩
 ·obtain rfl : zi = 1 := by omega
  have e1 : ¬ ((1 : Nat) = 0) := by omega
  have e2 : ¬ (((1 : Nat) : Int) = 0) := by omega
  simp only [if_neg e1, if_neg e2] at *
  exact ⟨h.blk.grT hG rfl, ⟨hO, h.zs.z0.grT hG rfl, hn', h.zs.glo, h.zs.pos⟩, h.mins.grT hG rfl, h.live.grT hG rfl, h.ls.grT hG rfl, hsm _ (by simp), hsf _ (by simp), h.blo, hx⟩
theorem OwnLs.own_gr {w w' : World} {lo : Nat} {li : Sli} {ls : List LRow} {L : List PList} (h : OwnLs w lo li ls L) (hg : w.grownBy w' (ob li)) : GrT w w' 84 := h.row.gr hg
theorem sepM_of {m : Sli} {us : List ZRow} {ls ls' : List LRow} (h : SepM m us ls) (hs : SepL ls') (ho : ∀ y ∈ ls', ∃ x ∈ ls, ob y.Pages = ob x.Pages) : SepM m us ls' := by
 refine ⟨fun j hj g e => ?_, fun j hj g e v hv => ?_, hs⟩
 ·obtain ⟨x, hx, e2⟩ := ho _ (List.getElem_mem hj)
  obtain ⟨i, hi, rfl⟩ := List.getElem_of_mem hx
  exact h.mins i hi g (e2.symm.trans e)
 ·obtain ⟨x, hx, e2⟩ := ho _ (List.getElem_mem hj)
  obtain ⟨i, hi, rfl⟩ := List.getElem_of_mem hx
  exact h.types i hi g (e2.symm.trans e) v hv
theorem HS.setRow {wb w w' : World} {k : HK} {p : HP} {s : Zone × Zone} {L : List PList} {i : Nat} {y : LRow} {l : PList} (h : HS wb w k p s L) (hi : i < p.ls.length) (hO : Own w' wb.heap.size 84 4 encL p.li.A p.li.n p.li.c (p.ls.set i y)) (hg : w.grownBy w' (ob p.li)) (hy : OwnL w wb.heap.size y l)
  (ho : ob y.Pages = ob p.ls[i].Pages) : HS wb w' k ⟨p.u0, p.u1, p.li, p.ls.set i y⟩ s (L.set i l) := by
 have hG := h.ls.own_gr hg
 have hx : Ext wb w' := ext_grown h.base hg (Nat.le_refl _) h.ls.row.row_ge
 have hm : ∀ z ∈ p.ls.set i y, ∃ x ∈ p.ls, ob z.Pages = ob x.Pages := fun z hz => by
  rcases List.mem_or_eq_of_mem_set hz with h1 | rfl
  ·exact ⟨z, h1, rfl⟩
  ·exact ⟨_, List.getElem_mem hi, ho⟩
 have hlt : ∀ x ∈ p.ls, ∀ g, ob x.Pages = some g → g < w.heap.size := fun x hx g e => h.lt (.inr (.inr (.inr ⟨x, hx, e⟩)))
 refine ⟨h.blk.grT hG rfl, h.zs.grT hG rfl, h.mins.grT hG rfl, h.live.grT hG rfl, ⟨hO, ?_⟩, sepM_of h.sm (PSep.set_ (li := p.li) h.sm.sep hlt hi (fun g e => .inl (ho ▸ e))).sep hm, h.sf, h.blo, hx⟩
 exact All2.setAt (R := OwnL w wb.heap.size) h.ls.each (hy.grT hG rfl) (fun j h1 h2 _ hh => hh.grT hG rfl)
theorem All2.erase {α β : Type} {R : α → β → Prop} {xs : List α} {ys : List β} (h : All2 R xs ys) (i : Nat) : All2 R (xs.eraseIdx i) (ys.eraseIdx i) := by
 refine ⟨by rw [List.length_eraseIdx, List.length_eraseIdx, h.len], fun j h1 h2 => ?_⟩
 have hl := h.len
 rw [List.length_eraseIdx] at h1 h2
 rw [List.getElem_eraseIdx, List.getElem_eraseIdx]
 split
 ·exact h.get j _ _
 ·exact h.get (j + 1) _ _
theorem HS.cutRow {wb w w1 w' : World} {k : HK} {p : HP} {s : Zone × Zone} {L : List PList} {i : Nat} (h : HS wb w k p s L) (hO : Own w1 wb.heap.size 84 4 encL p.li.A (p.li.n - 1) p.li.c (p.ls.eraseIdx i)) (hg : w.grownBy w1 (ob p.li))
  (hb : Blk w' k.b 35 (encH (k.h ⟨p.u0, p.u1, ⟨p.li.A, p.li.n - 1, p.li.c⟩, p.ls.eraseIdx i⟩))) (hg2 : w1.grownBy w' (some k.b)) : HS wb w' k ⟨p.u0, p.u1, ⟨p.li.A, p.li.n - 1, p.li.c⟩, p.ls.eraseIdx i⟩ s (L.eraseIdx i) := by
 have hG := h.ls.own_gr hg
 have hG2 := (h.blk.grT hG rfl).gr hg2
 have hx : Ext wb w' := (ext_grown h.base hg (Nat.le_refl _) h.ls.row.row_ge).own h.blo hg2
 refine ⟨hb, (h.zs.grT hG rfl).grT hG2 rfl, (h.mins.grT hG rfl).grT hG2 rfl, (h.live.grT hG rfl).grT hG2 rfl, ⟨hO.grT hG2 rfl, (h.ls.each.erase i).mono fun _ _ hh => (hh.grT hG rfl).grT hG2 rfl⟩, sepM_of h.sm ?_ (fun y hy => ⟨y, List.mem_of_mem_eraseIdx hy, rfl⟩), h.sf, h.blo, hx⟩
 exact sepL_iff.2 ((sepL_iff.1 h.sm.sep).sublist (List.eraseIdx_sublist _ _))
set_option maxHeartbeats 1000000 in
theorem push3_ans (k : HK) (p : HP) (s : Zone × Zone) (L : List PList) (x : PList) (y : LRow) (a : Int) (wb w0 : World) (H : HS wb w0 k p s L) (hk : rowKey y x) (hyn : y.Pages = .nil) (hxn : x.Pages = [])
  (hs : LsS L) (hn : (p.li.n + 1) * 48 ≤ 140737488355328) (hpn : ∀ l ∈ L, l.Pages.length ≤ 1000) :
  AnsX Tryd.prog 123 [.pointer (some ⟨k.b, 0, none⟩), .agg (encL y).toArray, .int .i64 a] w0 fun v w' => ∃ p', HS wb w' k p' s (setL L ⟨x.Cpu, x.Zone, x.Ty, pagesAt L x ++ [a]⟩) ∧ KpH w0 k p w' p' := by
 obtain ⟨F, hF⟩ : ∃ F : World → Prop, F = fun v => ZsOwn v wb.heap.size k.g k.c p.u0 p.u1 s ∧ Own v wb.heap.size 3 1 encI k.m.A k.m.n k.m.c k.M ∧ Own v wb.heap.size 55 3 encBk k.lv.A k.lv.n k.lv.c k.V ∧ KpH w0 k p v p := ⟨_, rfl⟩
 have hZ := H.zs
 have hM := H.mins
 have hV := H.live
 have hL := H.ls
 have hb := H.blk
 have hFr : Frm F w0 := by
  rw [hF]
  exact ⟨⟨hZ, hM, hV, KpH.refl _ _ _⟩, fun v v' hx hP => ⟨hP.1.ext hx, hP.2.1.ext hx, hP.2.2.1.ext hx, hP.2.2.2.ext hx⟩⟩
 have hFt : ∀ (v v' : World) (row : Option Nat), v.grownBy v' row → (∀ i, row = some i → i = k.b ∨ ownB p.li.A p.li.c = some i ∨ w0.heap.size ≤ i) → F v → F v' := fun v v' row hg hrr hP => by
  rw [hF] at hP ⊢
  refine ⟨hP.1.parts hg ((hZ.row.away hL hb rfl rfl).ne hrr) ((hZ.z0.free.away hL hb rfl rfl).ne hrr) ((hZ.z0.types.away hL hb rfl rfl).ne hrr) ((hZ.z1.free.away hL hb rfl rfl).ne hrr) ((hZ.z1.types.away hL hb rfl rfl).ne hrr), hP.2.1.apart hg ((hM.away hL hb rfl rfl).ne hrr), hP.2.2.1.apart hg ((hV.away hL hb rfl rfl).ne hrr), hP.2.2.2.step hg (fun i e => ?_) (fun i e => .inl e)⟩
  rcases hrr i e with h | h | h
  ·exact .inl (.inl h)
  ·exact .inl (.inr (.inr (.inl h)))
  ·exact .inr h
 have hFp : ∀ (i : Nat) (hi : i < p.ls.length) (v v' : World), v.grownBy v' (ownB p.ls[i].Pages.A p.ls[i].Pages.c) → F v → F v' := fun i hi v v' hg hP => by
  rw [hF] at hP ⊢
  have hpi := (hL.each.get i hi (by rw [← hL.each.len]; exact hi)).pages
  exact ⟨hP.1.parts hg (hZ.row.ne_own hpi rfl) (hZ.z0.free.ne_own hpi rfl) (fun j e e2 => H.sm.types i hi j e2 p.u0 (by simp) e) (hZ.z1.free.ne_own hpi rfl) (fun j e e2 => H.sm.types i hi j e2 p.u1 (by simp) e), hP.2.1.apart hg (fun j e e2 => H.sm.mins i hi j e2 e), hP.2.2.1.apart hg (hV.ne_own hpi rfl), hP.2.2.2.step hg (fun j e => .inl (.inr (.inr (.inr ⟨_, List.getElem_mem hi, e⟩)))) (fun i e => .inl e)⟩
 refine (push_ans ⟨some ⟨k.g, 0, none⟩, 2, k.c⟩ k.m k.cp p.li k.lv L p.ls x y a F k.b wb w0 H.base H.blo hb hL hk hyn hxn H.sm.sep hs hn hpn hFr hFt hFp).mono fun v w' hv => ?_
 obtain ⟨hx, hF', li', ls', hb', hL', hP⟩ := hv
 rw [hF] at hF'
 obtain ⟨hZ', hM', hV', hK⟩ := hF'
 have hold : ∀ j (hj : j < ls'.length) (g : Nat), ownB ls'[j].Pages.A ls'[j].Pages.c = some g → (∃ i, ∃ hi : i < p.ls.length, ownB p.ls[i].Pages.A p.ls[i].Pages.c = some g) ∨ w0.heap.size ≤ g := fun j hj g e => by
  rcases hP.of _ (List.getElem_mem hj) g e with ⟨z, hz, e2⟩ | h
  ·obtain ⟨i, hi, rfl⟩ := List.getElem_of_mem hz
   exact .inl ⟨i, hi, e2⟩
  ·exact .inr h
 refine ⟨⟨p.u0, p.u1, li', ls'⟩, ⟨hb', hZ', hM', hV', hL', ⟨fun j hj g e => ?_, fun j hj g e v hv => ?_, hP.sep⟩, H.sf, H.blo, hx⟩, hK.step (World.grownBy.refl _ none) (fun i e => by cases e) (fun i hi => ?_)⟩
 ·rcases hold j hj g e with ⟨i, hi, e2⟩ | h
  ·exact H.sm.mins i hi g e2
  ·intro e2; have := hM.lt_size g e2; omega
 ·rcases hold j hj g e with ⟨i, hi, e2⟩ | h
  ·exact H.sm.types i hi g e2 v hv
  ·intro e2
   simp only [List.mem_cons, List.not_mem_nil, or_false] at hv
   rcases hv with rfl | rfl
   ·have := hZ.z0.types.lt_size g e2; omega
   ·have := hZ.z1.types.lt_size g e2; omega
 ·rcases hi with h | h | h | ⟨z, hz, h⟩
  ·exact .inl (.inl h)
  ·exact .inl (.inr (.inl h))
  ·exact (hP.row i h).imp (fun e => .inr (.inr (.inl e))) id
  ·exact (hP.of z hz i h).imp (fun e => .inr (.inr (.inr e))) id
end Go.Proofs.YtfommgdbahemfaaDoor
set_option linter.unusedVariables false
namespace Go.Proofs.YtfommgdbahemfaaDoor
open Go.RowKit
noncomputable def pagesV (z : Zone) : Int × Int := if zoneB z then (pagesOf z.Free, 0) else (0, 8)
theorem freeOf_ans (A : Option Addr) (n c : Nat) (l : List Block) (w : World) (hl : Sl w 3 encBk A n l) (hok : ∀ b ∈ l, 0 ≤ b.Order ∧ b.Order ≤ 4) (hn : n ≤ 100000000000000000) :
  Ans Tryd.prog 129 [.slice A n c] w fun v _ => v = .int .i64 (pagesOf l) := by
 refine ans_of Tryd.func129 rfl Tryd.ntmps129 rfl ?_
 have hw := Ext.refl w
 have hA := hl.base
 repeat' (first | (show CW _ _ _ _ _ _; first | refine CW.seq ?_ | refine CW.region ?_ | refine CW.block ?_ | refine CW.condtr rfl (by with_reducible rfl) ?_ | refine CW.condfr rfl (by with_reducible rfl) ?_ | refine CW.condd_t rfl (by omega) ?_ | refine CW.condd_f rfl (by omega) ?_ | refine CW.condn_t rfl (by omega) ?_ | refine CW.condn_f rfl (by omega) ?_ | refine CW.condd rfl (fun h => ?_) (fun h => ?_) | refine CW.condn rfl (fun h => ?_) (fun h => ?_) | refine CW.condt rfl ?_ | refine CW.condf rfl ?_ | refine CW.cond rfl (fun h => ?_) (fun h => ?_) | refine CW.skip ?_ | refine CW.ret ?_ | refine CW.exit ?_) | (show Post _ _ _ _ _; first | refine Post.seq ?_ | refine Post.seq_ret ?_ | refine Post.seq_exit ?_ | refine Post.hit ?_ | refine Post.pass rfl ?_ | refine Post.blk ?_ | refine Post.blk_ret ?_ | refine Post.again_exit ?_ | refine Post.again_ret ?_ | refine Post.np ?_) | refine SW.nil ?_ | (show SW _ _ _ _ (⟨_, _, _, _, _, some _⟩ :: _) _ _; first | refine SW.want_t rfl rfl (by with_reducible rfl) ?_ | refine SW.want_f rfl rfl (by with_reducible rfl) ?_ | refine SW.skip_t rfl rfl (by with_reducible rfl) rfl ?_ | refine SW.skip_f rfl rfl (by with_reducible rfl) rfl ?_ | refine SW.skip_u rfl rfl (by with_reducible rfl) rfl ?_ | refine SW.splitd_t rfl rfl rfl (by omega) ?_ | refine SW.splitd_f rfl rfl rfl (by omega) ?_ | refine SW.splitn_t rfl rfl rfl (by omega) ?_ | refine SW.splitn_f rfl rfl rfl (by omega) ?_ | refine SW.splitd rfl rfl rfl (fun h => ?_) (fun h => ?_) | refine SW.splitn rfl rfl rfl (fun h => ?_) (fun h => ?_) | refine SW.want rfl rfl ?_ | refine SW.skip rfl rfl rfl rfl ?_ | refine SW.skipu rfl rfl rfl ?_ | refine SW.split rfl rfl rfl (fun h => ?_) (fun h => ?_)) | refine SW.pure rfl rfl ?_ | (show SW _ _ _ _ (⟨_, Op.fieldAddr _ _ _, _, _, _, none⟩ :: _) _ _; refine SW.st (st_field rfl) rfl ?_) | (show SW _ _ _ _ (⟨_, Op.nilCheck _, _, _, _, none⟩ :: _) _ _; refine SW.st (st_nilCheck rfl) rfl ?_) | (show SW _ _ _ _ (⟨_, Op.build _ _, _, _, _, none⟩ :: _) _ _; refine SW.st (st_build rfl rfl) rfl ?_) | (show SW _ _ _ _ (⟨_, Op.binOp _ _ _ _ _, _, _, _, none⟩ :: _) _ _; first | refine SW.st (st_add rfl rfl (by omega) (by omega)) rfl ?_ | refine SW.st (st_sub rfl rfl (by omega) (by omega)) rfl ?_ | refine SW.st (st_mul rfl rfl (by omega) (by omega)) rfl ?_ | refine SW.st (st_quo rfl rfl (by omega) (by omega) (by omega)) rfl ?_ | refine SW.st (st_rem rfl rfl (by omega)) rfl ?_) | (show SW _ _ _ _ (⟨_, Op.indexAddr _ _ _, _, _, _, none⟩ :: _) _ _; refine SW.st (st_indexN rfl rfl (by assumption) (by omega)) rfl ?_) | (show SW _ _ _ _ (⟨_, Op.call ⟨.builtin .len, _, _⟩, _, _, _, none⟩ :: _) _ _; refine SW.st (st_len rfl) rfl ?_) | (show SW _ _ _ _ (⟨_, Op.call ⟨.builtin .cap, _, _⟩, _, _, _, none⟩ :: _) _ _; refine SW.st (st_cap rfl) rfl ?_))
 refine CW.loop (fun k : Nat => [(0, .slice A n c), (3, .int .i64 (pagesOf (l.take k))), (4, .int .i64 (k : Int))]) (fun k w' => k ≤ n ∧ Ext w w' ∧ 0 ≤ pagesOf (l.take k) ∧ pagesOf (l.take k) ≤ 16 * (k : Int)) (fun k => n - k) 0 ⟨rfl, rfl, rfl, trivial⟩ ⟨by omega, hw, by simp [pagesOf], by simp [pagesOf]⟩ ?_
 clear hw
 rintro k w' ⟨hk, hw, hs0, hs1⟩
 by_cases hkn : k < n
 ·have hkl := hl.lt hkn
  obtain ⟨f1, f2⟩ := hok l[k] (List.getElem_mem hkl)
  have hp := pw_le f1 f2
  have et := pagesOf_take l k hkl
  repeat' (first | (show CW _ _ _ _ _ _; first | refine CW.seq ?_ | refine CW.region ?_ | refine CW.block ?_ | refine CW.condtr rfl (by with_reducible rfl) ?_ | refine CW.condfr rfl (by with_reducible rfl) ?_ | refine CW.condd_t rfl (by omega) ?_ | refine CW.condd_f rfl (by omega) ?_ | refine CW.condn_t rfl (by omega) ?_ | refine CW.condn_f rfl (by omega) ?_ | refine CW.condd rfl (fun h => ?_) (fun h => ?_) | refine CW.condn rfl (fun h => ?_) (fun h => ?_) | refine CW.condt rfl ?_ | refine CW.condf rfl ?_ | refine CW.cond rfl (fun h => ?_) (fun h => ?_) | refine CW.skip ?_ | refine CW.ret ?_ | refine CW.exit ?_) | (show Post _ _ _ _ _; first | refine Post.seq ?_ | refine Post.seq_ret ?_ | refine Post.seq_exit ?_ | refine Post.hit ?_ | refine Post.pass rfl ?_ | refine Post.blk ?_ | refine Post.blk_ret ?_ | refine Post.again_exit ?_ | refine Post.again_ret ?_ | refine Post.np ?_) | refine SW.nil ?_ | (show SW _ _ _ _ (⟨_, _, _, _, _, some _⟩ :: _) _ _; first | refine SW.want_t rfl rfl (by with_reducible rfl) ?_ | refine SW.want_f rfl rfl (by with_reducible rfl) ?_ | refine SW.skip_t rfl rfl (by with_reducible rfl) rfl ?_ | refine SW.skip_f rfl rfl (by with_reducible rfl) rfl ?_ | refine SW.skip_u rfl rfl (by with_reducible rfl) rfl ?_ | refine SW.splitd_t rfl rfl rfl (by omega) ?_ | refine SW.splitd_f rfl rfl rfl (by omega) ?_ | refine SW.splitn_t rfl rfl rfl (by omega) ?_ | refine SW.splitn_f rfl rfl rfl (by omega) ?_ | refine SW.splitd rfl rfl rfl (fun h => ?_) (fun h => ?_) | refine SW.splitn rfl rfl rfl (fun h => ?_) (fun h => ?_) | refine SW.want rfl rfl ?_ | refine SW.skip rfl rfl rfl rfl ?_ | refine SW.skipu rfl rfl rfl ?_ | refine SW.split rfl rfl rfl (fun h => ?_) (fun h => ?_)) | refine SW.pure rfl rfl ?_ | (show SW _ _ _ _ (⟨_, Op.fieldAddr _ _ _, _, _, _, none⟩ :: _) _ _; refine SW.st (st_field rfl) rfl ?_) | (show SW _ _ _ _ (⟨_, Op.nilCheck _, _, _, _, none⟩ :: _) _ _; refine SW.st (st_nilCheck rfl) rfl ?_) | (show SW _ _ _ _ (⟨_, Op.build _ _, _, _, _, none⟩ :: _) _ _; refine SW.st (st_build rfl rfl) rfl ?_) | (show SW _ _ _ _ (⟨_, Op.binOp _ _ _ _ _, _, _, _, none⟩ :: _) _ _; first | refine SW.st (st_add rfl rfl (by omega) (by omega)) rfl ?_ | refine SW.st (st_sub rfl rfl (by omega) (by omega)) rfl ?_ | refine SW.st (st_mul rfl rfl (by omega) (by omega)) rfl ?_ | refine SW.st (st_quo rfl rfl (by omega) (by omega) (by omega)) rfl ?_ | refine SW.st (st_rem rfl rfl (by omega)) rfl ?_) | (show SW _ _ _ _ (⟨_, Op.indexAddr _ _ _, _, _, _, none⟩ :: _) _ _; refine SW.st (st_indexN rfl rfl (by assumption) (by omega)) rfl ?_) | (show SW _ _ _ _ (⟨_, Op.call ⟨.builtin .len, _, _⟩, _, _, _, none⟩ :: _) _ _; refine SW.st (st_len rfl) rfl ?_) | (show SW _ _ _ _ (⟨_, Op.call ⟨.builtin .cap, _, _⟩, _, _, _, none⟩ :: _) _ _; refine SW.st (st_cap rfl) rfl ?_) | (show SW _ _ _ _ (⟨_, Op.load _ _, _, _, _, none⟩ :: _) _ _; first | refine SW.st (st_loads rfl rfl ((hl.all hkn))) rfl ?_ | refine SW.st (st_loadsx hw rfl rfl ((hl.all hkn))) rfl ?_ | refine SW.st (st_load rfl (hl.fld hkn rfl)) rfl ?_ | refine SW.st (st_loadx hw rfl (hl.fld hkn rfl)) rfl ?_) | (show SW _ _ _ _ (⟨_, Op.call ⟨.value (.func _), _, _⟩, _, _, _, none⟩ :: _) _ _; (refine SW.call rfl rfl (power_ans _ (by omega) _) ?_; intro v w1 hw1 hv; subst hv; replace hw := Ext.trans hw hw1; clear hw1)))
  exact Post.again (k + 1) ⟨rfl, by rw [et]; rfl, rfl, trivial⟩ (by omega) ⟨by omega, hw, by omega, by omega⟩
 ·repeat' (first | (show CW _ _ _ _ _ _; first | refine CW.seq ?_ | refine CW.region ?_ | refine CW.block ?_ | refine CW.condtr rfl (by with_reducible rfl) ?_ | refine CW.condfr rfl (by with_reducible rfl) ?_ | refine CW.condd_t rfl (by omega) ?_ | refine CW.condd_f rfl (by omega) ?_ | refine CW.condn_t rfl (by omega) ?_ | refine CW.condn_f rfl (by omega) ?_ | refine CW.condd rfl (fun h => ?_) (fun h => ?_) | refine CW.condn rfl (fun h => ?_) (fun h => ?_) | refine CW.condt rfl ?_ | refine CW.condf rfl ?_ | refine CW.cond rfl (fun h => ?_) (fun h => ?_) | refine CW.skip ?_ | refine CW.ret ?_ | refine CW.exit ?_) | (show Post _ _ _ _ _; first | refine Post.seq ?_ | refine Post.seq_ret ?_ | refine Post.seq_exit ?_ | refine Post.hit ?_ | refine Post.pass rfl ?_ | refine Post.blk ?_ | refine Post.blk_ret ?_ | refine Post.again_exit ?_ | refine Post.again_ret ?_ | refine Post.np ?_) | refine SW.nil ?_ | (show SW _ _ _ _ (⟨_, _, _, _, _, some _⟩ :: _) _ _; first | refine SW.want_t rfl rfl (by with_reducible rfl) ?_ | refine SW.want_f rfl rfl (by with_reducible rfl) ?_ | refine SW.skip_t rfl rfl (by with_reducible rfl) rfl ?_ | refine SW.skip_f rfl rfl (by with_reducible rfl) rfl ?_ | refine SW.skip_u rfl rfl (by with_reducible rfl) rfl ?_ | refine SW.splitd_t rfl rfl rfl (by omega) ?_ | refine SW.splitd_f rfl rfl rfl (by omega) ?_ | refine SW.splitn_t rfl rfl rfl (by omega) ?_ | refine SW.splitn_f rfl rfl rfl (by omega) ?_ | refine SW.splitd rfl rfl rfl (fun h => ?_) (fun h => ?_) | refine SW.splitn rfl rfl rfl (fun h => ?_) (fun h => ?_) | refine SW.want rfl rfl ?_ | refine SW.skip rfl rfl rfl rfl ?_ | refine SW.skipu rfl rfl rfl ?_ | refine SW.split rfl rfl rfl (fun h => ?_) (fun h => ?_)) | refine SW.pure rfl rfl ?_ | (show SW _ _ _ _ (⟨_, Op.fieldAddr _ _ _, _, _, _, none⟩ :: _) _ _; refine SW.st (st_field rfl) rfl ?_) | (show SW _ _ _ _ (⟨_, Op.nilCheck _, _, _, _, none⟩ :: _) _ _; refine SW.st (st_nilCheck rfl) rfl ?_) | (show SW _ _ _ _ (⟨_, Op.build _ _, _, _, _, none⟩ :: _) _ _; refine SW.st (st_build rfl rfl) rfl ?_) | (show SW _ _ _ _ (⟨_, Op.binOp _ _ _ _ _, _, _, _, none⟩ :: _) _ _; first | refine SW.st (st_add rfl rfl (by omega) (by omega)) rfl ?_ | refine SW.st (st_sub rfl rfl (by omega) (by omega)) rfl ?_ | refine SW.st (st_mul rfl rfl (by omega) (by omega)) rfl ?_ | refine SW.st (st_quo rfl rfl (by omega) (by omega) (by omega)) rfl ?_ | refine SW.st (st_rem rfl rfl (by omega)) rfl ?_) | (show SW _ _ _ _ (⟨_, Op.indexAddr _ _ _, _, _, _, none⟩ :: _) _ _; refine SW.st (st_indexN rfl rfl (by assumption) (by omega)) rfl ?_) | (show SW _ _ _ _ (⟨_, Op.call ⟨.builtin .len, _, _⟩, _, _, _, none⟩ :: _) _ _; refine SW.st (st_len rfl) rfl ?_) | (show SW _ _ _ _ (⟨_, Op.call ⟨.builtin .cap, _, _⟩, _, _, _, none⟩ :: _) _ _; refine SW.st (st_cap rfl) rfl ?_))
  refine Post.ret1 rfl rfl ⟨_, rfl, hw, ?_⟩
  rw [List.take_of_length_le (by have := hl.len; omega)]
theorem ZPages_ans (r : ZRow) (z : Zone) (w : World) (hr : RdZ w r z) (hf : r.Free.n ≤ 100000000000000000) (ht : r.Types.n ≤ 1000000000000000000) (h1 : -9223372036854775808 ≤ r.From ∧ r.From ≤ 9223372036854775807) (h2 : -9223372036854775808 ≤ r.To ∧ r.To ≤ 9223372036854775807) :
  Ans Tryd.prog 124 [.agg (encZ r).toArray] w fun v _ => v = .tuple #[.int .i64 (pagesV z).1, .int .i64 (pagesV z).2] := by
 refine ans_of Tryd.func124 rfl Tryd.ntmps124 rfl ?_
 refine CW.seq (CW.region (SW.box rfl rfl fun b1 w1 hw hb1b hb1 => ?_))
 have hFl := hr.free.len
 obtain ⟨q, hq⟩ : ∃ q, zoneB z = q := ⟨_, rfl⟩
 have c1 : ∀ w', Ext w w' → Ans Tryd.prog 18 [.agg (encZ r).toArray] w' fun v _ => v = .int .i64 (if q then 0 else 8) := fun w' h => by
  have := Zcheck_ans r z w' (hr.ext h) (by omega) (by omega) h1 h2
  rwa [hq] at this
 cases q
 ·have e : pagesV z = (0, 8) := by simp [pagesV, hq]
  rw [e]
  simp only [Bool.false_eq_true, if_false] at c1
  repeat' (first | (show CW _ _ _ _ _ _; first | refine CW.seq ?_ | refine CW.region ?_ | refine CW.block ?_ | refine CW.condtr rfl (by with_reducible rfl) ?_ | refine CW.condfr rfl (by with_reducible rfl) ?_ | refine CW.condd_t rfl (by omega) ?_ | refine CW.condd_f rfl (by omega) ?_ | refine CW.condn_t rfl (by omega) ?_ | refine CW.condn_f rfl (by omega) ?_ | refine CW.condd rfl (fun h => ?_) (fun h => ?_) | refine CW.condn rfl (fun h => ?_) (fun h => ?_) | refine CW.condt rfl ?_ | refine CW.condf rfl ?_ | refine CW.cond rfl (fun h => ?_) (fun h => ?_) | refine CW.skip ?_ | refine CW.ret ?_ | refine CW.exit ?_) | (show Post _ _ _ _ _; first | refine Post.seq ?_ | refine Post.seq_ret ?_ | refine Post.seq_exit ?_ | refine Post.hit ?_ | refine Post.pass rfl ?_ | refine Post.blk ?_ | refine Post.blk_ret ?_ | refine Post.again_exit ?_ | refine Post.again_ret ?_ | refine Post.np ?_) | refine SW.nil ?_ | (show SW _ _ _ _ (⟨_, _, _, _, _, some _⟩ :: _) _ _; first | refine SW.want_t rfl rfl (by with_reducible rfl) ?_ | refine SW.want_f rfl rfl (by with_reducible rfl) ?_ | refine SW.skip_t rfl rfl (by with_reducible rfl) rfl ?_ | refine SW.skip_f rfl rfl (by with_reducible rfl) rfl ?_ | refine SW.skip_u rfl rfl (by with_reducible rfl) rfl ?_ | refine SW.splitd_t rfl rfl rfl (by omega) ?_ | refine SW.splitd_f rfl rfl rfl (by omega) ?_ | refine SW.splitn_t rfl rfl rfl (by omega) ?_ | refine SW.splitn_f rfl rfl rfl (by omega) ?_ | refine SW.splitd rfl rfl rfl (fun h => ?_) (fun h => ?_) | refine SW.splitn rfl rfl rfl (fun h => ?_) (fun h => ?_) | refine SW.want rfl rfl ?_ | refine SW.skip rfl rfl rfl rfl ?_ | refine SW.skipu rfl rfl rfl ?_ | refine SW.split rfl rfl rfl (fun h => ?_) (fun h => ?_)) | refine SW.pure rfl rfl ?_ | (show SW _ _ _ _ (⟨_, Op.fieldAddr _ _ _, _, _, _, none⟩ :: _) _ _; refine SW.st (st_field rfl) rfl ?_) | (show SW _ _ _ _ (⟨_, Op.nilCheck _, _, _, _, none⟩ :: _) _ _; refine SW.st (st_nilCheck rfl) rfl ?_) | (show SW _ _ _ _ (⟨_, Op.build _ _, _, _, _, none⟩ :: _) _ _; refine SW.st (st_build rfl rfl) rfl ?_) | (show SW _ _ _ _ (⟨_, Op.binOp _ _ _ _ _, _, _, _, none⟩ :: _) _ _; first | refine SW.st (st_add rfl rfl (by omega) (by omega)) rfl ?_ | refine SW.st (st_sub rfl rfl (by omega) (by omega)) rfl ?_ | refine SW.st (st_mul rfl rfl (by omega) (by omega)) rfl ?_ | refine SW.st (st_quo rfl rfl (by omega) (by omega) (by omega)) rfl ?_ | refine SW.st (st_rem rfl rfl (by omega)) rfl ?_) | (show SW _ _ _ _ (⟨_, Op.indexAddr _ _ _, _, _, _, none⟩ :: _) _ _; refine SW.st (st_indexN rfl rfl (by assumption) (by omega)) rfl ?_) | (show SW _ _ _ _ (⟨_, Op.call ⟨.builtin .len, _, _⟩, _, _, _, none⟩ :: _) _ _; refine SW.st (st_len rfl) rfl ?_) | (show SW _ _ _ _ (⟨_, Op.call ⟨.builtin .cap, _, _⟩, _, _, _, none⟩ :: _) _ _; refine SW.st (st_cap rfl) rfl ?_) | (show SW _ _ _ _ (⟨_, Op.load _ _, _, _, _, none⟩ :: _) _ _; first | refine SW.st (st_loads rfl rfl ((fun _ _ => hb1.cell))) rfl ?_ | refine SW.st (st_loadsx hw rfl rfl ((fun _ _ => hb1.cell))) rfl ?_) | (show SW _ _ _ _ (⟨_, Op.call ⟨.value (.func _), _, _⟩, _, _, _, none⟩ :: _) _ _; (refine SW.call rfl rfl (c1 _ hw) ?_; intro v w1 hw1 hv; subst hv; replace hw := Ext.trans hw hw1; replace hb1 := hb1.ext hw1; clear hw1)))
  exact Post.ret2 rfl rfl rfl ⟨_, rfl, hw, rfl⟩
 ·simp only [if_true] at c1
  have hz := zoneB_iff.1 hq
  have e : pagesV z = (pagesOf z.Free, 0) := by simp [pagesV, hq]
  rw [e]
  repeat' (first | (show CW _ _ _ _ _ _; first | refine CW.seq ?_ | refine CW.region ?_ | refine CW.block ?_ | refine CW.condtr rfl (by with_reducible rfl) ?_ | refine CW.condfr rfl (by with_reducible rfl) ?_ | refine CW.condd_t rfl (by omega) ?_ | refine CW.condd_f rfl (by omega) ?_ | refine CW.condn_t rfl (by omega) ?_ | refine CW.condn_f rfl (by omega) ?_ | refine CW.condd rfl (fun h => ?_) (fun h => ?_) | refine CW.condn rfl (fun h => ?_) (fun h => ?_) | refine CW.condt rfl ?_ | refine CW.condf rfl ?_ | refine CW.cond rfl (fun h => ?_) (fun h => ?_) | refine CW.skip ?_ | refine CW.ret ?_ | refine CW.exit ?_) | (show Post _ _ _ _ _; first | refine Post.seq ?_ | refine Post.seq_ret ?_ | refine Post.seq_exit ?_ | refine Post.hit ?_ | refine Post.pass rfl ?_ | refine Post.blk ?_ | refine Post.blk_ret ?_ | refine Post.again_exit ?_ | refine Post.again_ret ?_ | refine Post.np ?_) | refine SW.nil ?_ | (show SW _ _ _ _ (⟨_, _, _, _, _, some _⟩ :: _) _ _; first | refine SW.want_t rfl rfl (by with_reducible rfl) ?_ | refine SW.want_f rfl rfl (by with_reducible rfl) ?_ | refine SW.skip_t rfl rfl (by with_reducible rfl) rfl ?_ | refine SW.skip_f rfl rfl (by with_reducible rfl) rfl ?_ | refine SW.skip_u rfl rfl (by with_reducible rfl) rfl ?_ | refine SW.splitd_t rfl rfl rfl (by omega) ?_ | refine SW.splitd_f rfl rfl rfl (by omega) ?_ | refine SW.splitn_t rfl rfl rfl (by omega) ?_ | refine SW.splitn_f rfl rfl rfl (by omega) ?_ | refine SW.splitd rfl rfl rfl (fun h => ?_) (fun h => ?_) | refine SW.splitn rfl rfl rfl (fun h => ?_) (fun h => ?_) | refine SW.want rfl rfl ?_ | refine SW.skip rfl rfl rfl rfl ?_ | refine SW.skipu rfl rfl rfl ?_ | refine SW.split rfl rfl rfl (fun h => ?_) (fun h => ?_)) | refine SW.pure rfl rfl ?_ | (show SW _ _ _ _ (⟨_, Op.fieldAddr _ _ _, _, _, _, none⟩ :: _) _ _; refine SW.st (st_field rfl) rfl ?_) | (show SW _ _ _ _ (⟨_, Op.nilCheck _, _, _, _, none⟩ :: _) _ _; refine SW.st (st_nilCheck rfl) rfl ?_) | (show SW _ _ _ _ (⟨_, Op.build _ _, _, _, _, none⟩ :: _) _ _; refine SW.st (st_build rfl rfl) rfl ?_) | (show SW _ _ _ _ (⟨_, Op.binOp _ _ _ _ _, _, _, _, none⟩ :: _) _ _; first | refine SW.st (st_add rfl rfl (by omega) (by omega)) rfl ?_ | refine SW.st (st_sub rfl rfl (by omega) (by omega)) rfl ?_ | refine SW.st (st_mul rfl rfl (by omega) (by omega)) rfl ?_ | refine SW.st (st_quo rfl rfl (by omega) (by omega) (by omega)) rfl ?_ | refine SW.st (st_rem rfl rfl (by omega)) rfl ?_) | (show SW _ _ _ _ (⟨_, Op.indexAddr _ _ _, _, _, _, none⟩ :: _) _ _; refine SW.st (st_indexN rfl rfl (by assumption) (by omega)) rfl ?_) | (show SW _ _ _ _ (⟨_, Op.call ⟨.builtin .len, _, _⟩, _, _, _, none⟩ :: _) _ _; refine SW.st (st_len rfl) rfl ?_) | (show SW _ _ _ _ (⟨_, Op.call ⟨.builtin .cap, _, _⟩, _, _, _, none⟩ :: _) _ _; refine SW.st (st_cap rfl) rfl ?_) | (show SW _ _ _ _ (⟨_, Op.load _ _, _, _, _, none⟩ :: _) _ _; first | refine SW.st (st_loads rfl rfl ((fun _ _ => hb1.cell))) rfl ?_ | refine SW.st (st_loadsx hw rfl rfl ((fun _ _ => hb1.cell))) rfl ?_ | refine SW.st (st_load rfl (hb1.cell rfl)) rfl ?_ | refine SW.st (st_loadx hw rfl (hb1.cell rfl)) rfl ?_) | (show SW _ _ _ _ (⟨_, Op.call ⟨.value (.func _), _, _⟩, _, _, _, none⟩ :: _) _ _; (refine SW.call rfl rfl (c1 _ hw) ?_; intro v w1 hw1 hv; subst hv; replace hw := Ext.trans hw hw1; replace hb1 := hb1.ext hw1; clear hw1)))
  refine CW.loop (fun k : Nat => [(5, .int .i64 (pagesOf (z.Free.take k))), (14, .slice r.Free.A r.Free.n r.Free.c), (15, .int .i64 (r.Free.n : Int)), (16, .int .i64 (k : Int))]) (fun k w' => k ≤ r.Free.n ∧ Ext w w') (fun k => r.Free.n - k) 0 ⟨rfl, rfl, rfl, rfl, trivial⟩ ⟨by omega, hw⟩ ?_
  clear hw hb1
  rintro k w' ⟨hk, hw⟩
  have hA := hr.free.base
  by_cases hkn : k < r.Free.n
  ·have hkl := hr.free.lt hkn
   obtain ⟨f1, f2, _⟩ := (hz.blk k hkl).1
   have hp := pw_le f1 f2
   have et := pagesOf_take z.Free k hkl
   have hs := pagesOf_bound hz k (by omega)
   repeat' (first | (show CW _ _ _ _ _ _; first | refine CW.seq ?_ | refine CW.region ?_ | refine CW.block ?_ | refine CW.condtr rfl (by with_reducible rfl) ?_ | refine CW.condfr rfl (by with_reducible rfl) ?_ | refine CW.condd_t rfl (by omega) ?_ | refine CW.condd_f rfl (by omega) ?_ | refine CW.condn_t rfl (by omega) ?_ | refine CW.condn_f rfl (by omega) ?_ | refine CW.condd rfl (fun h => ?_) (fun h => ?_) | refine CW.condn rfl (fun h => ?_) (fun h => ?_) | refine CW.condt rfl ?_ | refine CW.condf rfl ?_ | refine CW.cond rfl (fun h => ?_) (fun h => ?_) | refine CW.skip ?_ | refine CW.ret ?_ | refine CW.exit ?_) | (show Post _ _ _ _ _; first | refine Post.seq ?_ | refine Post.seq_ret ?_ | refine Post.seq_exit ?_ | refine Post.hit ?_ | refine Post.pass rfl ?_ | refine Post.blk ?_ | refine Post.blk_ret ?_ | refine Post.again_exit ?_ | refine Post.again_ret ?_ | refine Post.np ?_) | refine SW.nil ?_ | (show SW _ _ _ _ (⟨_, _, _, _, _, some _⟩ :: _) _ _; first | refine SW.want_t rfl rfl (by with_reducible rfl) ?_ | refine SW.want_f rfl rfl (by with_reducible rfl) ?_ | refine SW.skip_t rfl rfl (by with_reducible rfl) rfl ?_ | refine SW.skip_f rfl rfl (by with_reducible rfl) rfl ?_ | refine SW.skip_u rfl rfl (by with_reducible rfl) rfl ?_ | refine SW.splitd_t rfl rfl rfl (by omega) ?_ | refine SW.splitd_f rfl rfl rfl (by omega) ?_ | refine SW.splitn_t rfl rfl rfl (by omega) ?_ | refine SW.splitn_f rfl rfl rfl (by omega) ?_ | refine SW.splitd rfl rfl rfl (fun h => ?_) (fun h => ?_) | refine SW.splitn rfl rfl rfl (fun h => ?_) (fun h => ?_) | refine SW.want rfl rfl ?_ | refine SW.skip rfl rfl rfl rfl ?_ | refine SW.skipu rfl rfl rfl ?_ | refine SW.split rfl rfl rfl (fun h => ?_) (fun h => ?_)) | refine SW.pure rfl rfl ?_ | (show SW _ _ _ _ (⟨_, Op.fieldAddr _ _ _, _, _, _, none⟩ :: _) _ _; refine SW.st (st_field rfl) rfl ?_) | (show SW _ _ _ _ (⟨_, Op.nilCheck _, _, _, _, none⟩ :: _) _ _; refine SW.st (st_nilCheck rfl) rfl ?_) | (show SW _ _ _ _ (⟨_, Op.build _ _, _, _, _, none⟩ :: _) _ _; refine SW.st (st_build rfl rfl) rfl ?_) | (show SW _ _ _ _ (⟨_, Op.binOp _ _ _ _ _, _, _, _, none⟩ :: _) _ _; first | refine SW.st (st_add rfl rfl (by omega) (by omega)) rfl ?_ | refine SW.st (st_sub rfl rfl (by omega) (by omega)) rfl ?_ | refine SW.st (st_mul rfl rfl (by omega) (by omega)) rfl ?_ | refine SW.st (st_quo rfl rfl (by omega) (by omega) (by omega)) rfl ?_ | refine SW.st (st_rem rfl rfl (by omega)) rfl ?_) | (show SW _ _ _ _ (⟨_, Op.indexAddr _ _ _, _, _, _, none⟩ :: _) _ _; refine SW.st (st_indexN rfl rfl (by assumption) (by omega)) rfl ?_) | (show SW _ _ _ _ (⟨_, Op.call ⟨.builtin .len, _, _⟩, _, _, _, none⟩ :: _) _ _; refine SW.st (st_len rfl) rfl ?_) | (show SW _ _ _ _ (⟨_, Op.call ⟨.builtin .cap, _, _⟩, _, _, _, none⟩ :: _) _ _; refine SW.st (st_cap rfl) rfl ?_) | (show SW _ _ _ _ (⟨_, Op.load _ _, _, _, _, none⟩ :: _) _ _; first | refine SW.st (st_loads rfl rfl ((hr.free.all hkn))) rfl ?_ | refine SW.st (st_loadsx hw rfl rfl ((hr.free.all hkn))) rfl ?_))
   refine SW.alloc rfl fun b7 w3 hw3 hb7b hb7 => ?_
   have hb7w : w.heap.size ≤ b7 := Nat.le_trans hw.size hb7b
   replace hw := Ext.trans hw hw3
   repeat' (first | (show CW _ _ _ _ _ _; first | refine CW.seq ?_ | refine CW.region ?_ | refine CW.block ?_ | refine CW.condtr rfl (by with_reducible rfl) ?_ | refine CW.condfr rfl (by with_reducible rfl) ?_ | refine CW.condd_t rfl (by omega) ?_ | refine CW.condd_f rfl (by omega) ?_ | refine CW.condn_t rfl (by omega) ?_ | refine CW.condn_f rfl (by omega) ?_ | refine CW.condd rfl (fun h => ?_) (fun h => ?_) | refine CW.condn rfl (fun h => ?_) (fun h => ?_) | refine CW.condt rfl ?_ | refine CW.condf rfl ?_ | refine CW.cond rfl (fun h => ?_) (fun h => ?_) | refine CW.skip ?_ | refine CW.ret ?_ | refine CW.exit ?_) | (show Post _ _ _ _ _; first | refine Post.seq ?_ | refine Post.seq_ret ?_ | refine Post.seq_exit ?_ | refine Post.hit ?_ | refine Post.pass rfl ?_ | refine Post.blk ?_ | refine Post.blk_ret ?_ | refine Post.again_exit ?_ | refine Post.again_ret ?_ | refine Post.np ?_) | refine SW.nil ?_ | (show SW _ _ _ _ (⟨_, _, _, _, _, some _⟩ :: _) _ _; first | refine SW.want_t rfl rfl (by with_reducible rfl) ?_ | refine SW.want_f rfl rfl (by with_reducible rfl) ?_ | refine SW.skip_t rfl rfl (by with_reducible rfl) rfl ?_ | refine SW.skip_f rfl rfl (by with_reducible rfl) rfl ?_ | refine SW.skip_u rfl rfl (by with_reducible rfl) rfl ?_ | refine SW.splitd_t rfl rfl rfl (by omega) ?_ | refine SW.splitd_f rfl rfl rfl (by omega) ?_ | refine SW.splitn_t rfl rfl rfl (by omega) ?_ | refine SW.splitn_f rfl rfl rfl (by omega) ?_ | refine SW.splitd rfl rfl rfl (fun h => ?_) (fun h => ?_) | refine SW.splitn rfl rfl rfl (fun h => ?_) (fun h => ?_) | refine SW.want rfl rfl ?_ | refine SW.skip rfl rfl rfl rfl ?_ | refine SW.skipu rfl rfl rfl ?_ | refine SW.split rfl rfl rfl (fun h => ?_) (fun h => ?_)) | refine SW.pure rfl rfl ?_ | (show SW _ _ _ _ (⟨_, Op.fieldAddr _ _ _, _, _, _, none⟩ :: _) _ _; refine SW.st (st_field rfl) rfl ?_) | (show SW _ _ _ _ (⟨_, Op.nilCheck _, _, _, _, none⟩ :: _) _ _; refine SW.st (st_nilCheck rfl) rfl ?_) | (show SW _ _ _ _ (⟨_, Op.build _ _, _, _, _, none⟩ :: _) _ _; refine SW.st (st_build rfl rfl) rfl ?_) | (show SW _ _ _ _ (⟨_, Op.binOp _ _ _ _ _, _, _, _, none⟩ :: _) _ _; first | refine SW.st (st_add rfl rfl (by omega) (by omega)) rfl ?_ | refine SW.st (st_sub rfl rfl (by omega) (by omega)) rfl ?_ | refine SW.st (st_mul rfl rfl (by omega) (by omega)) rfl ?_ | refine SW.st (st_quo rfl rfl (by omega) (by omega) (by omega)) rfl ?_ | refine SW.st (st_rem rfl rfl (by omega)) rfl ?_) | (show SW _ _ _ _ (⟨_, Op.indexAddr _ _ _, _, _, _, none⟩ :: _) _ _; refine SW.st (st_indexN rfl rfl (by assumption) (by omega)) rfl ?_) | (show SW _ _ _ _ (⟨_, Op.call ⟨.builtin .len, _, _⟩, _, _, _, none⟩ :: _) _ _; refine SW.st (st_len rfl) rfl ?_) | (show SW _ _ _ _ (⟨_, Op.call ⟨.builtin .cap, _, _⟩, _, _, _, none⟩ :: _) _ _; refine SW.st (st_cap rfl) rfl ?_))
   refine SW.storeAgg hb7 rfl rfl rfl rfl (Enc.one (enc := encBk) _) fun w4 hb7' hg => ?_
   replace hw := hw.own hb7w hg
   repeat' (first | (show CW _ _ _ _ _ _; first | refine CW.seq ?_ | refine CW.region ?_ | refine CW.block ?_ | refine CW.condtr rfl (by with_reducible rfl) ?_ | refine CW.condfr rfl (by with_reducible rfl) ?_ | refine CW.condd_t rfl (by omega) ?_ | refine CW.condd_f rfl (by omega) ?_ | refine CW.condn_t rfl (by omega) ?_ | refine CW.condn_f rfl (by omega) ?_ | refine CW.condd rfl (fun h => ?_) (fun h => ?_) | refine CW.condn rfl (fun h => ?_) (fun h => ?_) | refine CW.condt rfl ?_ | refine CW.condf rfl ?_ | refine CW.cond rfl (fun h => ?_) (fun h => ?_) | refine CW.skip ?_ | refine CW.ret ?_ | refine CW.exit ?_) | (show Post _ _ _ _ _; first | refine Post.seq ?_ | refine Post.seq_ret ?_ | refine Post.seq_exit ?_ | refine Post.hit ?_ | refine Post.pass rfl ?_ | refine Post.blk ?_ | refine Post.blk_ret ?_ | refine Post.again_exit ?_ | refine Post.again_ret ?_ | refine Post.np ?_) | refine SW.nil ?_ | (show SW _ _ _ _ (⟨_, _, _, _, _, some _⟩ :: _) _ _; first | refine SW.want_t rfl rfl (by with_reducible rfl) ?_ | refine SW.want_f rfl rfl (by with_reducible rfl) ?_ | refine SW.skip_t rfl rfl (by with_reducible rfl) rfl ?_ | refine SW.skip_f rfl rfl (by with_reducible rfl) rfl ?_ | refine SW.skip_u rfl rfl (by with_reducible rfl) rfl ?_ | refine SW.splitd_t rfl rfl rfl (by omega) ?_ | refine SW.splitd_f rfl rfl rfl (by omega) ?_ | refine SW.splitn_t rfl rfl rfl (by omega) ?_ | refine SW.splitn_f rfl rfl rfl (by omega) ?_ | refine SW.splitd rfl rfl rfl (fun h => ?_) (fun h => ?_) | refine SW.splitn rfl rfl rfl (fun h => ?_) (fun h => ?_) | refine SW.want rfl rfl ?_ | refine SW.skip rfl rfl rfl rfl ?_ | refine SW.skipu rfl rfl rfl ?_ | refine SW.split rfl rfl rfl (fun h => ?_) (fun h => ?_)) | refine SW.pure rfl rfl ?_ | (show SW _ _ _ _ (⟨_, Op.fieldAddr _ _ _, _, _, _, none⟩ :: _) _ _; refine SW.st (st_field rfl) rfl ?_) | (show SW _ _ _ _ (⟨_, Op.nilCheck _, _, _, _, none⟩ :: _) _ _; refine SW.st (st_nilCheck rfl) rfl ?_) | (show SW _ _ _ _ (⟨_, Op.build _ _, _, _, _, none⟩ :: _) _ _; refine SW.st (st_build rfl rfl) rfl ?_) | (show SW _ _ _ _ (⟨_, Op.binOp _ _ _ _ _, _, _, _, none⟩ :: _) _ _; first | refine SW.st (st_add rfl rfl (by omega) (by omega)) rfl ?_ | refine SW.st (st_sub rfl rfl (by omega) (by omega)) rfl ?_ | refine SW.st (st_mul rfl rfl (by omega) (by omega)) rfl ?_ | refine SW.st (st_quo rfl rfl (by omega) (by omega) (by omega)) rfl ?_ | refine SW.st (st_rem rfl rfl (by omega)) rfl ?_) | (show SW _ _ _ _ (⟨_, Op.indexAddr _ _ _, _, _, _, none⟩ :: _) _ _; refine SW.st (st_indexN rfl rfl (by assumption) (by omega)) rfl ?_) | (show SW _ _ _ _ (⟨_, Op.call ⟨.builtin .len, _, _⟩, _, _, _, none⟩ :: _) _ _; refine SW.st (st_len rfl) rfl ?_) | (show SW _ _ _ _ (⟨_, Op.call ⟨.builtin .cap, _, _⟩, _, _, _, none⟩ :: _) _ _; refine SW.st (st_cap rfl) rfl ?_) | (show SW _ _ _ _ (⟨_, Op.load _ _, _, _, _, none⟩ :: _) _ _; first | refine SW.st (st_load rfl (hb7'.cell rfl)) rfl ?_ | refine SW.st (st_loadx hw rfl (hb7'.cell rfl)) rfl ?_) | (refine SW.st (st_shl (r := pw (z.Free[k]).Order) rfl rfl (by omega) (by omega) (by simp [pw]) (by omega) (by omega)) rfl ?_))
   exact Post.again (k + 1) ⟨by rw [et]; rfl, rfl, rfl, rfl, trivial⟩ (by omega) ⟨by omega, hw⟩
  ·repeat' (first | (show CW _ _ _ _ _ _; first | refine CW.seq ?_ | refine CW.region ?_ | refine CW.block ?_ | refine CW.condtr rfl (by with_reducible rfl) ?_ | refine CW.condfr rfl (by with_reducible rfl) ?_ | refine CW.condd_t rfl (by omega) ?_ | refine CW.condd_f rfl (by omega) ?_ | refine CW.condn_t rfl (by omega) ?_ | refine CW.condn_f rfl (by omega) ?_ | refine CW.condd rfl (fun h => ?_) (fun h => ?_) | refine CW.condn rfl (fun h => ?_) (fun h => ?_) | refine CW.condt rfl ?_ | refine CW.condf rfl ?_ | refine CW.cond rfl (fun h => ?_) (fun h => ?_) | refine CW.skip ?_ | refine CW.ret ?_ | refine CW.exit ?_) | (show Post _ _ _ _ _; first | refine Post.seq ?_ | refine Post.seq_ret ?_ | refine Post.seq_exit ?_ | refine Post.hit ?_ | refine Post.pass rfl ?_ | refine Post.blk ?_ | refine Post.blk_ret ?_ | refine Post.again_exit ?_ | refine Post.again_ret ?_ | refine Post.np ?_) | refine SW.nil ?_ | (show SW _ _ _ _ (⟨_, _, _, _, _, some _⟩ :: _) _ _; first | refine SW.want_t rfl rfl (by with_reducible rfl) ?_ | refine SW.want_f rfl rfl (by with_reducible rfl) ?_ | refine SW.skip_t rfl rfl (by with_reducible rfl) rfl ?_ | refine SW.skip_f rfl rfl (by with_reducible rfl) rfl ?_ | refine SW.skip_u rfl rfl (by with_reducible rfl) rfl ?_ | refine SW.splitd_t rfl rfl rfl (by omega) ?_ | refine SW.splitd_f rfl rfl rfl (by omega) ?_ | refine SW.splitn_t rfl rfl rfl (by omega) ?_ | refine SW.splitn_f rfl rfl rfl (by omega) ?_ | refine SW.splitd rfl rfl rfl (fun h => ?_) (fun h => ?_) | refine SW.splitn rfl rfl rfl (fun h => ?_) (fun h => ?_) | refine SW.want rfl rfl ?_ | refine SW.skip rfl rfl rfl rfl ?_ | refine SW.skipu rfl rfl rfl ?_ | refine SW.split rfl rfl rfl (fun h => ?_) (fun h => ?_)) | refine SW.pure rfl rfl ?_ | (show SW _ _ _ _ (⟨_, Op.fieldAddr _ _ _, _, _, _, none⟩ :: _) _ _; refine SW.st (st_field rfl) rfl ?_) | (show SW _ _ _ _ (⟨_, Op.nilCheck _, _, _, _, none⟩ :: _) _ _; refine SW.st (st_nilCheck rfl) rfl ?_) | (show SW _ _ _ _ (⟨_, Op.build _ _, _, _, _, none⟩ :: _) _ _; refine SW.st (st_build rfl rfl) rfl ?_) | (show SW _ _ _ _ (⟨_, Op.binOp _ _ _ _ _, _, _, _, none⟩ :: _) _ _; first | refine SW.st (st_add rfl rfl (by omega) (by omega)) rfl ?_ | refine SW.st (st_sub rfl rfl (by omega) (by omega)) rfl ?_ | refine SW.st (st_mul rfl rfl (by omega) (by omega)) rfl ?_ | refine SW.st (st_quo rfl rfl (by omega) (by omega) (by omega)) rfl ?_ | refine SW.st (st_rem rfl rfl (by omega)) rfl ?_) | (show SW _ _ _ _ (⟨_, Op.indexAddr _ _ _, _, _, _, none⟩ :: _) _ _; refine SW.st (st_indexN rfl rfl (by assumption) (by omega)) rfl ?_) | (show SW _ _ _ _ (⟨_, Op.call ⟨.builtin .len, _, _⟩, _, _, _, none⟩ :: _) _ _; refine SW.st (st_len rfl) rfl ?_) | (show SW _ _ _ _ (⟨_, Op.call ⟨.builtin .cap, _, _⟩, _, _, _, none⟩ :: _) _ _; refine SW.st (st_cap rfl) rfl ?_))
   refine Post.ret2 rfl rfl rfl ⟨_, rfl, hw, ?_⟩
   rw [List.take_of_length_le (by omega)]
end Go.Proofs.YtfommgdbahemfaaDoor
