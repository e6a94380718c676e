/-
  Texts of the claim SlabDestroys, part 13: what its theorem leans on.
-/
import Derived.Test.YtigikedbffjeiaaGreatPackSlabDestroys6
import Derived.Test.YtigikedbffjeiaaGreatPackSlabDestroys12
import Derived.Test.YtigikedbffjeiaaGreatPackSlabDestroys1
import Derived.Lib.ConvBytes
import Derived.Laws.Strings
set_option linter.unusedVariables false
set_option linter.unusedSimpArgs false
namespace Go.Proofs.YtigikedbffjeiaaGreat
open Go.RowKit
theorem apart_ne2 {a b:Sli} (h:apart a b∨apart b a) : ownB b.A b.c=none∨ownB b.A b.c≠ownB a.A a.c:=by
 cases e:ownB b.A b.c with
 | none=>exact .inl rfl
 | some g =>
  right
  intro e2
  rcases h with h|h
  ·exact h g e2.symm e
  ·exact h g e e2.symm
structure OwnHB (w:World) (lo hi:Nat) (r:HRow) (h:Heap) : Prop where
 cpus:r.Cpus=h.Cpus
 mins:Own w lo 3 1 encI r.Mins.A r.Mins.n r.Mins.c h.Mins
 live:Own w lo 94 3 encBk r.Live.A r.Live.n r.Live.c h.Live
 parts:∃ zs ls,OwnZs w lo r.Zones zs h.Zones∧OwnLs w lo r.Lists ls h.Lists∧(∀ g,ownB r.Mins.A r.Mins.c=some g→g<hi)∧(∀ u∈zs,∀ g,ownB u.Types.A u.Types.c=some g→g<hi)∧(∀ u∈ls,∀ g,ownB u.Pages.A u.Pages.c=some g→g<hi)
section
variable {w w':World} {lo hi t g:Nat} {r:HRow} {h:Heap}
theorem OwnH.between (a:OwnH w lo r h) : OwnHB w lo w.heap.size r h:=by
 obtain ⟨zs,hz⟩:=a.zones
 obtain ⟨ls,hl⟩:=a.lists
 refine ⟨a.cpus,a.mins,a.live,zs,ls,hz,hl,a.mins.lt_size,fun u hu g e => ?_,fun u hu g e => ?_⟩
 ·obtain ⟨j,hj,rfl⟩:=List.getElem_of_mem hu
  exact (hz.each.get j hj (by rw [← hz.each.len];exact hj)).types.lt_size g e
 ·obtain ⟨j,hj,rfl⟩:=List.getElem_of_mem hu
  exact (hl.each.get j hj (by rw [← hl.each.len];exact hj)).pages.lt_size g e
theorem OwnHB.own (a:OwnHB w lo hi r h) : OwnH w lo r h:=by
 obtain ⟨zs,ls,hz,hl,_⟩:=a.parts
 exact ⟨a.cpus,a.mins,a.live,⟨zs,hz⟩,⟨ls,hl⟩⟩
theorem OwnHB.ext (a:OwnHB w lo hi r h) (hx:Ext w w') : OwnHB w' lo hi r h:=by
 obtain ⟨zs,ls,hz,hl,hb⟩:=a.parts
 exact ⟨a.cpus,a.mins.ext hx,a.live.ext hx,zs,ls,hz.ext hx,hl.ext hx,hb⟩
theorem OwnHB.grT (a:OwnHB w lo hi r h) (hG:GrT w w' t) (hne:(Nat.beq t 3 || (Nat.beq t 94 || (Nat.beq t 72 || Nat.beq t 75)))=false) : OwnHB w' lo hi r h:=by
 obtain ⟨zs,ls,hz,hl,hb⟩:=a.parts
 simp only [Bool.or_eq_false_iff] at hne
 obtain ⟨h1,h2,h3,h4⟩:=hne
 exact ⟨a.cpus,a.mins.grT hG h1,a.live.grT hG h2,zs,ls,hz.grT hG (by simp [h1,h2,h3]),hl.grT hG (by simp [h1,h4]),hb⟩
theorem OwnHB.atInt (a:OwnHB w lo hi r h) (hg:w.grownBy w' (some g)) (hG:GrT w w' 3) (hb:g<lo∨hi≤g) : OwnHB w' lo hi r h:=by
 obtain ⟨zs,ls,hz,hl,b1,b2,b3⟩:=a.parts
 have key:∀ k,lo≤k→k<hi→(some g:Option Nat)≠some k:=fun k h1 h2 e=>by cases e;omega
 refine ⟨a.cpus,a.mins.apart hg fun k e=>key k (a.mins.row_ge k e) (b1 k e),a.live.grT hG rfl,zs,ls,⟨hz.row.grT hG rfl,⟨hz.each.len,fun j h1 h2 => ?_⟩⟩,⟨hl.row.grT hG rfl,⟨hl.each.len,fun j h1 h2 => ?_⟩⟩,b1,b2,b3⟩
 ·have hj:=hz.each.get j h1 h2
  exact ⟨hj.from_,hj.to_,hj.free.grT hG rfl,hj.types.apart hg fun k e=>key k (hj.types.row_ge k e) (b2 _ (List.getElem_mem h1) k e)⟩
 ·have hj:=hl.each.get j h1 h2
  exact ⟨hj.cpu,hj.zone,hj.ty,hj.pages.apart hg fun k e=>key k (hj.pages.row_ge k e) (b3 _ (List.getElem_mem h1) k e)⟩
end
theorem Own.up {α : Type} {w:World} {lo lo':Nat} {e:TypeId} {sz:Nat} {enc : α → List Value} {A:Option Addr} {n c:Nat} {l:List α} (h:Own w lo e sz enc A n c l) (hr:∀ k,ownB A c=some k→lo'≤k) : Own w lo' e sz enc A n c l:=⟨h.len,by
 rcases h.row with h0|⟨hc,g,cur,rfl,_,h3⟩
 ·exact .inl h0
 ·exact .inr ⟨hc,g,cur,rfl,hr g (by simp [ownB,Nat.pos_iff_ne_zero.1 hc]),h3⟩⟩
structure SXR (w:World) (lo:Nat) (r:SRow) (s:KSystem) (cs0 cs:List CRow) : Prop where
 words:Own w lo 3 1 encI r.Words.A r.Words.n r.Words.c s.Words
 heap:OwnH w lo r.Heap s.Heap
 row:Own w lo 44 6 encC r.Caches.A r.Caches.n r.Caches.c cs0
 each:All2 (OwnC w lo) cs s.Caches
 pair:cs.Pairwise CApart
abbrev SX (w:World) (lo:Nat) (r:SRow) (s:KSystem) (cs:List CRow) : Prop:=SXR w lo r s cs cs
structure SI (w:World) (lo:Nat) (r:SRow) (s:KSystem) (cs:List CRow) : Prop where
 ints:∃ m1 m2,lo≤m1∧m1≤m2∧(∀ g,ownB r.Words.A r.Words.c=some g→g<m1)∧OwnHB w m1 m2 r.Heap s.Heap∧All2 (OwnC w m2) cs s.Caches
theorem pair_set {cs:List CRow} (h:cs.Pairwise CApart) {i:Nat} {u:CRow} (hu:∀ (j:Nat) (hj:j<cs.length),j≠i→CApart u cs[j]∧CApart cs[j] u) : (cs.set i u).Pairwise CApart:=by
 rw [List.pairwise_iff_getElem] at h ⊢
 intro a b ha hb hab
 rw [List.length_set] at ha hb
 rw [List.getElem_set,List.getElem_set]
 split
 ·split
  ·omega
  ·exact (hu b hb (by omega)).1
 ·split
  ·exact (hu a ha (by omega)).2
  ·exact h a b ha hb hab
theorem apart_symm {a b:Sli} (h:apart a b) : apart b a:=fun k h1 h2=>h k h2 h1
theorem CApart.symm {u v:CRow} (h:CApart u v) : CApart v u:=⟨apart_symm h.names,apart_symm h.slabs,apart_symm h.active⟩
theorem pair_get {cs:List CRow} (h:cs.Pairwise CApart) {i j:Nat} (hi:i<cs.length) (hj:j<cs.length) (hij:j≠i) : CApart cs[i] cs[j]:=by
 have hp:=List.pairwise_iff_getElem.1 h
 rcases Nat.lt_or_ge i j with g|g
 ·exact hp i j hi hj g
 ·exact (hp j i hj hi (by omega)).symm
section
variable {w w':World} {lo t:Nat} {r:SRow} {s:KSystem} {cs0 cs:List CRow}
theorem SXR.ext (h:SXR w lo r s cs0 cs) (hx:Ext w w') : SXR w' lo r s cs0 cs:=⟨h.words.ext hx,h.heap.ext hx,h.row.ext hx,h.each.mono fun _ _ h=>h.ext hx,h.pair⟩
theorem SXR.low {lo':Nat} (h:SXR w lo r s cs0 cs) (hl:lo'≤lo) : SXR w lo' r s cs0 cs:=⟨h.words.low hl,h.heap.low hl,h.row.low hl,h.each.mono fun _ _ h=>h.low hl,h.pair⟩
theorem SXR.grT (h:SXR w lo r s cs0 cs) (hG:GrT w w' t) (hne:(Nat.beq t 44 || (Nat.beq t 9 || (Nat.beq t 46 || (Nat.beq t 3 || (Nat.beq t 94 || (Nat.beq t 72 || Nat.beq t 75))))))=false) : SXR w' lo r s cs0 cs:=by
 simp only [Bool.or_eq_false_iff] at hne
 obtain ⟨h1,h2,h3,h4,h5,h6,h7⟩:=hne
 exact ⟨h.words.grT hG h4,h.heap.grT hG (by simp [h4,h5,h6,h7]),h.row.grT hG h1,h.each.mono fun _ _ h=>h.grT hG (by simp [h2,h3,h4]),h.pair⟩
theorem SXR.len (h:SX w lo r s cs) : cs.length=r.Caches.n∧s.Caches.length=r.Caches.n:=⟨h.row.len,by rw [← h.each.len,h.row.len]⟩
theorem SXR.ownS (h:SX w lo r s cs) : OwnS w lo r s:=⟨h.words,h.heap,⟨cs,h.row,h.each⟩⟩
theorem SI.ext (h:SI w lo r s cs) (hx:Ext w w') : SI w' lo r s cs:=by
 obtain ⟨m1,m2,h1,h2,h3,h4,h5⟩:=h.ints
 exact ⟨m1,m2,h1,h2,h3,h4.ext hx,h5.mono fun _ _ h=>h.ext hx⟩
theorem SI.low {lo':Nat} (h:SI w lo r s cs) (hl:lo'≤lo) : SI w lo' r s cs:=by
 obtain ⟨m1,m2,h1,h2,h3,h4,h5⟩:=h.ints
 exact ⟨m1,m2,Nat.le_trans hl h1,h2,h3,h4,h5⟩
theorem SI.grT (h:SI w lo r s cs) (hG:GrT w w' t) (hne:(Nat.beq t 9 || (Nat.beq t 46 || (Nat.beq t 3 || (Nat.beq t 94 || (Nat.beq t 72 || Nat.beq t 75)))))=false) : SI w' lo r s cs:=by
 simp only [Bool.or_eq_false_iff] at hne
 obtain ⟨h2,h3,h4,h5,h6,h7⟩:=hne
 obtain ⟨m1,m2,g1,g2,g3,g4,g5⟩:=h.ints
 exact ⟨m1,m2,g1,g2,g3,g4.grT hG (by simp [h4,h5,h6,h7]),g5.mono fun _ _ h=>h.grT hG (by simp [h2,h3,h4])⟩
theorem SXR.slabs {i n':Nat} {l':List Slab} (h:SX w lo r s cs) (hi:i<cs.length) (hi':i<s.Caches.length) (hO:Own w' lo 46 3 encSb cs[i].Slabs.A n' cs[i].Slabs.c l') (hg:w.grownBy w' (ownB cs[i].Slabs.A cs[i].Slabs.c)) :
  SXR w' lo r ⟨s.Words,s.Heap,s.Caches.set i ⟨s.Caches[i].Names,s.Caches[i].Size,s.Caches[i].Per,s.Caches[i].Order,l',s.Caches[i].Active⟩⟩ cs (cs.set i ⟨cs[i].Names,cs[i].Size,cs[i].Per,cs[i].Order,⟨cs[i].Slabs.A,n',cs[i].Slabs.c⟩,cs[i].Active⟩):=by
 have hc:=h.each.get i hi hi'
 have hG:=hc.slabs.gr hg
 refine ⟨h.words.grT hG rfl,h.heap.grT hG rfl,h.row.grT hG rfl,?_,?_⟩
 ·exact All2.setAt h.each ⟨hc.size,hc.per,hc.order,hc.names.grT hG rfl,hO,hc.active.grT hG rfl⟩ fun j h1 h2 hji ho=>⟨ho.size,ho.per,ho.order,ho.names.grT hG rfl,ho.slabs.grown hg (apart_ne2 (.inl (pair_get h.pair hi h1 hji).slabs)),ho.active.grT hG rfl⟩
 ·refine pair_set h.pair fun j hj hji => ?_
  have hp:=pair_get h.pair hi hj hji
  exact ⟨⟨hp.names,hp.slabs,hp.active⟩,⟨apart_symm hp.names,apart_symm hp.slabs,apart_symm hp.active⟩⟩
theorem SXR.names {i n':Nat} {l':List ByteArray} (h:SX w lo r s cs) (hi:i<cs.length) (hi':i<s.Caches.length) (hO:Own w' lo 9 1 encStr cs[i].Names.A n' cs[i].Names.c l') (hg:w.grownBy w' (ownB cs[i].Names.A cs[i].Names.c)) :
  SXR w' lo r ⟨s.Words,s.Heap,s.Caches.set i ⟨l',s.Caches[i].Size,s.Caches[i].Per,s.Caches[i].Order,s.Caches[i].Slabs,s.Caches[i].Active⟩⟩ cs (cs.set i ⟨⟨cs[i].Names.A,n',cs[i].Names.c⟩,cs[i].Size,cs[i].Per,cs[i].Order,cs[i].Slabs,cs[i].Active⟩):=by
 have hc:=h.each.get i hi hi'
 have hG:=hc.names.gr hg
 refine ⟨h.words.grT hG rfl,h.heap.grT hG rfl,h.row.grT hG rfl,?_,?_⟩
 ·exact All2.setAt h.each ⟨hc.size,hc.per,hc.order,hO,hc.slabs.grT hG rfl,hc.active.grT hG rfl⟩ fun j h1 h2 hji ho=>⟨ho.size,ho.per,ho.order,ho.names.grown hg (apart_ne2 (.inl (pair_get h.pair hi h1 hji).names)),ho.slabs.grT hG rfl,ho.active.grT hG rfl⟩
 ·refine pair_set h.pair fun j hj hji => ?_
  have hp:=pair_get h.pair hi hj hji
  exact ⟨⟨hp.names,hp.slabs,hp.active⟩,⟨apart_symm hp.names,apart_symm hp.slabs,apart_symm hp.active⟩⟩
theorem SXR.newSlabs {i n' c':Nat} {A':Option Addr} {l':List Slab} (h:SX w lo r s cs) (hlo:lo≤w.heap.size) (hi:i<cs.length) (hi':i<s.Caches.length) (hx:Ext w w') (hO:Own w' w.heap.size 46 3 encSb A' n' c' l') :
  SXR w' lo r ⟨s.Words,s.Heap,s.Caches.set i ⟨s.Caches[i].Names,s.Caches[i].Size,s.Caches[i].Per,s.Caches[i].Order,l',s.Caches[i].Active⟩⟩ cs (cs.set i ⟨cs[i].Names,cs[i].Size,cs[i].Per,cs[i].Order,⟨A',n',c'⟩,cs[i].Active⟩):=by
 have hc:=(h.each.get i hi hi').ext hx
 refine ⟨h.words.ext hx,h.heap.ext hx,h.row.ext hx,?_,?_⟩
 ·exact All2.setAt h.each ⟨hc.size,hc.per,hc.order,hc.names,hO.low hlo,hc.active⟩ fun j h1 h2 hji ho=>ho.ext hx
 ·refine pair_set h.pair fun j hj hji => ?_
  have hp:=pair_get h.pair hi hj hji
  have ha:apart cs[j].Slabs ⟨A',n',c'⟩:=apart_new (h.each.get j hj (by rw [← h.each.len];exact hj)).slabs hO.row_ge
  exact ⟨⟨hp.names,apart_symm ha,hp.active⟩,⟨apart_symm hp.names,ha,apart_symm hp.active⟩⟩
theorem SXR.rowSet {i:Nat} {u:CRow} (h:SXR w lo r s cs0 (cs0.set i u)) (hO:Own w' lo 44 6 encC r.Caches.A r.Caches.n r.Caches.c (cs0.set i u)) (hg:w.grownBy w' (ownB r.Caches.A r.Caches.c)) : SX w' lo r s (cs0.set i u):=by
 have hG:=h.row.gr hg
 exact ⟨h.words.grT hG rfl,h.heap.grT hG rfl,hO,h.each.mono fun _ _ h=>h.grT hG rfl,h.pair⟩
theorem SXR.active {i:Nat} {l':List Int} (h:SX w lo r s cs) (hI:SI w lo r s cs) (hi:i<cs.length) (hi':i<s.Caches.length) (hO:Own w' lo 3 1 encI cs[i].Active.A cs[i].Active.n cs[i].Active.c l') (hg:w.grownBy w' (ownB cs[i].Active.A cs[i].Active.c)) :
  SX w' lo r ⟨s.Words,s.Heap,s.Caches.set i ⟨s.Caches[i].Names,s.Caches[i].Size,s.Caches[i].Per,s.Caches[i].Order,s.Caches[i].Slabs,l'⟩⟩ cs∧SI w' lo r ⟨s.Words,s.Heap,s.Caches.set i ⟨s.Caches[i].Names,s.Caches[i].Size,s.Caches[i].Per,s.Caches[i].Order,s.Caches[i].Slabs,l'⟩⟩ cs:=by
 obtain ⟨m1,m2,h1,h2,h3,h4,h5⟩:=hI.ints
 have hc:=h.each.get i hi hi'
 have hc5:=h5.get i hi hi'
 have hG:=hc.active.gr hg
 have hge:=hc5.active.row_ge
 have hself:cs.set i cs[i]=cs:=List.set_getElem_self hi
 have hh:OwnHB w' m1 m2 r.Heap s.Heap:=by
  cases e:ownB cs[i].Active.A cs[i].Active.c with
  | none=>rw [e] at hg;exact h4.grT (⟨none,hg,fun k hk=>by cases hk⟩ : GrT w w' 30) rfl
  | some g=>rw [e] at hg;exact h4.atInt hg hG (.inr (hge g e))
 have hww:Own w' lo 3 1 encI r.Words.A r.Words.n r.Words.c s.Words:=h.words.apart hg fun g e e2=>by
  have:=h3 g e;have:=hge g e2;omega
 refine ⟨⟨hww,hh.own.low h1,h.row.grT hG rfl,?_,h.pair⟩,⟨m1,m2,h1,h2,h3,hh,?_⟩⟩
 ·have:=All2.setAt (x:=cs[i]) (R':=OwnC w' lo) h.each (i:=i) (y:=⟨s.Caches[i].Names,s.Caches[i].Size,s.Caches[i].Per,s.Caches[i].Order,s.Caches[i].Slabs,l'⟩) ⟨hc.size,hc.per,hc.order,hc.names.grT hG rfl,hc.slabs.grT hG rfl,hO⟩ fun j h1 h2 hji ho=>⟨ho.size,ho.per,ho.order,ho.names.grT hG rfl,ho.slabs.grT hG rfl,ho.active.grown hg (apart_ne2 (.inl (pair_get h.pair hi h1 hji).active))⟩
  rwa [hself] at this
 ·have hO5:Own w' m2 3 1 encI cs[i].Active.A cs[i].Active.n cs[i].Active.c l':=hO.up hge
  have:=All2.setAt (x:=cs[i]) (R':=OwnC w' m2) h5 (i:=i) (y:=⟨s.Caches[i].Names,s.Caches[i].Size,s.Caches[i].Per,s.Caches[i].Order,s.Caches[i].Slabs,l'⟩) ⟨hc5.size,hc5.per,hc5.order,hc5.names.grT hG rfl,hc5.slabs.grT hG rfl,hO5⟩ fun j h1 h2 hji ho=>⟨ho.size,ho.per,ho.order,ho.names.grT hG rfl,ho.slabs.grT hG rfl,ho.active.grown hg (apart_ne2 (.inl (pair_get h.pair hi h1 hji).active))⟩
  rwa [hself] at this
end
open Go.RowKit
set_option maxHeartbeats 4000000 in
theorem ScopyX_ans (r:SRow) (s:KSystem) (w:World) (hr:RdS w r s) (hs:s.small) :
  Ans Tryz.prog 38 [.agg (encSys r).toArray] w fun v w' => ∃ q zr,v = .agg (encSys q).toArray∧SX w' w.heap.size q s zr∧SI w' w.heap.size q s zr:=by
 refine ans_of Tryz.func38 rfl Tryz.ntmps38 rfl ?_
 refine CW.seq (CW.region (SW.box rfl rfl fun b1 w1 hw hb1b hb1 => ?_))
 refine SW.alloc rfl fun b2 w2 hw2 hb2b hb2 => ?_
 have hb2w:w.heap.size≤b2:=Nat.le_trans hw.size hb2b
 have hne2:b2≠b1:=by have:=hb1.lt;omega
 (replace hw:=Ext.trans hw hw2;replace hb1:=hb1.ext hw2)
 obtain ⟨cs,hc⟩:=hr.caches
 have hwl:=hr.words.len
 have s1:=hs.words
 have s3:=hs.caches
 obtain ⟨c1,c2⟩:=hc.len
 repeat' (first|(refine CW.seq ?_)|(refine Post.seq ?_)|refine SW.nil ?_)
 obtain ⟨K,hK⟩ : ∃ K:Env→World→Prop,K=fun L' w' => ∃ X c1 G b3 m1 m2,subEnv L' [(1,.pointer (some ⟨b1,0,none⟩)),(2,.pointer (some ⟨b2,0,none⟩)),(3,.pointer (some ⟨b3,0,none⟩))]∧Ext w w'∧Blk w' b1 30 (encSys r)∧Blk w' b2 30 (encSys .zero) ∧
  Blk w' b3 30 (encSys ⟨⟨X,r.Words.n,c1⟩,G,.nil⟩)∧Own w' w.heap.size 3 1 encI X r.Words.n c1 s.Words∧OwnHB w' m1 m2 G s.Heap∧(w.heap.size≤m1∧m1≤m2∧m2≤w'.heap.size ∧ ∀ g,ownB X c1=some g→g<m1)∧w.heap.size≤b3∧b1≠b3∧b2≠b3:=⟨_,rfl⟩
 refine CW.cut K ?_ ?_
 ·refine CW.any 8 mixed (rb_tail (by kernel_rfl)) rfl fun w1 hw1 hRB => ?_
  replace hw:=Ext.trans hw hw1;replace hb1:=hb1.ext hw1;replace hb2:=hb2.ext hw1;clear hw1
  refine SA.take 0 hRB rfl (by kernel_rfl) (by kernel_rfl) rfl ?_
  repeat ((show SW _ _ _ _ (⟨_,Op.fieldAddr _ _ _,_,_,_,none⟩::_) _ _;refine SW.st (st_field rfl) rfl ?_))
  refine SW.tknil ?_
  refine SA.take 1 hRB rfl (by kernel_rfl) (by kernel_rfl) rfl ?_
  repeat ((show SW _ _ _ _ (⟨_,Op.load _ _,_,_,_,none⟩::_) _ _;refine SW.st (st_load rfl (hb1.cell rfl)) rfl ?_))
  refine SW.tknil ?_
  refine SA.take 3 hRB rfl (by kernel_rfl) (by kernel_rfl) rfl ?_
  repeat ((show SW _ _ _ _ (⟨_,Op.fieldAddr _ _ _,_,_,_,none⟩::_) _ _;refine SW.st (st_field rfl) rfl ?_))
  refine SW.tknil ?_
  refine SA.take 4 hRB rfl (by kernel_rfl) (by kernel_rfl) rfl ?_
  repeat ((show SW _ _ _ _ (⟨_,Op.load _ _,_,_,_,none⟩::_) _ _;refine SW.st (st_loads rfl rfl ((heapIn hb1))) rfl ?_))
  refine SW.tknil ?_
  refine SA.two 2 7 rfl rfl (by kernel_rfl) rfl rfl ?_ ?_
  ·refine SW.call rfl rfl (CloneInt_ans _ _ _ _ _ (hr.words.ext hw) (by omega)) fun v w4 hXX hv => ?_
   obtain ⟨X,c4,rfl,hX⟩:=hv
   replace hX:=hX.low hw.size
   replace hw:=Ext.trans hw hXX
   replace hb1:=hb1.ext hXX
   replace hb2:=hb2.ext hXX
   try replace hb3:=hb3.ext hXX
   refine SW.nil (Post.sa hXX ?_)
   refine SA.two 5 7 rfl rfl (by kernel_rfl) rfl rfl ?_ ?_
   ·refine SW.call rfl rfl (Hcopy_ans _ _ _ (hr.heap.ext hw) hs.heap) fun v w4 hXX hv => ?_
    obtain ⟨G,rfl,hY⟩:=hv
    have hYB:∃ m1 m2,w.heap.size≤m1∧m1≤m2∧m2≤w4.heap.size∧(∀ g,ownB X c4=some g→g<m1)∧OwnHB w4 m1 m2 G s.Heap:=⟨_,_,hw.size,hXX.size,Nat.le_refl _,hX.lt_size,hY.between⟩
    clear hY
    obtain ⟨m1,m2,hm1,hm12,hm2,hXm,hY⟩:=hYB
    replace hX:=hX.ext hXX
    replace hw:=Ext.trans hw hXX
    replace hb1:=hb1.ext hXX
    replace hb2:=hb2.ext hXX
    try replace hb3:=hb3.ext hXX
    refine SW.nil (Post.sa hXX ?_)
    refine SA.take 6 hRB rfl (by kernel_rfl) (by kernel_rfl) rfl ?_
    repeat ((show SW _ _ _ _ (⟨_,Op.build _ _,_,_,_,none⟩::_) _ _;refine SW.st (st_build rfl rfl) rfl ?_))
    refine SW.tknil ?_
    refine SA.one 7 rfl (by kernel_rfl) rfl ?_
    refine SW.alloc rfl fun b3 w4 hXX hb3b hb3 => ?_
    have hb3w:w.heap.size≤b3:=Nat.le_trans hw.size hb3b
    try replace hm2:=Nat.le_trans hm2 hXX.size
    have hne3:b1≠b3:=by have:=hb1.lt;omega
    have hne4:b2≠b3:=by have:=hb2.lt;omega
    replace hw:=Ext.trans hw hXX
    replace hb1:=hb1.ext hXX
    replace hb2:=hb2.ext hXX
    try replace hX:=hX.ext hXX
    try replace hY:=hY.ext hXX
    refine SW.nil (Post.sa hXX ?_)
    refine SA.done (by kernel_rfl) ?_
    skip
    refine SW.storeAgg hb3 rfl rfl rfl rfl (one_s ⟨⟨X,r.Words.n,c4⟩,G,.nil⟩) fun w5 hR2 hg => ?_
    have hG:=hb3.gr hg
    have hm3:=Nat.le_trans hm2 hg.size
    replace hw:=hw.own hb3w hg
    (replace hX:=hX.grT hG rfl;replace hY:=hY.grT hG rfl)
    replace hb1:=hb1.grown hg (by simpa using hne3)
    replace hb2:=hb2.grown hg (by simpa using hne4)
    repeat' (first|(refine Post.np ?_)|refine SW.nil ?_)
    exact Post.cut (K:=K) (by rw [hK];exact ⟨X,c4,G,b3,m1,m2,⟨rfl,rfl,rfl,trivial⟩,hw,hb1,hb2,hR2,hX,hY,⟨hm1,hm12,hm3,hXm⟩,hb3w,hne3,hne4⟩)
   ·refine SW.alloc rfl fun b3 w4 hXX hb3b hb3 => ?_
    have hb3w:w.heap.size≤b3:=Nat.le_trans hw.size hb3b
    try replace hm2:=Nat.le_trans hm2 hXX.size
    have hne3:b1≠b3:=by have:=hb1.lt;omega
    have hne4:b2≠b3:=by have:=hb2.lt;omega
    replace hw:=Ext.trans hw hXX
    replace hb1:=hb1.ext hXX
    replace hb2:=hb2.ext hXX
    try replace hX:=hX.ext hXX
    try replace hY:=hY.ext hXX
    refine SW.nil (Post.sa hXX ?_)
    refine SA.one 5 rfl (by kernel_rfl) rfl ?_
    refine SW.call rfl rfl (Hcopy_ans _ _ _ (hr.heap.ext hw) hs.heap) fun v w4 hXX hv => ?_
    obtain ⟨G,rfl,hY⟩:=hv
    have hYB:∃ m1 m2,w.heap.size≤m1∧m1≤m2∧m2≤w4.heap.size∧(∀ g,ownB X c4=some g→g<m1)∧OwnHB w4 m1 m2 G s.Heap:=⟨_,_,hw.size,hXX.size,Nat.le_refl _,hX.lt_size,hY.between⟩
    clear hY
    obtain ⟨m1,m2,hm1,hm12,hm2,hXm,hY⟩:=hYB
    replace hX:=hX.ext hXX
    replace hw:=Ext.trans hw hXX
    replace hb1:=hb1.ext hXX
    replace hb2:=hb2.ext hXX
    try replace hb3:=hb3.ext hXX
    refine SW.nil (Post.sa hXX ?_)
    refine SA.take 6 hRB rfl (by kernel_rfl) (by kernel_rfl) rfl ?_
    repeat ((show SW _ _ _ _ (⟨_,Op.build _ _,_,_,_,none⟩::_) _ _;refine SW.st (st_build rfl rfl) rfl ?_))
    refine SW.tknil ?_
    refine SA.done (by kernel_rfl) ?_
    skip
    refine SW.storeAgg hb3 rfl rfl rfl rfl (one_s ⟨⟨X,r.Words.n,c4⟩,G,.nil⟩) fun w5 hR2 hg => ?_
    have hG:=hb3.gr hg
    have hm3:=Nat.le_trans hm2 hg.size
    replace hw:=hw.own hb3w hg
    (replace hX:=hX.grT hG rfl;replace hY:=hY.grT hG rfl)
    replace hb1:=hb1.grown hg (by simpa using hne3)
    replace hb2:=hb2.grown hg (by simpa using hne4)
    repeat' (first|(refine Post.np ?_)|refine SW.nil ?_)
    exact Post.cut (K:=K) (by rw [hK];exact ⟨X,c4,G,b3,m1,m2,⟨rfl,rfl,rfl,trivial⟩,hw,hb1,hb2,hR2,hX,hY,⟨hm1,hm12,hm3,hXm⟩,hb3w,hne3,hne4⟩)
  ·refine SW.alloc rfl fun b3 w4 hXX hb3b hb3 => ?_
   have hb3w:w.heap.size≤b3:=Nat.le_trans hw.size hb3b
   try replace hm2:=Nat.le_trans hm2 hXX.size
   have hne3:b1≠b3:=by have:=hb1.lt;omega
   have hne4:b2≠b3:=by have:=hb2.lt;omega
   replace hw:=Ext.trans hw hXX
   replace hb1:=hb1.ext hXX
   replace hb2:=hb2.ext hXX
   try replace hX:=hX.ext hXX
   try replace hY:=hY.ext hXX
   refine SW.nil (Post.sa hXX ?_)
   refine SA.one 2 rfl (by kernel_rfl) rfl ?_
   refine SW.call rfl rfl (CloneInt_ans _ _ _ _ _ (hr.words.ext hw) (by omega)) fun v w4 hXX hv => ?_
   obtain ⟨X,c4,rfl,hX⟩:=hv
   replace hX:=hX.low hw.size
   replace hw:=Ext.trans hw hXX
   replace hb1:=hb1.ext hXX
   replace hb2:=hb2.ext hXX
   try replace hb3:=hb3.ext hXX
   refine SW.nil (Post.sa hXX ?_)
   refine SA.one 5 rfl (by kernel_rfl) rfl ?_
   refine SW.call rfl rfl (Hcopy_ans _ _ _ (hr.heap.ext hw) hs.heap) fun v w4 hXX hv => ?_
   obtain ⟨G,rfl,hY⟩:=hv
   have hYB:∃ m1 m2,w.heap.size≤m1∧m1≤m2∧m2≤w4.heap.size∧(∀ g,ownB X c4=some g→g<m1)∧OwnHB w4 m1 m2 G s.Heap:=⟨_,_,hw.size,hXX.size,Nat.le_refl _,hX.lt_size,hY.between⟩
   clear hY
   obtain ⟨m1,m2,hm1,hm12,hm2,hXm,hY⟩:=hYB
   replace hX:=hX.ext hXX
   replace hw:=Ext.trans hw hXX
   replace hb1:=hb1.ext hXX
   replace hb2:=hb2.ext hXX
   try replace hb3:=hb3.ext hXX
   refine SW.nil (Post.sa hXX ?_)
   refine SA.take 6 hRB rfl (by kernel_rfl) (by kernel_rfl) rfl ?_
   repeat ((show SW _ _ _ _ (⟨_,Op.build _ _,_,_,_,none⟩::_) _ _;refine SW.st (st_build rfl rfl) rfl ?_))
   refine SW.tknil ?_
   refine SA.done (by kernel_rfl) ?_
   skip
   refine SW.storeAgg hb3 rfl rfl rfl rfl (one_s ⟨⟨X,r.Words.n,c4⟩,G,.nil⟩) fun w5 hR2 hg => ?_
   have hG:=hb3.gr hg
   have hm3:=Nat.le_trans hm2 hg.size
   replace hw:=hw.own hb3w hg
   (replace hX:=hX.grT hG rfl;replace hY:=hY.grT hG rfl)
   replace hb1:=hb1.grown hg (by simpa using hne3)
   replace hb2:=hb2.grown hg (by simpa using hne4)
   repeat' (first|(refine Post.np ?_)|refine SW.nil ?_)
   exact Post.cut (K:=K) (by rw [hK];exact ⟨X,c4,G,b3,m1,m2,⟨rfl,rfl,rfl,trivial⟩,hw,hb1,hb2,hR2,hX,hY,⟨hm1,hm12,hm3,hXm⟩,hb3w,hne3,hne4⟩)
 ·clear hb1 hb2 hw
  subst hK
  rintro L' w' ⟨X,c4,G,b3,m1,m2,hsub,hw,hb1,hb2,hb3,hX,hY,⟨hm1,hm12,hm3,hXm⟩,hb3w,hne3,hne4⟩
  refine Post.sub hsub ?_
  repeat' (first|(first|refine CW.seq ?_|refine CW.region ?_|refine CW.block ?_)|(refine Post.seq ?_)|refine SW.nil ?_|refine SW.pure rfl rfl ?_|(show SW _ _ _ _ (⟨_,Op.fieldAddr _ _ _,_,_,_,none⟩::_) _ _;refine SW.st (st_field rfl) rfl ?_)|(show SW _ _ _ _ (⟨_,Op.call ⟨.builtin .len,_,_⟩,_,_,_,none⟩::_) _ _;refine SW.st (st_len rfl) rfl ?_)|(show SW _ _ _ _ (⟨_,Op.load _ _,_,_,_,none⟩::_) _ _;refine SW.st (st_load rfl (hb1.cell rfl)) rfl ?_))
  refine CW.loop (fun s:Nat×Option Addr×Nat×List CRow=>[(2,.pointer (some ⟨b2,0,none⟩)),(3,.pointer (some ⟨b3,0,none⟩)),(14,.slice r.Caches.A r.Caches.n r.Caches.c),(15,.int .i64 (r.Caches.n:Int)),(16,.int .i64 (s.1:Int))])
   (fun t w'=>t.1≤r.Caches.n∧m2≤w'.heap.size∧Ext w w'∧Blk w' b2 30 (encSys .zero)∧Blk w' b3 30 (encSys ⟨⟨X,r.Words.n,c4⟩,G,⟨t.2.1,t.1,t.2.2.1⟩⟩)∧Own w' w.heap.size 3 1 encI X r.Words.n c4 s.Words∧OwnHB w' m1 m2 G s.Heap ∧
    OwnCs w' m2 ⟨t.2.1,t.1,t.2.2.1⟩ t.2.2.2 (s.Caches.take t.1)∧SepC ⟨X,r.Words.n,c4⟩ t.2.2.2) (fun t=>r.Caches.n-t.1) (0,none,0,[]) ⟨rfl,rfl,rfl,rfl,rfl,trivial⟩ ⟨by omega,hm3,hw,hb2,hb3,hX,hY,OwnCs.nil _ _,SepC.nil _⟩ ?_
  clear hb1 hb2 hb3 hX hY hw hsub
  rintro ⟨k,A,c,zr⟩ w' ⟨hk,hm3,hw,hb2,hb3,hX,hY,hO,hSp⟩
  simp only at hk hb3 hO hSp ⊢
  have hA:=hc.row.base
  by_cases hkn:k<r.Caches.n
  ·have hck:=hc.each.get k (by omega) (by omega)
   have q:=hs.each _ (List.getElem_mem (show k<s.Caches.length by omega))
   have q1:=hck.names.len
   have q2:=hck.slabs.len
   have q3:=hck.active.len
   have q4:=q.names
   have q5:=q.slabs
   have q6:=q.active
   have hlt5:=hO.row.lt_size
   repeat' (first|(first|refine CW.seq ?_|refine CW.region ?_|refine CW.block ?_|refine CW.condd_t rfl (by omega) ?_|refine CW.skip ?_)|(refine Post.seq ?_)|refine SW.nil ?_|refine SW.pure rfl rfl ?_|(show SW _ _ _ _ (⟨_,Op.indexAddr _ _ _,_,_,_,none⟩::_) _ _;refine SW.st (st_indexN rfl rfl (by assumption) (by omega)) rfl ?_)|(show SW _ _ _ _ (⟨_,Op.load _ _,_,_,_,none⟩::_) _ _;refine SW.st (st_loadsx hw rfl rfl ((hc.row.all hkn))) rfl ?_))
   refine SW.alloc rfl fun b5 w1 hw1 hb5b hb5 => ?_
   skip
   refine SW.storeAgg hb5 rfl rfl rfl rfl (one_c _) fun w2 hb5' hg => ?_
   have hXX:=hw1.own hb5b hg
   have hb5w:w.heap.size≤b5:=Nat.le_trans hw.size hb5b
   replace hw:=Ext.trans hw hXX
   replace hb2:=hb2.ext hXX
   replace hb3:=hb3.ext hXX
   replace hX:=hX.ext hXX
   replace hY:=hY.ext hXX
   replace hO:=hO.ext hXX
   replace hb5:=hb5'
   clear hb5' hw1 hg hXX
   have hm5:m2≤b5:=Nat.le_trans hm3 hb5b
   repeat' (first|(refine CW.seq ?_)|(refine Post.seq ?_)|refine SW.nil ?_)
   refine CW.any 10 mixed (rb_tail (by kernel_rfl)) rfl fun w1 hw1 hRB => ?_
   replace hw:=Ext.trans hw hw1;replace hb2:=hb2.ext hw1;replace hb3:=hb3.ext hw1;replace hb5:=hb5.ext hw1;replace hX:=hX.ext hw1;replace hY:=hY.ext hw1;replace hO:=hO.ext hw1;clear hw1
   refine SA.take 0 hRB rfl (by kernel_rfl) (by kernel_rfl) rfl ?_
   repeat ((show SW _ _ _ _ (⟨_,Op.fieldAddr _ _ _,_,_,_,none⟩::_) _ _;refine SW.st (st_field rfl) rfl ?_))
   refine SW.tknil ?_
   refine SA.take 1 hRB rfl (by kernel_rfl) (by kernel_rfl) rfl ?_
   repeat ((show SW _ _ _ _ (⟨_,Op.load _ _,_,_,_,none⟩::_) _ _;refine SW.st (st_load rfl (hb5.cell rfl)) rfl ?_))
   refine SW.tknil ?_
   refine SA.take 3 hRB rfl (by kernel_rfl) (by kernel_rfl) rfl ?_
   repeat ((show SW _ _ _ _ (⟨_,Op.fieldAddr _ _ _,_,_,_,none⟩::_) _ _;refine SW.st (st_field rfl) rfl ?_))
   refine SW.tknil ?_
   refine SA.take 4 hRB rfl (by kernel_rfl) (by kernel_rfl) rfl ?_
   repeat ((show SW _ _ _ _ (⟨_,Op.load _ _,_,_,_,none⟩::_) _ _;refine SW.st (st_load rfl (hb5.cell rfl)) rfl ?_))
   refine SW.tknil ?_
   refine SA.take 6 hRB rfl (by kernel_rfl) (by kernel_rfl) rfl ?_
   repeat ((show SW _ _ _ _ (⟨_,Op.fieldAddr _ _ _,_,_,_,none⟩::_) _ _;refine SW.st (st_field rfl) rfl ?_))
   refine SW.tknil ?_
   refine SA.take 7 hRB rfl (by kernel_rfl) (by kernel_rfl) rfl ?_
   repeat ((show SW _ _ _ _ (⟨_,Op.load _ _,_,_,_,none⟩::_) _ _;refine SW.st (st_load rfl (hb5.cell rfl)) rfl ?_))
   refine SW.tknil ?_
   refine SA.one 2 rfl (by kernel_rfl) rfl ?_
   refine SW.call rfl rfl (CloneStr_ans _ _ _ _ _ (hck.names.ext hw) (by omega)) fun v w4 hXX hv => ?_
   obtain ⟨N,n4,rfl,hN⟩:=hv
   have hn1:=hO.apN (b:=⟨N,cs[k].Names.n,n4⟩) hN.row_ge
   replace hN:=hN.low (Nat.le_trans hm5 (Nat.le_of_lt hb5.lt))
   (replace hw:=Ext.trans hw hXX;replace hb2:=hb2.ext hXX;replace hb3:=hb3.ext hXX;replace hb5:=hb5.ext hXX;replace hX:=hX.ext hXX;replace hY:=hY.ext hXX;replace hO:=hO.ext hXX)
   refine SW.nil (Post.sa hXX ?_)
   refine SA.take 9 hRB rfl (by kernel_rfl) (by kernel_rfl) rfl ?_
   repeat ((show SW _ _ _ _ (⟨_,Op.fieldAddr _ _ _,_,_,_,none⟩::_) _ _;refine SW.st (st_field rfl) rfl ?_))
   refine SW.tknil ?_
   refine SA.one 5 rfl (by kernel_rfl) rfl ?_
   refine SW.call rfl rfl (CloneSlab_ans _ _ _ _ _ (hck.slabs.ext hw) (by omega)) fun v w4 hXX hv => ?_
   obtain ⟨M,m4,rfl,hM⟩:=hv
   have hs1:=hO.apS (b:=⟨M,cs[k].Slabs.n,m4⟩) hM.row_ge
   replace hM:=hM.low (Nat.le_trans hm5 (Nat.le_of_lt hb5.lt))
   (replace hw:=Ext.trans hw hXX;replace hb2:=hb2.ext hXX;replace hb3:=hb3.ext hXX;replace hb5:=hb5.ext hXX;replace hX:=hX.ext hXX;replace hY:=hY.ext hXX;replace hO:=hO.ext hXX;replace hN:=hN.ext hXX)
   refine SW.nil (Post.sa hXX ?_)
   refine SA.one 8 rfl (by kernel_rfl) rfl ?_
   refine SW.call rfl rfl (CloneInt_ans _ _ _ _ _ (hck.active.ext hw) (by omega)) fun v w4 hXX hv => ?_
   obtain ⟨Q,q7,rfl,hQ⟩:=hv
   have hq1:=hO.apA (b:=⟨Q,cs[k].Active.n,q7⟩) hQ.row_ge
   have hq2:=apart_new (a:=⟨X,r.Words.n,c4⟩) (b:=⟨Q,cs[k].Active.n,q7⟩) hX hQ.row_ge
   replace hQ:=hQ.low (Nat.le_trans hm5 (Nat.le_of_lt hb5.lt))
   (replace hw:=Ext.trans hw hXX;replace hb2:=hb2.ext hXX;replace hb3:=hb3.ext hXX;replace hb5:=hb5.ext hXX;replace hX:=hX.ext hXX;replace hY:=hY.ext hXX;replace hO:=hO.ext hXX;replace hN:=hN.ext hXX;replace hM:=hM.ext hXX)
   refine SW.nil (Post.sa hXX ?_)
   refine SA.done (by kernel_rfl) ?_
   refine SW.storeB (i:=0) hb5 rfl rfl rfl rfl fun w6 hb5' hg => ?_
   have hG:=hb5.gr hg
   replace hw:=hw.own hb5w hg
   replace hO:=hO.blk hb5 hg hlt5 hb5b
   (replace hb2:=hb2.grT hG rfl;replace hb3:=hb3.grT hG rfl;replace hX:=hX.grT hG rfl;replace hY:=hY.grT hG rfl;replace hN:=hN.grT hG rfl;replace hM:=hM.grT hG rfl;replace hQ:=hQ.grT hG rfl)
   replace hb5:=hb5'
   clear hb5' hg hG
   repeat' ((show SW _ _ _ _ (⟨_,Op.fieldAddr _ _ _,_,_,_,none⟩::_) _ _;refine SW.st (st_field rfl) rfl ?_))
   refine SW.storeB (i:=4) hb5 rfl rfl rfl rfl fun w6 hb5' hg => ?_
   have hG:=hb5.gr hg
   replace hw:=hw.own hb5w hg
   replace hO:=hO.blk hb5 hg hlt5 hb5b
   (replace hb2:=hb2.grT hG rfl;replace hb3:=hb3.grT hG rfl;replace hX:=hX.grT hG rfl;replace hY:=hY.grT hG rfl;replace hN:=hN.grT hG rfl;replace hM:=hM.grT hG rfl;replace hQ:=hQ.grT hG rfl)
   replace hb5:=hb5'
   clear hb5' hg hG
   repeat' ((show SW _ _ _ _ (⟨_,Op.fieldAddr _ _ _,_,_,_,none⟩::_) _ _;refine SW.st (st_field rfl) rfl ?_))
   refine SW.storeB (i:=5) hb5 rfl rfl rfl rfl fun w6 hb5' hg => ?_
   have hG:=hb5.gr hg
   replace hw:=hw.own hb5w hg
   replace hO:=hO.blk hb5 hg hlt5 hb5b
   (replace hb2:=hb2.grT hG rfl;replace hb3:=hb3.grT hG rfl;replace hX:=hX.grT hG rfl;replace hY:=hY.grT hG rfl;replace hN:=hN.grT hG rfl;replace hM:=hM.grT hG rfl;replace hQ:=hQ.grT hG rfl)
   replace hb5:=hb5'
   clear hb5' hg hG
   repeat' (first|(refine CW.region ?_)|(first|refine Post.seq ?_|refine Post.np ?_)|refine SW.nil ?_|(show SW _ _ _ _ (⟨_,Op.fieldAddr _ _ _,_,_,_,none⟩::_) _ _;refine SW.st (st_field rfl) rfl ?_)|(show SW _ _ _ _ (⟨_,Op.load _ _,_,_,_,none⟩::_) _ _;first|refine SW.st (st_load rfl (hb3.cell rfl)) rfl ?_|refine SW.st (st_loads rfl rfl ((fun _ _=>hb5.cell))) rfl ?_))
   refine SW.build1 rfl rfl rfl rfl rfl fun b w6 hXX hb hB => ?_
   (replace hw:=Ext.trans hw hXX;replace hb2:=hb2.ext hXX;replace hb3:=hb3.ext hXX;replace hX:=hX.ext hXX;replace hY:=hY.ext hXX;replace hO:=hO.ext hXX;replace hN:=hN.ext hXX;replace hM:=hM.ext hXX;replace hQ:=hQ.ext hXX)
   refine SW.append hO.row (Blk.sl1 (enc:=encC) (x:=⟨⟨N,_,n4⟩,cs[k].Size,cs[k].Per,cs[k].Order,⟨M,_,m4⟩,⟨Q,_,q7⟩⟩) hB) (Nat.le_trans hm5 (Nat.le_trans (Nat.le_of_lt hb5.lt) hXX.size)) rfl rfl rfl (by simp only;omega) (by simp only;omega) fun A2 c2 w5 hO1 hg => ?_
   have hG:=hO.row.gr hg
   have hm6:=Nat.le_trans (Nat.le_trans hm5 (Nat.le_trans (Nat.le_of_lt hb5.lt) hXX.size)) hg.size
   replace hw:=ext_grown hw hg (Nat.le_trans hm1 hm12) hO.row.row_ge
   (replace hb2:=hb2.grT hG rfl;replace hb3:=hb3.grT hG rfl;replace hX:=hX.grT hG rfl;replace hY:=hY.grT hG rfl;replace hN:=hN.grT hG rfl;replace hM:=hM.grT hG rfl;replace hQ:=hQ.grT hG rfl)
   have hE:=hO.each.mono fun _ _ h=>h.grT hG rfl
   repeat' ((show SW _ _ _ _ (⟨_,Op.fieldAddr _ _ _,_,_,_,none⟩::_) _ _;refine SW.st (st_field rfl) rfl ?_))
   refine SW.storeB (i:=6) hb3 rfl rfl rfl rfl fun w6 hb3' hg => ?_
   have hG:=hb3.gr hg
   replace hw:=hw.own hb3w hg
   replace hb2:=hb2.grown hg (by simpa using hne4)
   (replace hX:=hX.grT hG rfl;replace hY:=hY.grT hG rfl;replace hN:=hN.grT hG rfl;replace hM:=hM.grT hG rfl;replace hQ:=hQ.grT hG rfl;replace hO1:=hO1.grT hG rfl)
   replace hE:=hE.mono fun _ _ h=>h.grT hG rfl
   repeat' (first|(refine CW.region ?_)|(first|refine Post.seq ?_|refine Post.blk ?_)|refine SW.nil ?_|refine SW.pure rfl rfl ?_|(show SW _ _ _ _ (⟨_,Op.binOp _ _ _ _ _,_,_,_,none⟩::_) _ _;refine SW.st (st_add rfl rfl (by omega) (by omega)) rfl ?_))
   refine Post.again (k+1,A2,c2,zr++[⟨⟨N,_,n4⟩,cs[k].Size,cs[k].Per,cs[k].Order,⟨M,_,m4⟩,⟨Q,_,q7⟩⟩]) ⟨rfl,rfl,rfl,rfl,rfl,trivial⟩ (by simp only;omega) ⟨by simp only;omega,Nat.le_trans hm6 hg.size,hw,hb2,hb3',hX,hY,⟨hO1,?_⟩,hSp.snoc (fun u hu=>⟨hn1 u hu,hs1 u hu,hq1 u hu⟩) hq2⟩
   rw [List.take_succ_eq_append_getElem (by omega)]
   exact hE.snoc ⟨hck.size,hck.per,hck.order,hN,hM,hQ⟩
  ·obtain rfl:k=r.Caches.n:=by omega
   rw [List.take_of_length_le (by omega)] at hO
   repeat' (first|(first|refine CW.seq ?_|refine CW.region ?_|refine CW.condd_f rfl (by omega) ?_|refine CW.exit ?_)|(first|refine Post.seq ?_|refine Post.seq_exit ?_|refine Post.hit ?_|refine Post.again_exit ?_)|refine SW.nil ?_|refine SW.pure rfl rfl ?_|(show SW _ _ _ _ (⟨_,Op.load _ _,_,_,_,none⟩::_) _ _;refine SW.st (st_loads rfl rfl ((fun _ _=>hb3.cell))) rfl ?_))
   refine SW.storeAgg hb2 rfl rfl rfl rfl (one_s _) fun w5 hR2 hg => ?_
   have hG:=hb2.gr hg
   replace hw:=hw.own hb2w hg
   (replace hX:=hX.grT hG rfl;replace hY:=hY.grT hG rfl;replace hO:=hO.grT hG rfl)
   repeat' (first|(refine CW.ret ?_)|(refine Post.seq ?_)|refine SW.nil ?_)
   exact Post.ret1c rfl rfl hR2 rfl ⟨_,rfl,hw,⟨_,G,_⟩,zr,rfl,⟨hX,hY.own.low hm1,hO.row.low (Nat.le_trans hm1 hm12),hO.each.mono fun _ _ h=>h.low (Nat.le_trans hm1 hm12),hSp.pair⟩,⟨m1,m2,hm1,hm12,hXm,hY,hO.each⟩⟩
open Go.RowKit
def lessS (a b:ByteArray) : Bool:=Op.bytesLess a.toList b.toList
theorem bytes_irrefl:∀ x:List UInt8,Op.bytesLess x x=false
 | []=>rfl
 | a::x=>by simp [Op.bytesLess,bytes_irrefl x]
theorem bytes_tri:∀ x y:List UInt8,Op.bytesLess x y=(!(Op.bytesLess y x || decide (x=y)))
 | [],[]=>by simp [Op.bytesLess]
 | [],_::_=>by simp [Op.bytesLess]
 | _::_,[]=>by simp [Op.bytesLess]
 | a::x,b::y=>by
  have ih:=bytes_tri x y
  simp only [Op.bytesLess,List.cons.injEq]
  rcases Nat.lt_trichotomy a.toNat b.toNat with h|h|h
  ·have h1:a<b:=h
   have h2 : ¬ b<a:=fun e=>by have:b.toNat<a.toNat:=e;omega
   have h3 : ¬ a=b:=fun e=>by subst e;omega
   have h4 : ¬ b=a:=fun e=>h3 e.symm
   simp [h1,h2,h3,h4]
  ·have h3:a=b:=UInt8.toNat_inj.1 h
   subst h3
   have h1 : ¬ a<a:=fun e=>by have:a.toNat<a.toNat:=e;omega
   simp [h1,ih]
  ·have h1:b<a:=h
   have h2 : ¬ a<b:=fun e=>by have:a.toNat<b.toNat:=e;omega
   have h3 : ¬ a=b:=fun e=>by subst e;omega
   have h4 : ¬ b=a:=fun e=>h3 e.symm
   simp [h1,h2,h3]
theorem bytes_trans:∀ x y z:List UInt8,Op.bytesLess x y=true→Op.bytesLess y z=true→Op.bytesLess x z=true
 | _,[],_,h,_=>by simp [Op.bytesLess] at h
 | _,_::_,[],_,h=>by simp [Op.bytesLess] at h
 | [],_::_,_::_,_,_=>by simp [Op.bytesLess]
 | a::x,b::y,c::z,h,k=>by
  simp only [Op.bytesLess,Bool.or_eq_true,decide_eq_true_eq,Bool.and_eq_true,beq_iff_eq] at h k ⊢
  rcases h with h|⟨rfl,h⟩<;>rcases k with k|⟨rfl,k⟩
  ·have h':a.toNat<b.toNat:=h
   have k':b.toNat<c.toNat:=k
   exact .inl (show a.toNat<c.toNat by omega)
  ·exact .inl h
  ·exact .inl k
  ·exact .inr ⟨rfl,bytes_trans x y z h k⟩
theorem bytesEq (a b:ByteArray) : (a.toList == b.toList)=decide (a=b):=by
 by_cases h:a=b
 ·subst h;simp
 ·have : ¬ a.toList=b.toList:=fun e=>h (by
   have e1:=congrArg (fun l:List UInt8=>ByteArray.mk l.toArray) e
   simp only [ByteArray.toList_eq] at e1
   cases a;cases b;simpa using e1)
  simp [h,this]
theorem lessS_irrefl (a:ByteArray) : lessS a a=false:=bytes_irrefl _
theorem lessS_trans {a b c:ByteArray} (h:lessS a b=true) (k:lessS b c=true) : lessS a c=true:=bytes_trans _ _ _ h k
theorem lessS_tri (a b:ByteArray) : lessS a b = !(lessS b a || decide (a=b)):=by
 unfold lessS
 rw [bytes_tri]
 have:decide (a.toList=b.toList)=decide (a=b):=by rw [← bytesEq];exact (Bool.beq_eq_decide_eq _ _).symm
 rw [this]
class StrTy (P:Program) (t:TypeId) : Prop where
 und:P.underlying t=some .string
def encU (b:UInt8) : List Value:=[.int .u8 b.toNat]
section
variable {P:Program} {L:Env} {w:World} {d:Option Nat} {T:TypeId} {pos:String} {af:Array Edge} {g:Option (Nat×Bool)}
theorem st_eqStr {t ty:TypeId} {x y:Operand} {a b:ByteArray} (hx:opv L x=some (.string a)) (hy:opv L y=some (.string b)) : St P ⟨d,.binOp .eql t x y ty,T,pos,af,g⟩ L w (.bool (decide (a=b))) :=
 ⟨fun _ A hA w' _=>by
  have e1:=hA.eval hx
  have e2:=hA.eval hy
  generalize A.eval = ρ at *
  have h1:(binOp .eql t (.string a) (.string b)).run P w' = .ok (.bool (decide (a=b))) w':=by
   have:binOp .eql t (.string a) (.string b)=Op.stringOp .eql a b:=by simp [binOp]
   rw [this,← bytesEq]
   simp [Op.stringOp,pure]
  simp [execOp,e1,e2,eqGuard,h1]⟩
theorem st_geStr {t ty:TypeId} {x y:Operand} {a b:ByteArray} (hx:opv L x=some (.string a)) (hy:opv L y=some (.string b)) : St P ⟨d,.binOp .geq t x y ty,T,pos,af,g⟩ L w (.bool (!lessS a b)) :=
 ⟨fun _ A hA w' _=>by
  have e1:=hA.eval hx
  have e2:=hA.eval hy
  generalize A.eval = ρ at *
  have h1:(binOp .geq t (.string a) (.string b)).run P w' = .ok (.bool (!lessS a b)) w':=by
   have:binOp .geq t (.string a) (.string b)=Op.stringOp .geq a b:=by simp [binOp]
   rw [this]
   simp [Op.stringOp,pure,lessS]
  simp [execOp,e1,e2,eqGuard,h1]⟩
theorem st_leStr {t ty:TypeId} {x y:Operand} {a b:ByteArray} (hx:opv L x=some (.string a)) (hy:opv L y=some (.string b)) : St P ⟨d,.binOp .leq t x y ty,T,pos,af,g⟩ L w (.bool (!lessS b a)) :=
 ⟨fun _ A hA w' _=>by
  have e1:=hA.eval hx
  have e2:=hA.eval hy
  generalize A.eval = ρ at *
  have h1:(binOp .leq t (.string a) (.string b)).run P w' = .ok (.bool (!lessS b a)) w':=by
   have:binOp .leq t (.string a) (.string b)=Op.stringOp .leq a b:=by simp [binOp]
   rw [this,lessS_tri b a]
   have e:decide (b=a)=decide (a=b):=by simp [eq_comm]
   rw [e,← bytesEq]
   simp [Op.stringOp,pure,lessS]
  simp [execOp,e1,e2,eqGuard,h1]⟩
theorem st_ltStr {t ty:TypeId} {x y:Operand} {a b:ByteArray} (hx:opv L x=some (.string a)) (hy:opv L y=some (.string b)) : St P ⟨d,.binOp .lss t x y ty,T,pos,af,g⟩ L w (.bool (lessS a b)) :=
 ⟨fun _ A hA w' _=>by
  have e1:=hA.eval hx
  have e2:=hA.eval hy
  generalize A.eval = ρ at *
  have h1:(binOp .lss t (.string a) (.string b)).run P w' = .ok (.bool (lessS a b)) w':=by
   have:binOp .lss t (.string a) (.string b)=Op.stringOp .lss a b:=by simp [binOp]
   rw [this]
   simp [Op.stringOp,pure,lessS]
  simp [execOp,e1,e2,eqGuard,h1]⟩
theorem st_neStr' {t ty:TypeId} {x y:Operand} {a b:ByteArray} (hx:opv L x=some (.string a)) (hy:opv L y=some (.string b)) : St P ⟨d,.binOp .neq t x y ty,T,pos,af,g⟩ L w (.bool (decide (a≠b))) :=
 ⟨fun _ A hA w' _=>by
  have e1:=hA.eval hx
  have e2:=hA.eval hy
  generalize A.eval = ρ at *
  have h1:(binOp .neq t (.string a) (.string b)).run P w' = .ok (.bool (decide (a≠b))) w':=by
   have:binOp .neq t (.string a) (.string b)=Op.stringOp .neq a b:=by simp [binOp]
   rw [this]
   have e:decide (a≠b) = !(a.toList == b.toList):=by rw [bytesEq];simp
   rw [e]
   simp [Op.stringOp,pure]
  simp [execOp,e1,e2,eqGuard,h1]⟩
theorem st_lenS {t:TypeId} [c:StrTy P t] {x:Operand} {s:ByteArray} (hx:opv L x=some (.string s)) :
  St P ⟨d,.call ⟨.builtin .len,#[x],#[t]⟩,T,pos,af,g⟩ L w (.int .i64 (s.size:Int)) :=
 ⟨fun _ a ha w' _=>by simp [execOp,resolve,invoke,builtin,ha.eval hx,Builtin.len_,run_underlying c.und,goInt]⟩
theorem st_idxS {t:TypeId} [c:StrTy P t] {x y:Operand} {s:ByteArray} {i:Int} (k:Nat) (hx:opv L x=some (.string s)) (hy:opv L y=some (.int .i64 i)) (hi:i=(k:Int)) (hk:k<s.size) :
  St P ⟨d,.index t x y,T,pos,af,g⟩ L w (.int .u8 (s[k]'hk).toNat) :=
 ⟨fun _ a ha w' _=>by
  subst hi
  have e1:=ha.eval hx;have e2:=ha.eval hy;generalize a.eval = ρ at *
  have:=run_index_string (P:=P) w' t s .i64 (k:Int) c.und
  rw [dif_pos ⟨by omega,by omega⟩] at this
  simp [execOp,e1,e2,this]⟩
end
section
variable {P:Program} {n:Nat} {ops:Array Oper} {Q:Exit→Act→World→Prop} {rest:List Oper} {L:Env} {w:World} {T:TypeId} {pos:String} {af:Array Edge}
theorem SW.convBytes {d:Nat} {src dst e:TypeId} [S:StrTy P src] [D:SliceTy P dst e 1] (he:P.underlying e=some (.int .u8)) {x:Operand} {s:ByteArray} (hx:opv L x=some (.string s)) (hn:Nat.blt d n=true)
  (h:∀ b c w',Ext w w'→w.heap.size≤b→Sl w' 1 encU (some ⟨b,0,none⟩) s.size s.data.toList→SW P n ops (.eff Q) rest ((d,.slice (some ⟨b,0,none⟩) s.size c)::L) w') :
  SW P n ops (.eff Q) (⟨some d,.convert src dst x,T,pos,af,none⟩::rest) L w :=
 ⟨fun a ha=>by
  simp only [swp,wpList,Region.wanted,if_true]
  refine .inl ?_
  unfold Oper.wp
  have hr:=Lib.run_convert_string_bytes (P:=P) w src dst e s S.und D.und he
  have:(execOp a.eval ⟨some d,.convert src dst x,T,pos,af,none⟩).run P w = .ok (.value (.slice (some ⟨w.heap.size,0,none⟩) s.size (grownCap w s.size 0 e))) (Lib.bytesWorld w e s):=by
   simp [execOp,ha.eval hx,hr]
  rw [this,Oper.upon_value]
  have hE:Ext w (Lib.bytesWorld w e s):=⟨rfl,rfl,rfl,by rw [Lib.bytesWorld_size];omega,fun j hj=>Lib.bytesWorld_at_old w e s j hj⟩
  refine (h _ _ _ hE (Nat.le_refl _) ⟨?_,fun _=>rfl,fun i hi j u hu => ?_⟩).out _ (ha.put hn _)
  ·exact Array.length_toList
  ·have hi':i<s.size:=by rw [Array.length_toList] at hi;exact hi
   have:=Lib.bytesWorld_cell w e s i hi'
   match j,hu with
   | 0,hu =>
    simp only [encU,List.getElem?_cons_zero,Option.some.injEq] at hu
    rw [add_zero]
    have e2:(((some (⟨w.heap.size,0,none⟩ : Addr)).getD default).add (i*1))=⟨w.heap.size,i,none⟩:=by
     simp only [Option.getD_some,Nat.mul_one]
     unfold Addr.add
     split<;>simp_all
    rw [e2,this,← hu]
    have e3:s.data.toList.getD i 0=s.data.toList[i]:=by simp [List.getD,hi']
    rw [e3]
   | j+1,hu=>simp [encU] at hu⟩
end
end Go.Proofs.YtigikedbffjeiaaGreat
