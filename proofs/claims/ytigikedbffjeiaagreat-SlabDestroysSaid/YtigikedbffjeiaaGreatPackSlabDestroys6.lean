/-
  Texts of the claim SlabDestroys, part 6: what its theorem leans on.
-/
import Derived.Test.YtigikedbffjeiaaGreatPackSlabDestroys5
import Derived.Test.YtigikedbffjeiaaGreatPackSlabDestroys4
import Derived.Test.YtigikedbffjeiaaGreatPackSlabDestroys3
set_option linter.unusedVariables false
set_option linter.unusedSimpArgs false
namespace Go.Proofs.YtigikedbffjeiaaGreat
open Go.RowKit
set_option maxHeartbeats 4000000 in
theorem DeleteSlab_ans (A:Option Addr) (n c lo:Nat) (l:List Slab) (w:World) (hO:Own w lo 46 3 encSb A n c l) (i:Nat) (hi:i<n) (hn:n≤1000000000000000000) (hlo:lo≤w.heap.size) :
  AnsX Tryz.prog 47 [.slice A n c,.int .i64 (i:Int),.int .i64 ((i+1:Nat) : Int)] w fun v w'=>v = .slice A (n-1) c∧Own w' lo 46 3 encSb A (n-1) c (l.eraseIdx i)∧w.grownBy w' (ownB A c):=by
 refine ansx_of Tryz.func47 rfl Tryz.ntmps47 rfl ?_
 have hle:=hO.le
 have hll:=hO.len
 have hA:=hO.sl.base
 have hg0:w.grownBy w (ownB A c):=World.grownBy.refl _ _
 repeat' (first|(first|refine CW.seq ?_|refine CW.region ?_|refine CW.condd_f rfl (by omega) ?_|refine CW.skip ?_)|(refine Post.seq ?_)|refine SW.nil ?_|refine SW.pure rfl rfl ?_|(show SW _ _ _ _ (⟨_,Op.call ⟨.builtin .len,_,_⟩,_,_,_,none⟩::_) _ _;refine SW.st (st_len rfl) rfl ?_)|(refine SW.st (st_slice3 (i:=i) (j:=i+1) (k:=n) rfl rfl rfl rfl (by omega) (by omega) (by omega)) rfl ?_))
 all_goals first|(exfalso;omega)|skip
 have hw:=Ext.refl w
 have e0:i+(n-(i+1))=n-1:=by omega
 have el:l.take i++l.drop (i+1)=l.eraseIdx i:=by rw [List.eraseIdx_eq_take_drop_succ]
 refine CW.any 6 mixed (rb_tail (by kernel_rfl)) rfl fun w1 hw1 hRB => ?_
 replace hw:=Ext.trans hw hw1;replace hO:=hO.ext hw1;clear hw1
 refine SA.take 0 hRB rfl (by kernel_rfl) (by kernel_rfl) rfl ?_
 repeat (refine SW.pure rfl rfl ?_)
 refine SW.tknil ?_
 refine SA.take 1 hRB rfl (by kernel_rfl) (by kernel_rfl) rfl ?_
 repeat (refine SW.pure rfl rfl ?_)
 refine SW.tknil ?_
 refine SA.take 2 hRB rfl (by kernel_rfl) (by kernel_rfl) rfl ?_
 repeat ((refine SW.st (st_sliceHi (k:=i) rfl rfl (by omega)) rfl ?_))
 refine SW.tknil ?_
 refine SA.take 3 hRB rfl (by kernel_rfl) (by kernel_rfl) rfl ?_
 repeat (refine SW.pure rfl rfl ?_)
 refine SW.tknil ?_
 refine SA.take 4 hRB rfl (by kernel_rfl) (by kernel_rfl) rfl ?_
 repeat (refine SW.pure rfl rfl ?_)
 refine SW.tknil ?_
 refine SA.take 5 hRB rfl (by kernel_rfl) (by kernel_rfl) rfl ?_
 repeat ((refine SW.st (st_sliceLo (k:=i+1) rfl rfl (by omega) (by omega)) rfl ?_))
 refine SW.tknil ?_
 refine SA.done (by kernel_rfl) ?_
 refine SW.appendIn (hO.pre (i:=i) (by omega)) (hO.sl.drop (i+1) c (by omega) (by omega)) (by omega) rfl rfl rfl fun w2 hO2 hg => ?_
 rw [e0,el] at hO2
 rw [e0]
 have hG1:=(hw.gr (ownB A c))
 repeat' (first|(first|refine CW.seq ?_|refine CW.region ?_)|(first|refine Post.seq ?_|refine Post.np ?_)|refine SW.nil ?_|refine SW.pure rfl rfl ?_|(show SW _ _ _ _ (⟨_,Op.call ⟨.builtin .len,_,_⟩,_,_,_,none⟩::_) _ _;refine SW.st (st_len rfl) rfl ?_)|(refine SW.st (st_sliceLH (i:=n-1) (j:=n) rfl rfl rfl (by omega) (by omega)) rfl ?_))
 obtain ⟨g,rest,rfl,h1,h2,h3,h4,h5,h6⟩:=hO2.opened (by omega)
 have hfl:((l.eraseIdx i).flatMap encSb).length=(n-1)*3:=by rw [length_flatMap_enc,hO2.len]
 refine SW.clear ((n-1)*3) h2 rfl (by rw [List.length_append,hfl];omega) (fun h0 => ?_) (by decide) fun w3 cs hcs hB hg3 => ?_
 ·rw [if_neg (by omega)];simp [addr_of]
 ·have e7:=lay_mid ((l.eraseIdx i).flatMap encSb) (rest.take ((n-(n-1))*3)) (rest.drop ((n-(n-1))*3)) cs (by rw [hcs];simp;omega) (o:=(n-1)*3) hfl.symm
  rw [List.append_assoc (List.flatMap _ _),List.take_append_drop] at e7
  rw [e7,List.append_assoc] at hB
  have hO3:=Own.closed (l:=l.eraseIdx i) hO2.len hB (by rw [List.length_append,hcs];simp;omega) h4 (by omega) h5 h1
  rw [← h6] at hg3
  have hgg:=grown_trans (grown_trans hG1 hg (.inl rfl)) hg3 (.inl rfl)
  repeat' (first|(first|refine CW.seq ?_|refine CW.region ?_|refine CW.ret ?_)|(refine Post.seq ?_)|refine SW.nil ?_|refine SW.pure rfl rfl ?_)
  exact Post.ret1 rfl rfl ⟨_,rfl,rfl,hO3,hgg⟩
set_option maxHeartbeats 4000000 in
theorem DeleteByteArray_ans (A:Option Addr) (n c lo:Nat) (l:List ByteArray) (w:World) (hO:Own w lo 9 1 encStr A n c l) (i:Nat) (hi:i<n) (hn:n≤1000000000000000000) (hlo:lo≤w.heap.size) :
  AnsX Tryz.prog 30 [.slice A n c,.int .i64 (i:Int),.int .i64 ((i+1:Nat) : Int)] w fun v w'=>v = .slice A (n-1) c∧Own w' lo 9 1 encStr A (n-1) c (l.eraseIdx i)∧w.grownBy w' (ownB A c):=by
 refine ansx_of Tryz.func30 rfl Tryz.ntmps30 rfl ?_
 have hle:=hO.le
 have hll:=hO.len
 have hA:=hO.sl.base
 have hg0:w.grownBy w (ownB A c):=World.grownBy.refl _ _
 repeat' (first|(first|refine CW.seq ?_|refine CW.region ?_|refine CW.condd_f rfl (by omega) ?_|refine CW.skip ?_)|(refine Post.seq ?_)|refine SW.nil ?_|refine SW.pure rfl rfl ?_|(show SW _ _ _ _ (⟨_,Op.call ⟨.builtin .len,_,_⟩,_,_,_,none⟩::_) _ _;refine SW.st (st_len rfl) rfl ?_)|(refine SW.st (st_slice3 (i:=i) (j:=i+1) (k:=n) rfl rfl rfl rfl (by omega) (by omega) (by omega)) rfl ?_))
 all_goals first|(exfalso;omega)|skip
 have hw:=Ext.refl w
 have e0:i+(n-(i+1))=n-1:=by omega
 have el:l.take i++l.drop (i+1)=l.eraseIdx i:=by rw [List.eraseIdx_eq_take_drop_succ]
 refine CW.any 6 mixed (rb_tail (by kernel_rfl)) rfl fun w1 hw1 hRB => ?_
 replace hw:=Ext.trans hw hw1;replace hO:=hO.ext hw1;clear hw1
 refine SA.take 0 hRB rfl (by kernel_rfl) (by kernel_rfl) rfl ?_
 repeat (refine SW.pure rfl rfl ?_)
 refine SW.tknil ?_
 refine SA.take 1 hRB rfl (by kernel_rfl) (by kernel_rfl) rfl ?_
 repeat (refine SW.pure rfl rfl ?_)
 refine SW.tknil ?_
 refine SA.take 2 hRB rfl (by kernel_rfl) (by kernel_rfl) rfl ?_
 repeat ((refine SW.st (st_sliceHi (k:=i) rfl rfl (by omega)) rfl ?_))
 refine SW.tknil ?_
 refine SA.take 3 hRB rfl (by kernel_rfl) (by kernel_rfl) rfl ?_
 repeat (refine SW.pure rfl rfl ?_)
 refine SW.tknil ?_
 refine SA.take 4 hRB rfl (by kernel_rfl) (by kernel_rfl) rfl ?_
 repeat (refine SW.pure rfl rfl ?_)
 refine SW.tknil ?_
 refine SA.take 5 hRB rfl (by kernel_rfl) (by kernel_rfl) rfl ?_
 repeat ((refine SW.st (st_sliceLo (k:=i+1) rfl rfl (by omega) (by omega)) rfl ?_))
 refine SW.tknil ?_
 refine SA.done (by kernel_rfl) ?_
 refine SW.appendIn (hO.pre (i:=i) (by omega)) (hO.sl.drop (i+1) c (by omega) (by omega)) (by omega) rfl rfl rfl fun w2 hO2 hg => ?_
 rw [e0,el] at hO2
 rw [e0]
 have hG1:=(hw.gr (ownB A c))
 repeat' (first|(first|refine CW.seq ?_|refine CW.region ?_)|(first|refine Post.seq ?_|refine Post.np ?_)|refine SW.nil ?_|refine SW.pure rfl rfl ?_|(show SW _ _ _ _ (⟨_,Op.call ⟨.builtin .len,_,_⟩,_,_,_,none⟩::_) _ _;refine SW.st (st_len rfl) rfl ?_)|(refine SW.st (st_sliceLH (i:=n-1) (j:=n) rfl rfl rfl (by omega) (by omega)) rfl ?_))
 obtain ⟨g,rest,rfl,h1,h2,h3,h4,h5,h6⟩:=hO2.opened (by omega)
 have hfl:((l.eraseIdx i).flatMap encStr).length=(n-1)*1:=by rw [length_flatMap_enc,hO2.len]
 refine SW.clear ((n-1)*1) h2 rfl (by rw [List.length_append,hfl];omega) (fun h0 => ?_) (by decide) fun w3 cs hcs hB hg3 => ?_
 ·rw [if_neg (by omega)];simp [addr_of]
 ·have e7:=lay_mid ((l.eraseIdx i).flatMap encStr) (rest.take ((n-(n-1))*1)) (rest.drop ((n-(n-1))*1)) cs (by rw [hcs];simp;omega) (o:=(n-1)*1) hfl.symm
  rw [List.append_assoc (List.flatMap _ _),List.take_append_drop] at e7
  rw [e7,List.append_assoc] at hB
  have hO3:=Own.closed (l:=l.eraseIdx i) hO2.len hB (by rw [List.length_append,hcs];simp;omega) h4 (by omega) h5 h1
  rw [← h6] at hg3
  have hgg:=grown_trans (grown_trans hG1 hg (.inl rfl)) hg3 (.inl rfl)
  repeat' (first|(first|refine CW.seq ?_|refine CW.region ?_|refine CW.ret ?_)|(refine Post.seq ?_)|refine SW.nil ?_|refine SW.pure rfl rfl ?_)
  exact Post.ret1 rfl rfl ⟨_,rfl,rfl,hO3,hgg⟩
set_option maxHeartbeats 4000000 in
theorem DeleteCRow_ans (A:Option Addr) (n c lo:Nat) (l:List CRow) (w:World) (hO:Own w lo 44 6 encC A n c l) (i:Nat) (hi:i<n) (hn:n≤1000000000000000000) (hlo:lo≤w.heap.size) :
  AnsX Tryz.prog 33 [.slice A n c,.int .i64 (i:Int),.int .i64 ((i+1:Nat) : Int)] w fun v w'=>v = .slice A (n-1) c∧Own w' lo 44 6 encC A (n-1) c (l.eraseIdx i)∧w.grownBy w' (ownB A c):=by
 refine ansx_of Tryz.func33 rfl Tryz.ntmps33 rfl ?_
 have hle:=hO.le
 have hll:=hO.len
 have hA:=hO.sl.base
 have hg0:w.grownBy w (ownB A c):=World.grownBy.refl _ _
 repeat' (first|(first|refine CW.seq ?_|refine CW.region ?_|refine CW.condd_f rfl (by omega) ?_|refine CW.skip ?_)|(refine Post.seq ?_)|refine SW.nil ?_|refine SW.pure rfl rfl ?_|(show SW _ _ _ _ (⟨_,Op.call ⟨.builtin .len,_,_⟩,_,_,_,none⟩::_) _ _;refine SW.st (st_len rfl) rfl ?_)|(refine SW.st (st_slice3 (i:=i) (j:=i+1) (k:=n) rfl rfl rfl rfl (by omega) (by omega) (by omega)) rfl ?_))
 all_goals first|(exfalso;omega)|skip
 have hw:=Ext.refl w
 have e0:i+(n-(i+1))=n-1:=by omega
 have el:l.take i++l.drop (i+1)=l.eraseIdx i:=by rw [List.eraseIdx_eq_take_drop_succ]
 refine CW.any 6 mixed (rb_tail (by kernel_rfl)) rfl fun w1 hw1 hRB => ?_
 replace hw:=Ext.trans hw hw1;replace hO:=hO.ext hw1;clear hw1
 refine SA.take 0 hRB rfl (by kernel_rfl) (by kernel_rfl) rfl ?_
 repeat (refine SW.pure rfl rfl ?_)
 refine SW.tknil ?_
 refine SA.take 1 hRB rfl (by kernel_rfl) (by kernel_rfl) rfl ?_
 repeat (refine SW.pure rfl rfl ?_)
 refine SW.tknil ?_
 refine SA.take 2 hRB rfl (by kernel_rfl) (by kernel_rfl) rfl ?_
 repeat ((refine SW.st (st_sliceHi (k:=i) rfl rfl (by omega)) rfl ?_))
 refine SW.tknil ?_
 refine SA.take 3 hRB rfl (by kernel_rfl) (by kernel_rfl) rfl ?_
 repeat (refine SW.pure rfl rfl ?_)
 refine SW.tknil ?_
 refine SA.take 4 hRB rfl (by kernel_rfl) (by kernel_rfl) rfl ?_
 repeat (refine SW.pure rfl rfl ?_)
 refine SW.tknil ?_
 refine SA.take 5 hRB rfl (by kernel_rfl) (by kernel_rfl) rfl ?_
 repeat ((refine SW.st (st_sliceLo (k:=i+1) rfl rfl (by omega) (by omega)) rfl ?_))
 refine SW.tknil ?_
 refine SA.done (by kernel_rfl) ?_
 refine SW.appendIn (hO.pre (i:=i) (by omega)) (hO.sl.drop (i+1) c (by omega) (by omega)) (by omega) rfl rfl rfl fun w2 hO2 hg => ?_
 rw [e0,el] at hO2
 rw [e0]
 have hG1:=(hw.gr (ownB A c))
 repeat' (first|(first|refine CW.seq ?_|refine CW.region ?_)|(first|refine Post.seq ?_|refine Post.np ?_)|refine SW.nil ?_|refine SW.pure rfl rfl ?_|(show SW _ _ _ _ (⟨_,Op.call ⟨.builtin .len,_,_⟩,_,_,_,none⟩::_) _ _;refine SW.st (st_len rfl) rfl ?_)|(refine SW.st (st_sliceLH (i:=n-1) (j:=n) rfl rfl rfl (by omega) (by omega)) rfl ?_))
 obtain ⟨g,rest,rfl,h1,h2,h3,h4,h5,h6⟩:=hO2.opened (by omega)
 have hfl:((l.eraseIdx i).flatMap encC).length=(n-1)*6:=by rw [length_flatMap_enc,hO2.len]
 refine SW.clear ((n-1)*6) h2 rfl (by rw [List.length_append,hfl];omega) (fun h0 => ?_) (by decide) fun w3 cs hcs hB hg3 => ?_
 ·rw [if_neg (by omega)];simp [addr_of]
 ·have e7:=lay_mid ((l.eraseIdx i).flatMap encC) (rest.take ((n-(n-1))*6)) (rest.drop ((n-(n-1))*6)) cs (by rw [hcs];simp;omega) (o:=(n-1)*6) hfl.symm
  rw [List.append_assoc (List.flatMap _ _),List.take_append_drop] at e7
  rw [e7,List.append_assoc] at hB
  have hO3:=Own.closed (l:=l.eraseIdx i) hO2.len hB (by rw [List.length_append,hcs];simp;omega) h4 (by omega) h5 h1
  rw [← h6] at hg3
  have hgg:=grown_trans (grown_trans hG1 hg (.inl rfl)) hg3 (.inl rfl)
  repeat' (first|(first|refine CW.seq ?_|refine CW.region ?_|refine CW.ret ?_)|(refine Post.seq ?_)|refine SW.nil ?_|refine SW.pure rfl rfl ?_)
  exact Post.ret1 rfl rfl ⟨_,rfl,rfl,hO3,hgg⟩
open Go.RowKit
theorem CloneStr_ans (A:Option Addr) (n c:Nat) (l:List ByteArray) (w:World) (hl:Sl w 1 encStr A n l) (hn:n*16≤140737488355328) : Ans Tryz.prog 64 [.slice A n c] w (Copied w 9 1 encStr n l):=by
 refine ans_of Tryz.func64 rfl Tryz.ntmps64 rfl ?_
 have hw:=Ext.refl w
 repeat' (first|(first|refine CW.seq ?_|refine CW.region ?_)|(refine Post.seq ?_)|refine SW.nil ?_|refine SW.pure rfl rfl ?_)
 refine SW.st (st_eqnil rfl rfl) rfl ?_
 repeat' (first|(first|refine CW.seq ?_|refine CW.region ?_|refine CW.cond rfl (fun h => ?_) (fun h => ?_)|refine CW.skip ?_|refine CW.ret ?_)|(first|refine Post.seq ?_|refine Post.seq_ret ?_)|refine SW.nil ?_|refine SW.pure rfl rfl ?_)
 ·have hn0:n=0:=by
   rcases Nat.eq_zero_or_pos n with h0|h0
   ·exact h0
   ·have:=hl.base h0;simp_all
  subst hn0
  have:l=[]:=List.eq_nil_of_length_eq_zero hl.len
  subst this
  exact Post.ret1 rfl rfl ⟨_,rfl,hw,none,0,rfl,Own.nil_ _ _ _ _ _ _⟩
 ·refine SW.build0 rfl fun b w1 hw1 hb => ?_
  replace hw:=Ext.trans hw hw1
  repeat' (refine SW.pure rfl rfl ?_)
  refine SW.appendR (Nat.zero_add n) (List.nil_append l) (Own.nil_ w1 w.heap.size _ _ encStr (some ⟨b,0,none⟩)) (hl.ext hw) hw.size rfl rfl rfl (by omega) (by omega) fun A2 c2 w2 hO hg => ?_
  replace hw:=ext_grown hw hg (Nat.le_refl _) (by simp [ownB])
  repeat' (first|(refine CW.ret ?_)|(refine Post.seq ?_)|refine SW.nil ?_|refine SW.pure rfl rfl ?_)
  exact Post.ret1 rfl rfl ⟨_,rfl,hw,A2,c2,rfl,hO⟩
open Go.RowKit
def apart (a b:Sli) : Prop := ∀ k,ownB a.A a.c=some k→ownB b.A b.c≠some k
theorem apart_new {α : Type} {w:World} {lo:Nat} {e:TypeId} {sz:Nat} {enc : α → List Value} {a b:Sli} {l:List α} (h:Own w lo e sz enc a.A a.n a.c l) (hb:∀ k,ownB b.A b.c=some k→w.heap.size≤k) : apart a b:=fun k h1 h2=>by
 have:=h.lt_size k h1
 have:=hb k h2
 omega
structure CApart (u v:CRow) : Prop where
 names:apart u.Names v.Names
 slabs:apart u.Slabs v.Slabs
 active:apart u.Active v.Active
structure SepC (words:Sli) (cs:List CRow) : Prop where
 pair:cs.Pairwise CApart
 words:∀ u∈cs,apart words u.Active
theorem SepC.nil (x:Sli) : SepC x []:=⟨.nil,fun _ h=>by simp at h⟩
theorem SepC.snoc {x:Sli} {cs:List CRow} {v:CRow} (h:SepC x cs) (h1:∀ u∈cs,CApart u v) (h2:apart x v.Active) : SepC x (cs++[v]):=by
 refine ⟨List.pairwise_append.2 ⟨h.pair,by simp,fun a ha b hb => ?_⟩,fun u hu => ?_⟩
 ·simp at hb;subst hb;exact h1 a ha
 ·rcases List.mem_append.1 hu with hu|hu
  ·exact h.words u hu
  ·simp at hu;subst hu;exact h2
theorem OwnCs.mem {w:World} {lo:Nat} {s:Sli} {cs:List CRow} {l:List KCache} (h:OwnCs w lo s cs l) {u:CRow} (hu:u∈cs) : ∃ c,OwnC w lo u c:=by
 obtain ⟨i,hi,rfl⟩:=List.getElem_of_mem hu
 exact ⟨_,h.each.get i hi (by rw [← h.each.len];exact hi)⟩
theorem OwnCs.apN {w:World} {lo:Nat} {s:Sli} {cs:List CRow} {l:List KCache} (h:OwnCs w lo s cs l) {b:Sli} (hb:∀ k,ownB b.A b.c=some k→w.heap.size≤k) : ∀ u∈cs,apart u.Names b:=fun u hu=>by
 obtain ⟨c,hc⟩:=h.mem hu
 exact apart_new hc.names hb
theorem OwnCs.apS {w:World} {lo:Nat} {s:Sli} {cs:List CRow} {l:List KCache} (h:OwnCs w lo s cs l) {b:Sli} (hb:∀ k,ownB b.A b.c=some k→w.heap.size≤k) : ∀ u∈cs,apart u.Slabs b:=fun u hu=>by
 obtain ⟨c,hc⟩:=h.mem hu
 exact apart_new hc.slabs hb
theorem OwnCs.apA {w:World} {lo:Nat} {s:Sli} {cs:List CRow} {l:List KCache} (h:OwnCs w lo s cs l) {b:Sli} (hb:∀ k,ownB b.A b.c=some k→w.heap.size≤k) : ∀ u∈cs,apart u.Active b:=fun u hu=>by
 obtain ⟨c,hc⟩:=h.mem hu
 exact apart_new hc.active hb
open Go.RowKit
theorem ZoneNew_ans (f t:Int) (w:World) (hf : -9223372036854775808≤f∧f≤9223372036854775807) (ht : -9223372036854775808≤t∧t≤9223372036854775807) : Ans Tryz.prog 122 [.int .i64 f,.int .i64 t] w (ZoneOut w.heap.size (zoneNewV f t)):=by
  refine ans_of Tryz.func122 rfl Tryz.ntmps122 rfl ?_
  refine CW.seq (CW.region (SW.alloc rfl fun b4 w1 hw hb4b hb4 => ?_))
  have hb4w:=hb4b
  by_cases hok:zoneOk f t
  · obtain ⟨h1,h2,h3,h4,h5⟩:=id hok
    have m1:=tmod16 h1
    have m2:=tmod16 (show 0≤t by omega)
    rw [zoneNewV_t hok]
    obtain ⟨k,hk⟩ : ∃ k:Nat,(t-f) / 8=k:=⟨((t-f) / 8).toNat,by omega⟩
    repeat' (first|(first|refine CW.seq ?_|refine CW.region ?_|refine CW.condn_f rfl (by omega) ?_|refine CW.skip ?_)|(refine Post.seq ?_)|refine SW.nil ?_|(show SW _ _ _ _ (⟨_,_,_,_,_,some _⟩::_) _ _;first|refine SW.want_f rfl rfl (by with_reducible rfl) ?_|refine SW.splitn_f rfl rfl rfl (by omega) ?_)|refine SW.pure rfl rfl ?_|(show SW _ _ _ _ (⟨_,Op.build _ _,_,_,_,none⟩::_) _ _;refine SW.st (st_build rfl rfl) rfl ?_)|(show SW _ _ _ _ (⟨_,Op.binOp _ _ _ _ _,_,_,_,none⟩::_) _ _;refine SW.st (st_rem rfl rfl (by omega)) rfl ?_)|(show SW _ _ _ _ (⟨_,Op.call ⟨.value (.func _),_,_⟩,_,_,_,none⟩::_) _ _;(refine SW.call rfl rfl (In_ans _ _ _ _) ?_;intro v w1 hw1 hv;subst hv;replace hw:=Ext.trans hw hw1;replace hb4:=hb4.ext hw1;clear hw1)))
    refine SW.alloc rfl fun b6 w1 hw1 hb6b hb6 => ?_
    have hb6w:w.heap.size≤b6:=Nat.le_trans hw.size hb6b
    have hne_b4:b4≠b6:=by have:=hb4.lt;omega
    replace hw:=Ext.trans hw hw1
    replace hb4:=hb4.ext hw1
    refine SW.storeAgg hb6 rfl rfl rfl rfl (one_z ⟨f,t,.nil,.nil⟩) fun w2 hb6' hg => ?_
    replace hw:=hw.own hb6w hg
    replace hb4:=hb4.grown hg (by simpa using hne_b4)
    replace hb6:=hb6'
    clear hb6' hw1 hg hb6b
    repeat' (first|(first|refine CW.seq ?_|refine CW.region ?_|refine CW.block ?_)|(refine Post.seq ?_)|refine SW.nil ?_|refine SW.pure rfl rfl ?_)
    refine CW.loop (fun s:Nat×Option Addr×Nat=>[(1,.int .i64 t),(4,.pointer (some ⟨b4,0,none⟩)),(6,.pointer (some ⟨b6,0,none⟩)),(7,.int .i64 (f+8*(s.1:Int)))])
      (fun s w'=>s.1≤k∧Ext w w'∧Blk w' b4 72 (encZ .zero)∧Blk w' b6 72 (encZ ⟨f,t,.nil,⟨s.2.1,s.1,s.2.2⟩⟩)∧Own w' w.heap.size 3 1 encI s.2.1 s.1 s.2.2 (List.replicate s.1 1)) (fun s=>k-s.1) (0,none,0)
      ⟨rfl,rfl,rfl,by simp;rfl,trivial⟩ ⟨by omega,hw,hb4,hb6,Own.nil_ _ _ _ _ _ _⟩ ?_
    clear hw hb4 hb6
    rintro ⟨i,A,c⟩ w' ⟨hi,hw,hb4,hb6,hO⟩
    simp only at hi hb6 hO ⊢
    by_cases hik:i<k
    · repeat' (first|(first|refine CW.seq ?_|refine CW.region ?_|refine CW.block ?_|refine CW.condd_t rfl (by omega) ?_|refine CW.skip ?_)|(refine Post.seq ?_)|refine SW.nil ?_|refine SW.pure rfl rfl ?_|(show SW _ _ _ _ (⟨_,Op.fieldAddr _ _ _,_,_,_,none⟩::_) _ _;refine SW.st (st_field rfl) rfl ?_)|(show SW _ _ _ _ (⟨_,Op.load _ _,_,_,_,none⟩::_) _ _;refine SW.st (st_load rfl (hb6.cell rfl)) rfl ?_))
      refine SW.build1 rfl rfl rfl rfl rfl fun b w1 hw1 hb hB => ?_
      (replace hw:=Ext.trans hw hw1;replace hb4:=hb4.ext hw1;replace hb6:=hb6.ext hw1;replace hO:=hO.ext hw1)
      refine SW.append hO (Blk.sl1 (enc:=encI) (x:=1) hB) hw.size rfl rfl rfl (by omega) (by omega) fun A2 c2 w2 hO1 hg => ?_
      replace hw:=ext_grown hw hg (Nat.le_refl _) hO.row_ge
      replace hb4:=hb4.grown hg (fun e=>hO.ne_blk hb4 rfl e.symm)
      replace hb6:=hb6.grown hg (fun e=>hO.ne_blk hb6 rfl e.symm)
      repeat' ((show SW _ _ _ _ (⟨_,Op.fieldAddr _ _ _,_,_,_,none⟩::_) _ _;refine SW.st (st_field rfl) rfl ?_))
      refine SW.storeB (i:=3) hb6 rfl rfl rfl rfl fun w5 hb6' hg => ?_
      replace hw:=hw.own hb6w hg
      replace hO1:=hO1.grown hg (.inr (hO1.ne_blk hb6 rfl))
      replace hb4:=hb4.grown hg (by simpa using hne_b4)
      repeat' (first|(refine CW.region ?_)|(first|refine Post.seq ?_|refine Post.blk ?_)|refine SW.nil ?_|refine SW.pure rfl rfl ?_|(show SW _ _ _ _ (⟨_,Op.binOp _ _ _ _ _,_,_,_,none⟩::_) _ _;refine SW.st (st_add rfl rfl (by omega) (by omega)) rfl ?_))
      refine Post.again (i+1,A2,c2) ⟨rfl,rfl,rfl,by simp only [get];simp;omega,trivial⟩ (by simp only;omega) ⟨by simp only;omega,hw,hb4,hb6',?_⟩
      simp only [List.replicate_succ']
      exact hO1
    · obtain rfl:i=k:=by omega
      repeat' (first|(first|refine CW.seq ?_|refine CW.region ?_|refine CW.condd_f rfl (by omega) ?_|refine CW.exit ?_)|(first|refine Post.seq ?_|refine Post.seq_exit ?_|refine Post.hit ?_|refine Post.again_exit ?_)|refine SW.nil ?_|refine SW.pure rfl rfl ?_|(show SW _ _ _ _ (⟨_,Op.load _ _,_,_,_,none⟩::_) _ _;refine SW.st (st_loads rfl rfl ((fun _ _=>hb6.cell))) rfl ?_))
      refine SW.storeAgg hb4 rfl rfl rfl rfl (one_z ⟨f,t,.nil,⟨A,i,c⟩⟩) fun w5 hR2 hg => ?_
      replace hw:=hw.own hb4w hg
      replace hO:=hO.grown hg (.inr (hO.ne_blk hb4 rfl))
      repeat' (first|(refine CW.ret ?_)|(refine Post.seq ?_)|refine SW.nil ?_|refine SW.pure rfl rfl ?_)
      refine Post.ret2c rfl rfl rfl hR2 rfl ⟨_,rfl,hw,⟨f,t,.nil,⟨A,i,c⟩⟩,rfl,rfl,rfl,Own.nil_ _ _ _ _ _ _,?_⟩
      simp only [hk,Int.toNat_natCast]
      exact hO
  · rw [zoneNewV_f hok]
    unfold zoneOk at hok
    have m1:=fun h => @tmod16 f h
    have m2:=fun h => @tmod16 t h
    by_cases h1 : 0≤f
    · have m1:=m1 h1
      by_cases h2:f≤t
      · have m2:=m2 (by omega)
        repeat' (first|(first|refine CW.seq ?_|refine CW.region ?_|refine CW.condtr rfl (by with_reducible rfl) ?_|refine CW.condn_t rfl (by omega) ?_)|(refine Post.seq ?_)|refine SW.nil ?_|(show SW _ _ _ _ (⟨_,_,_,_,_,some _⟩::_) _ _;first|refine SW.want_f rfl rfl (by with_reducible rfl) ?_|refine SW.skip_f rfl rfl (by with_reducible rfl) rfl ?_|refine SW.splitn rfl rfl rfl (fun h => ?_) (fun h => ?_))|refine SW.pure rfl rfl ?_|(show SW _ _ _ _ (⟨_,Op.build _ _,_,_,_,none⟩::_) _ _;refine SW.st (st_build rfl rfl) rfl ?_)|(show SW _ _ _ _ (⟨_,Op.binOp _ _ _ _ _,_,_,_,none⟩::_) _ _;refine SW.st (st_rem rfl rfl (by omega)) rfl ?_)|(show SW _ _ _ _ (⟨_,Op.call ⟨.value (.func _),_,_⟩,_,_,_,none⟩::_) _ _;(refine SW.call rfl rfl (In_ans _ _ _ _) ?_;intro v w1 hw1 hv;subst hv;replace hw:=Ext.trans hw hw1;replace hb4:=hb4.ext hw1;clear hw1)))
        all_goals
          first
            | (exfalso;omega)
            | (refine SW.storeAgg hb4 rfl rfl rfl rfl (one_z .zero) fun w5 hR2 hg => ?_
               replace hw:=hw.own hb4w hg
               repeat' (first|(refine CW.ret ?_)|(first|refine Post.seq ?_|refine Post.seq_ret ?_)|refine SW.nil ?_|refine SW.pure rfl rfl ?_)
               exact Post.ret2c rfl rfl rfl hR2 rfl ⟨_,rfl,hw,.zero,rfl,OwnZ.zero _ _⟩)
      · repeat' (first|(first|refine CW.seq ?_|refine CW.region ?_|refine CW.condtr rfl (by with_reducible rfl) ?_)|(refine Post.seq ?_)|refine SW.nil ?_|(show SW _ _ _ _ (⟨_,_,_,_,_,some _⟩::_) _ _;first|refine SW.want_f rfl rfl (by with_reducible rfl) ?_|refine SW.skip_f rfl rfl (by with_reducible rfl) rfl ?_|refine SW.splitn_t rfl rfl rfl (by omega) ?_|refine SW.splitn rfl rfl rfl (fun h => ?_) (fun h => ?_))|refine SW.pure rfl rfl ?_|(show SW _ _ _ _ (⟨_,Op.build _ _,_,_,_,none⟩::_) _ _;refine SW.st (st_build rfl rfl) rfl ?_)|(show SW _ _ _ _ (⟨_,Op.call ⟨.value (.func _),_,_⟩,_,_,_,none⟩::_) _ _;(refine SW.call rfl rfl (In_ans _ _ _ _) ?_;intro v w1 hw1 hv;subst hv;replace hw:=Ext.trans hw hw1;replace hb4:=hb4.ext hw1;clear hw1)))
        all_goals
          refine SW.storeAgg hb4 rfl rfl rfl rfl (one_z .zero) fun w5 hR2 hg => ?_
          replace hw:=hw.own hb4w hg
          repeat' (first|(refine CW.ret ?_)|(first|refine Post.seq ?_|refine Post.seq_ret ?_)|refine SW.nil ?_|refine SW.pure rfl rfl ?_)
          exact Post.ret2c rfl rfl rfl hR2 rfl ⟨_,rfl,hw,.zero,rfl,OwnZ.zero _ _⟩
    · repeat' (first|(first|refine CW.seq ?_|refine CW.region ?_|refine CW.condtr rfl (by with_reducible rfl) ?_)|(refine Post.seq ?_)|refine SW.nil ?_|(show SW _ _ _ _ (⟨_,_,_,_,_,some _⟩::_) _ _;first|refine SW.skip_f rfl rfl (by with_reducible rfl) rfl ?_|refine SW.splitn_t rfl rfl rfl (by omega) ?_)|refine SW.pure rfl rfl ?_|(show SW _ _ _ _ (⟨_,Op.build _ _,_,_,_,none⟩::_) _ _;refine SW.st (st_build rfl rfl) rfl ?_)|(show SW _ _ _ _ (⟨_,Op.call ⟨.value (.func _),_,_⟩,_,_,_,none⟩::_) _ _;(refine SW.call rfl rfl (In_ans _ _ _ _) ?_;intro v w1 hw1 hv;subst hv;replace hw:=Ext.trans hw hw1;replace hb4:=hb4.ext hw1;clear hw1)))
      all_goals
        refine SW.storeAgg hb4 rfl rfl rfl rfl (one_z .zero) fun w5 hR2 hg => ?_
        replace hw:=hw.own hb4w hg
        repeat' (first|(refine CW.ret ?_)|(first|refine Post.seq ?_|refine Post.seq_ret ?_)|refine SW.nil ?_|refine SW.pure rfl rfl ?_)
        exact Post.ret2c rfl rfl rfl hR2 rfl ⟨_,rfl,hw,.zero,rfl,OwnZ.zero _ _⟩
open Go.RowKit
section
variable {P:Program} {L:Env} {w:World} {d:Option Nat} {T:TypeId} {pos:String} {af:Array Edge} {g:Option (Nat×Bool)}
theorem st_xor {t ty:TypeId} {x y:Operand} {i j:Int} (a b:Nat) (hx:opv L x=some (.int .i64 i)) (hy:opv L y=some (.int .i64 j)) (ha:i=(a:Int)) (hb:j=(b:Int)) (ha':a<9223372036854775808) (hb':b<9223372036854775808) :
  St P ⟨d,.binOp .xor t x y ty,T,pos,af,g⟩ L w (.int .i64 ((a ^^^ b:Nat) : Int)) :=
 ⟨fun n A hA w' _=>by
  have e1:=hA.eval hx
  have e2:=hA.eval hy
  subst ha hb
  generalize A.eval = ρ at *
  have hlt:a ^^^ b<2 ^ 63:=Nat.xor_lt_two_pow (by omega) (by omega)
  have e:(BitVec.ofInt 64 (a:Int) ^^^ BitVec.ofInt 64 (b:Int)).toNat=a ^^^ b:=by
   rw [BitVec.toNat_xor,BitVec.ofInt_natCast,BitVec.ofInt_natCast,BitVec.toNat_ofNat,BitVec.toNat_ofNat,Nat.mod_eq_of_lt (by omega),Nat.mod_eq_of_lt (by omega)]
  have hb1:(Op.intBits .xor .i64 (a:Int) (b:Int)).run P w' = .ok (.int .i64 ((a ^^^ b:Nat) : Int)) w':=by
   have:Op.intBits .xor .i64 (a:Int) (b:Int)=(pure (.int .i64 (IntKind.i64.wrap ((BitVec.ofInt 64 (a:Int) ^^^ BitVec.ofInt 64 (b:Int)).toNat:Nat))) : Sem Value):=rfl
   rw [this,e,wrap_in (by omega) (by omega)]
   rfl
  have hb2:(binOp .xor t (.int .i64 (a:Int)) (.int .i64 (b:Int))).run P w' = .ok (.int .i64 ((a ^^^ b:Nat) : Int)) w':=by
   have:binOp .xor t (.int .i64 (a:Int)) (.int .i64 (b:Int))=Op.intBits .xor .i64 (a:Int) (b:Int):=by simp [binOp]
   rw [this,hb1]
  simp [execOp,e1,e2,eqGuard,hb2]⟩
theorem st_beside {t ty:TypeId} {x y:Operand} {i j:Int} (a o:Int) (hx:opv L x=some (.int .i64 i)) (hy:opv L y=some (.int .i64 j)) (hi:i=a) (hj:j=pw o) (h : 0≤a∧a<256∧0≤o∧o<4∧a % pw o=0) :
  St P ⟨d,.binOp .xor t x y ty,T,pos,af,g⟩ L w (.int .i64 (beside a o)):=by
 obtain ⟨h1,h2,h3,h4,h5⟩:=h
 subst hi hj
 obtain ⟨k,rfl⟩:=Int.eq_ofNat_of_zero_le h1
 have hp:=pw_le h3 (by omega)
 have e:pw o=((2 ^ o.toNat:Nat) : Int):=by unfold pw;simp
 have hlt:(2 ^ o.toNat:Nat)<9223372036854775808:=by omega
 have:=st_xor (P:=P) (t:=t) (ty:=ty) (w:=w) (d:=d) (T:=T) (pos:=pos) (af:=af) (g:=g) k (2 ^ o.toNat) hx hy rfl e (by omega) hlt
 rw [xor_beside (by omega) h3 h4 h5] at this
 exact this
end
theorem power_ans (z:Int) (h : 0≤z∧z≤5) (w:World) : Ans Tryz.prog 103 [.int .i64 z] w fun v _=>v = .int .i64 (pw z):=by
 refine ans_of Tryz.func103 rfl Tryz.ntmps103 rfl ?_
 have hw:=Ext.refl w
 obtain ⟨m,rfl⟩:=Int.eq_ofNat_of_zero_le h.1
 repeat' (first|(first|refine CW.seq ?_|refine CW.region ?_|refine CW.block ?_)|(refine Post.seq ?_)|refine SW.nil ?_|refine SW.pure rfl rfl ?_)
 refine CW.loop (fun k:Nat=>[(0,.int .i64 ((m-k:Nat) : Int)),(3,.int .i64 (pw k))]) (fun k w'=>k≤m∧Ext w w') (fun k=>m-k) 0 ⟨by simp;rfl,rfl,trivial⟩ ⟨by omega,hw⟩ ?_
 clear hw
 rintro k w' ⟨hk,hw⟩
 by_cases hkm:k<m
 ·have hp:=pw_le (o:=(k:Int)) (by omega) (by omega)
  have hs:=pw_succ (o:=(k:Int)) (by omega) (by omega)
  repeat' (first|(first|refine CW.seq ?_|refine CW.region ?_|refine CW.block ?_|refine CW.condd_t rfl (by omega) ?_|refine CW.skip ?_)|(first|refine Post.seq ?_|refine Post.blk ?_)|refine SW.nil ?_|refine SW.pure rfl rfl ?_|(show SW _ _ _ _ (⟨_,Op.binOp _ _ _ _ _,_,_,_,none⟩::_) _ _;first|refine SW.st (st_sub rfl rfl (by omega) (by omega)) rfl ?_|refine SW.st (st_mul rfl rfl (by omega) (by omega)) rfl ?_))
  have e1:((m-k:Nat) : Int)-1=((m-(k+1) : Nat) : Int):=by omega
  have e2 : 2*pw (k:Int)=pw ((k+1:Nat) : Int):=by rw [← hs];rfl
  exact Post.again (k+1) ⟨congrArg (fun z=>some (Value.int .i64 z)) e1,congrArg (fun z=>some (Value.int .i64 z)) e2,trivial⟩ (by omega) ⟨by omega,hw⟩
 ·obtain rfl:k=m:=by omega
  repeat' (first|(first|refine CW.seq ?_|refine CW.region ?_|refine CW.condd_f rfl (by omega) ?_|refine CW.ret ?_|refine CW.exit ?_)|(first|refine Post.seq ?_|refine Post.seq_exit ?_|refine Post.hit ?_|refine Post.again_exit ?_)|refine SW.nil ?_|refine SW.pure rfl rfl ?_)
  exact Post.ret1 rfl rfl ⟨_,rfl,hw,rfl⟩
theorem Zfits_ans (r:ZRow) (b:Block) (w:World) (h0 : 0≤r.From) : Ans Tryz.prog 118 [.agg (encZ r).toArray,.agg (encBk b).toArray] w fun v _=>v = .bool (decide (fitsZ r.From r.To b.At b.Order)):=by
 refine ans_of Tryz.func118 rfl Tryz.ntmps118 rfl ?_
 refine CW.seq (CW.region (SW.box rfl rfl fun b1 w1 hw hb1 h1 => ?_))
 refine SW.box rfl rfl fun b2 w2 hw2 hb2 h2 => ?_
 (replace hw:=Ext.trans hw hw2;replace h1:=h1.ext hw2)
 by_cases hf:fitsZ r.From r.To b.At b.Order
 ·obtain ⟨a1,a2,a3,a4,a5⟩:=id hf
  have hp:=pw_le a1 a2
  rw [decide_eq_true hf]
  have e:b.At.tmod (pw b.Order)=0:=by rw [Int.tmod_eq_emod_of_nonneg (by omega)];exact a5
  repeat' (first|(first|refine CW.seq ?_|refine CW.ret ?_|(apply CW.quiet1 mixed;(· kernel_rfl);rotate_left;intro w1 hw1;replace hw:=Ext.trans hw hw1;replace h1:=h1.ext hw1;replace h2:=h2.ext hw1;clear hw1;rotate_right))|(refine Post.seq ?_)|refine SW.nil ?_|(show SW _ _ _ _ (⟨_,_,_,_,_,some _⟩::_) _ _;first|refine SW.want_t rfl rfl (by with_reducible rfl) ?_|refine SW.splitd_t rfl rfl rfl (by omega) ?_)|refine SW.pure rfl rfl ?_|(show SW _ _ _ _ (⟨_,Op.fieldAddr _ _ _,_,_,_,none⟩::_) _ _;refine SW.st (st_field rfl) rfl ?_)|(show SW _ _ _ _ (⟨_,Op.binOp _ _ _ _ _,_,_,_,none⟩::_) _ _;refine SW.st (st_rem rfl rfl (by omega)) rfl ?_)|(show SW _ _ _ _ (⟨_,Op.load _ _,_,_,_,none⟩::_) _ _;first|refine SW.st (st_load rfl (h1.cell rfl)) rfl ?_|refine SW.st (st_load rfl (h2.cell rfl)) rfl ?_)|(refine SW.st (st_shl (r:=pw b.Order) rfl rfl (by omega) (by omega) (by simp [pw]) (by omega) (by omega)) rfl ?_)|exact SW.qnil rfl)
  exact Post.ret1 rfl rfl ⟨_,rfl,hw,by simp [e]⟩
 ·rw [decide_eq_false hf]
  by_cases a1 : 0≤b.Order
  ·by_cases a2:b.Order≤4
   ·by_cases a3:r.From≤b.At
    ·by_cases a4:b.At<r.To
     ·have hp:=pw_le a1 a2
      have e:b.At.tmod (pw b.Order)≠0:=by
       rw [Int.tmod_eq_emod_of_nonneg (by omega)]
       exact fun a5=>hf ⟨a1,a2,a3,a4,a5⟩
      repeat' (first|(first|refine CW.seq ?_|refine CW.ret ?_|(apply CW.quiet1 mixed;(· kernel_rfl);rotate_left;intro w1 hw1;replace hw:=Ext.trans hw hw1;replace h1:=h1.ext hw1;replace h2:=h2.ext hw1;clear hw1;rotate_right))|(refine Post.seq ?_)|refine SW.nil ?_|(show SW _ _ _ _ (⟨_,_,_,_,_,some _⟩::_) _ _;first|refine SW.want_t rfl rfl (by with_reducible rfl) ?_|refine SW.splitd_t rfl rfl rfl (by omega) ?_)|refine SW.pure rfl rfl ?_|(show SW _ _ _ _ (⟨_,Op.fieldAddr _ _ _,_,_,_,none⟩::_) _ _;refine SW.st (st_field rfl) rfl ?_)|(show SW _ _ _ _ (⟨_,Op.binOp _ _ _ _ _,_,_,_,none⟩::_) _ _;refine SW.st (st_rem rfl rfl (by omega)) rfl ?_)|(show SW _ _ _ _ (⟨_,Op.load _ _,_,_,_,none⟩::_) _ _;first|refine SW.st (st_load rfl (h1.cell rfl)) rfl ?_|refine SW.st (st_load rfl (h2.cell rfl)) rfl ?_)|(refine SW.st (st_shl (r:=pw b.Order) rfl rfl (by omega) (by omega) (by simp [pw]) (by omega) (by omega)) rfl ?_)|exact SW.qnil rfl)
      exact Post.ret1 rfl rfl ⟨_,rfl,hw,by simp [e]⟩
     ·repeat' (first|(first|refine CW.seq ?_|refine CW.ret ?_|(apply CW.quiet1 mixed;(· kernel_rfl);rotate_left;intro w1 hw1;replace hw:=Ext.trans hw hw1;replace h1:=h1.ext hw1;replace h2:=h2.ext hw1;clear hw1;rotate_right))|(refine Post.seq ?_)|refine SW.nil ?_|(show SW _ _ _ _ (⟨_,_,_,_,_,some _⟩::_) _ _;first|refine SW.want_t rfl rfl (by with_reducible rfl) ?_|refine SW.skip_t rfl rfl (by with_reducible rfl) rfl ?_|refine SW.splitd_t rfl rfl rfl (by omega) ?_|refine SW.splitd_f rfl rfl rfl (by omega) ?_)|refine SW.pure rfl rfl ?_|(show SW _ _ _ _ (⟨_,Op.fieldAddr _ _ _,_,_,_,none⟩::_) _ _;refine SW.st (st_field rfl) rfl ?_)|(show SW _ _ _ _ (⟨_,Op.load _ _,_,_,_,none⟩::_) _ _;first|refine SW.st (st_load rfl (h1.cell rfl)) rfl ?_|refine SW.st (st_load rfl (h2.cell rfl)) rfl ?_)|exact SW.qnil rfl)
      exact Post.ret1 rfl rfl ⟨_,rfl,hw,by simp [*]⟩
    ·repeat' (first|(first|refine CW.seq ?_|refine CW.ret ?_|(apply CW.quiet1 mixed;(· kernel_rfl);rotate_left;intro w1 hw1;replace hw:=Ext.trans hw hw1;replace h1:=h1.ext hw1;replace h2:=h2.ext hw1;clear hw1;rotate_right))|(refine Post.seq ?_)|refine SW.nil ?_|(show SW _ _ _ _ (⟨_,_,_,_,_,some _⟩::_) _ _;first|refine SW.want_t rfl rfl (by with_reducible rfl) ?_|refine SW.skip_t rfl rfl (by with_reducible rfl) rfl ?_|refine SW.splitd_t rfl rfl rfl (by omega) ?_|refine SW.splitd_f rfl rfl rfl (by omega) ?_)|refine SW.pure rfl rfl ?_|(show SW _ _ _ _ (⟨_,Op.fieldAddr _ _ _,_,_,_,none⟩::_) _ _;refine SW.st (st_field rfl) rfl ?_)|(show SW _ _ _ _ (⟨_,Op.load _ _,_,_,_,none⟩::_) _ _;first|refine SW.st (st_load rfl (h1.cell rfl)) rfl ?_|refine SW.st (st_load rfl (h2.cell rfl)) rfl ?_)|exact SW.qnil rfl)
     exact Post.ret1 rfl rfl ⟨_,rfl,hw,by simp [*]⟩
   ·repeat' (first|(first|refine CW.seq ?_|refine CW.ret ?_|(apply CW.quiet1 mixed;(· kernel_rfl);rotate_left;intro w1 hw1;replace hw:=Ext.trans hw hw1;replace h1:=h1.ext hw1;replace h2:=h2.ext hw1;clear hw1;rotate_right))|(refine Post.seq ?_)|refine SW.nil ?_|(show SW _ _ _ _ (⟨_,_,_,_,_,some _⟩::_) _ _;first|refine SW.want_t rfl rfl (by with_reducible rfl) ?_|refine SW.skip_t rfl rfl (by with_reducible rfl) rfl ?_|refine SW.splitd_t rfl rfl rfl (by omega) ?_|refine SW.splitd_f rfl rfl rfl (by omega) ?_)|refine SW.pure rfl rfl ?_|(show SW _ _ _ _ (⟨_,Op.fieldAddr _ _ _,_,_,_,none⟩::_) _ _;refine SW.st (st_field rfl) rfl ?_)|(show SW _ _ _ _ (⟨_,Op.load _ _,_,_,_,none⟩::_) _ _;refine SW.st (st_load rfl (h2.cell rfl)) rfl ?_)|exact SW.qnil rfl)
    exact Post.ret1 rfl rfl ⟨_,rfl,hw,by simp [*]⟩
  ·repeat' (first|(first|refine CW.seq ?_|refine CW.ret ?_|(apply CW.quiet1 mixed;(· kernel_rfl);rotate_left;intro w1 hw1;replace hw:=Ext.trans hw hw1;replace h1:=h1.ext hw1;replace h2:=h2.ext hw1;clear hw1;rotate_right))|(refine Post.seq ?_)|refine SW.nil ?_|(show SW _ _ _ _ (⟨_,_,_,_,_,some _⟩::_) _ _;first|refine SW.skip_t rfl rfl (by with_reducible rfl) rfl ?_|refine SW.splitd_f rfl rfl rfl (by omega) ?_)|refine SW.pure rfl rfl ?_|(show SW _ _ _ _ (⟨_,Op.fieldAddr _ _ _,_,_,_,none⟩::_) _ _;refine SW.st (st_field rfl) rfl ?_)|(show SW _ _ _ _ (⟨_,Op.load _ _,_,_,_,none⟩::_) _ _;refine SW.st (st_load rfl (h2.cell rfl)) rfl ?_)|exact SW.qnil rfl)
   exact Post.ret1 rfl rfl ⟨_,rfl,hw,by simp [*]⟩
theorem Zend_ans (b:Block) (w:World) (h : 0≤b.Order∧b.Order≤4) (ha : 0≤b.At∧b.At≤256) : Ans Tryz.prog 119 [.agg (encBk b).toArray] w fun v _=>v = .int .i64 (b.At+pw b.Order):=by
 refine ans_of Tryz.func119 rfl Tryz.ntmps119 rfl ?_
 refine CW.seq (CW.region (SW.box rfl rfl fun b1 w1 hw hb1 h1 => ?_))
 have hp:=pw_le h.1 h.2
 repeat' (first|(first|refine CW.seq ?_|refine CW.ret ?_|(apply CW.quiet1 mixed;(· kernel_rfl);rotate_left;intro w1 hw1;replace hw:=Ext.trans hw hw1;replace h1:=h1.ext hw1;clear hw1;rotate_right))|(refine Post.seq ?_)|refine SW.nil ?_|refine SW.pure rfl rfl ?_|(show SW _ _ _ _ (⟨_,Op.fieldAddr _ _ _,_,_,_,none⟩::_) _ _;refine SW.st (st_field rfl) rfl ?_)|(show SW _ _ _ _ (⟨_,Op.binOp _ _ _ _ _,_,_,_,none⟩::_) _ _;refine SW.st (st_add rfl rfl (by omega) (by omega)) rfl ?_)|(show SW _ _ _ _ (⟨_,Op.load _ _,_,_,_,none⟩::_) _ _;refine SW.st (st_load rfl (h1.cell rfl)) rfl ?_)|(refine SW.st (st_shl (r:=pw b.Order) rfl rfl (by omega) (by omega) (by simp [pw]) (by omega) (by omega)) rfl ?_)|exact SW.qnil rfl)
 exact Post.ret1 rfl rfl ⟨_,rfl,hw,rfl⟩
theorem blockMay_ans (r:ZRow) (a o:Int) (w:World) (h0 : 0≤r.From∧r.From≤256) (h1 : 0≤r.To∧r.To≤256) : Ans Tryz.prog 123 [.agg (encZ r).toArray,.int .i64 a,.int .i64 o] w fun v _=>v = .bool (decide (fitsZ r.From r.To a o)):=by
 refine ans_of Tryz.func123 rfl Tryz.ntmps123 rfl ?_
 refine CW.seq (CW.region (SW.box rfl rfl fun b1 w1 hw hb1 hB => ?_))
 by_cases a1 : 0≤o∧o≤4
 ·by_cases a2:r.From≤a∧a<r.To
  ·have hp:=pw_le a1.1 a1.2
   have e:a.tmod (pw o)=a % pw o:=Int.tmod_eq_emod_of_nonneg (by omega)
   repeat' (first|(first|refine CW.seq ?_|refine CW.region ?_|refine CW.ret ?_)|(refine Post.seq ?_)|refine SW.nil ?_|(show SW _ _ _ _ (⟨_,_,_,_,_,some _⟩::_) _ _;first|refine SW.want_t rfl rfl (by with_reducible rfl) ?_|refine SW.splitd_t rfl rfl rfl (by omega) ?_)|refine SW.pure rfl rfl ?_|(show SW _ _ _ _ (⟨_,Op.fieldAddr _ _ _,_,_,_,none⟩::_) _ _;refine SW.st (st_field rfl) rfl ?_)|(show SW _ _ _ _ (⟨_,Op.binOp _ _ _ _ _,_,_,_,none⟩::_) _ _;first|refine SW.st (st_sub rfl rfl (by omega) (by omega)) rfl ?_|refine SW.st (st_rem rfl rfl (by omega)) rfl ?_)|(show SW _ _ _ _ (⟨_,Op.load _ _,_,_,_,none⟩::_) _ _;refine SW.st (st_load rfl (hB.cell rfl)) rfl ?_)|(show SW _ _ _ _ (⟨_,Op.call ⟨.value (.func _),_,_⟩,_,_,_,none⟩::_) _ _;first|(refine SW.call rfl rfl (In_ans _ _ _ _) ?_;intro v w1 hw1 hv;subst hv;replace hw:=Ext.trans hw hw1;replace hB:=hB.ext hw1;clear hw1)|(refine SW.call rfl rfl (power_ans _ (by omega) _) ?_;intro v w1 hw1 hv;subst hv;replace hw:=Ext.trans hw hw1;replace hB:=hB.ext hw1;clear hw1)))
   all_goals first|(exfalso;omega)|skip
   refine Post.ret1 rfl rfl ⟨_,rfl,hw,?_⟩
   rw [e]
   simp [fitsZ,a1.1,a1.2,a2.1,a2.2]
  ·repeat' (first|(first|refine CW.seq ?_|refine CW.region ?_|refine CW.ret ?_)|(refine Post.seq ?_)|refine SW.nil ?_|(show SW _ _ _ _ (⟨_,_,_,_,_,some _⟩::_) _ _;first|refine SW.want_t rfl rfl (by with_reducible rfl) ?_|refine SW.skip_t rfl rfl (by with_reducible rfl) rfl ?_|refine SW.splitd_t rfl rfl rfl (by omega) ?_|refine SW.splitd_f rfl rfl rfl (by omega) ?_)|refine SW.pure rfl rfl ?_|(show SW _ _ _ _ (⟨_,Op.fieldAddr _ _ _,_,_,_,none⟩::_) _ _;refine SW.st (st_field rfl) rfl ?_)|(show SW _ _ _ _ (⟨_,Op.binOp _ _ _ _ _,_,_,_,none⟩::_) _ _;refine SW.st (st_sub rfl rfl (by omega) (by omega)) rfl ?_)|(show SW _ _ _ _ (⟨_,Op.load _ _,_,_,_,none⟩::_) _ _;refine SW.st (st_load rfl (hB.cell rfl)) rfl ?_)|(show SW _ _ _ _ (⟨_,Op.call ⟨.value (.func _),_,_⟩,_,_,_,none⟩::_) _ _;(refine SW.call rfl rfl (In_ans _ _ _ _) ?_;intro v w1 hw1 hv;subst hv;replace hw:=Ext.trans hw hw1;replace hB:=hB.ext hw1;clear hw1)))
   all_goals first|(exfalso;omega)|skip
   refine Post.ret1 rfl rfl ⟨_,rfl,hw,?_⟩
   rw [decide_eq_false (fun h=>a2 ⟨h.2.2.1,h.2.2.2.1⟩)]
   try (simp;omega)
 ·repeat' (first|(first|refine CW.seq ?_|refine CW.region ?_|refine CW.ret ?_)|(refine Post.seq ?_)|refine SW.nil ?_|(show SW _ _ _ _ (⟨_,_,_,_,_,some _⟩::_) _ _;first|refine SW.skip_t rfl rfl (by with_reducible rfl) rfl ?_|refine SW.splitd_f rfl rfl rfl (by omega) ?_)|refine SW.pure rfl rfl ?_|(show SW _ _ _ _ (⟨_,Op.call ⟨.value (.func _),_,_⟩,_,_,_,none⟩::_) _ _;(refine SW.call rfl rfl (In_ans _ _ _ _) ?_;intro v w1 hw1 hv;subst hv;replace hw:=Ext.trans hw hw1;replace hB:=hB.ext hw1;clear hw1)))
  all_goals first|(exfalso;omega)|skip
  refine Post.ret1 rfl rfl ⟨_,rfl,hw,?_⟩
  rw [decide_eq_false (fun h=>a1 ⟨h.1,h.2.1⟩)]
  try (simp;omega)
theorem idxOf_hit {α : Type} {p : α → Bool} {l:List α} {k:Nat} (h:k<l.length) (hp:p l[k]=true) (hf:∀ j (hj:j<l.length),j<k→p l[j]=false) : idxOf p l=(k:Int):=by
 have e:l.findIdx p=k:=(List.findIdx_eq h).2 ⟨hp,fun j hj=>hf j (by omega) hj⟩
 have e2:l.any p=true:=List.any_eq_true.2 ⟨l[k],List.getElem_mem h,hp⟩
 simp [idxOf,e,e2]
theorem idxOf_none {α : Type} {p : α → Bool} {l:List α} (hf:∀ j (hj:j<l.length),p l[j]=false) : idxOf p l = -1∧l.any p=false:=by
 have e:l.any p=false:=by
  rw [List.any_eq_false]
  intro x hx
  obtain ⟨j,hj,rfl⟩:=List.getElem_of_mem hx
  simp [hf j hj]
 exact ⟨by simp [idxOf,e],e⟩
theorem idxOf_ge {α : Type} (p : α → Bool) (l:List α) : decide (0≤idxOf p l)=l.any p:=by
 unfold idxOf
 by_cases h:l.any p=true
 ·simp [h]
 ·simp [h]
theorem IndexFuncInt_ans (A:Option Addr) (n c:Nat) (l:List Int) (w:World) (hl:Sl w 1 encI A n l) (f:FuncId) (cap:List Value) [Body Tryz.prog f] (p:Int→Bool) (arg:Int→Value) (harg:∀ x,arg x=(if 1=1 then (encI x)[0]?.getD undef else .agg (encI x).toArray))
  (hf:∀ x∈l,∀ w',Ext w w'→Ans Tryz.prog f ([arg x]++cap) w' fun v _=>v = .bool (p x)) (hn:n≤9223372036854775807) :
  Ans Tryz.prog 109 [.slice A n c,.func (.func f) #[] cap.toArray] w fun v _=>v = .int .i64 (idxOf p l):=by
 refine ans_of Tryz.func109 rfl Tryz.ntmps109 rfl ?_
 have hw:=Ext.refl w
 have hA:=hl.base
 repeat' (first|(first|refine CW.seq ?_|refine CW.region ?_|refine CW.block ?_)|(refine Post.seq ?_)|refine SW.nil ?_|refine SW.pure rfl rfl ?_|(show SW _ _ _ _ (⟨_,Op.call ⟨.builtin .len,_,_⟩,_,_,_,none⟩::_) _ _;refine SW.st (st_len rfl) rfl ?_))
 refine CW.loop (fun k:Nat=>[(0,.slice A n c),(1,.func (.func f) #[] cap.toArray),(7,.int .i64 (n:Int)),(8,.int .i64 (k:Int))]) (fun k w'=>k≤n∧Ext w w' ∧ ∀ j (hj:j<l.length),j<k→p l[j]=false) (fun k=>n-k) 0 ⟨rfl,rfl,rfl,rfl,trivial⟩ ⟨by omega,hw,fun j _ h=>by omega⟩ ?_
 clear hw
 rintro k w' ⟨hk',hw,hI⟩
 by_cases hk:k<n
 ·have hx:=harg (l[k]'(hl.lt hk))
  have hfk:=hf (l[k]'(hl.lt hk)) (List.getElem_mem _)
  rw [hx] at hfk
  repeat' (first|(first|refine CW.seq ?_|refine CW.region ?_|refine CW.block ?_|refine CW.condd_t rfl (by omega) ?_|refine CW.skip ?_)|(refine Post.seq ?_)|refine SW.nil ?_|refine SW.pure rfl rfl ?_|(show SW _ _ _ _ (⟨_,Op.indexAddr _ _ _,_,_,_,none⟩::_) _ _;refine SW.st (st_indexN rfl rfl (by assumption) (by omega)) rfl ?_)|(show SW _ _ _ _ (⟨_,Op.load _ _,_,_,_,none⟩::_) _ _;refine SW.st (st_loadx hw rfl (hl.one hk rfl)) rfl ?_))
  refine SW.callv rfl rfl rfl (hfk _ hw) fun v w1 hw1 hv => ?_
  subst hv
  replace hw:=Ext.trans hw hw1
  cases hp:p (l[k]'(hl.lt hk))
  ·repeat' (first|(first|refine CW.region ?_|refine CW.condfr rfl (by with_reducible rfl) ?_|refine CW.skip ?_)|(first|refine Post.seq ?_|refine Post.blk ?_)|refine SW.nil ?_|refine SW.pure rfl rfl ?_|(show SW _ _ _ _ (⟨_,Op.binOp _ _ _ _ _,_,_,_,none⟩::_) _ _;refine SW.st (st_add rfl rfl (by omega) (by omega)) rfl ?_))
   refine Post.again (k+1) ⟨rfl,rfl,rfl,rfl,trivial⟩ (by omega) ⟨by omega,hw,fun j hj h => ?_⟩
   by_cases hjk:j=k
   ·subst hjk;exact hp
   ·exact hI j hj (by omega)
  ·repeat' (first|(first|refine CW.seq ?_|refine CW.region ?_|refine CW.condtr rfl (by with_reducible rfl) ?_|refine CW.ret ?_)|(first|refine Post.seq ?_|refine Post.seq_ret ?_|refine Post.blk_ret ?_|refine Post.again_ret ?_)|refine SW.nil ?_|refine SW.pure rfl rfl ?_)
   exact Post.ret1 rfl rfl ⟨_,rfl,hw,by rw [idxOf_hit (hl.lt hk) hp hI]⟩
 ·repeat' (first|(first|refine CW.seq ?_|refine CW.region ?_|refine CW.condd_f rfl (by omega) ?_|refine CW.ret ?_|refine CW.exit ?_)|(first|refine Post.seq ?_|refine Post.seq_exit ?_|refine Post.hit ?_|refine Post.again_exit ?_)|refine SW.nil ?_|refine SW.pure rfl rfl ?_)
  exact Post.ret1 rfl rfl ⟨_,rfl,hw,by rw [(idxOf_none (fun j hj=>hI j hj (by have:=hl.len;omega))).1]⟩
theorem ContainsFuncInt_ans (A:Option Addr) (n c:Nat) (l:List Int) (w:World) (hl:Sl w 1 encI A n l) (f:FuncId) (cap:List Value) [Body Tryz.prog f] (p:Int→Bool) (arg:Int→Value) (harg:∀ x,arg x=(if 1=1 then (encI x)[0]?.getD undef else .agg (encI x).toArray))
  (hf:∀ x∈l,∀ w',Ext w w'→Ans Tryz.prog f ([arg x]++cap) w' fun v _=>v = .bool (p x)) (hn:n≤9223372036854775807) :
  Ans Tryz.prog 70 [.slice A n c,.func (.func f) #[] cap.toArray] w fun v _=>v = .bool (l.any p):=by
 refine ans_of Tryz.func70 rfl Tryz.ntmps70 rfl ?_
 have hw:=Ext.refl w
 repeat' (first|(first|refine CW.seq ?_|refine CW.region ?_|refine CW.ret ?_)|(refine Post.seq ?_)|refine SW.nil ?_|refine SW.pure rfl rfl ?_|(show SW _ _ _ _ (⟨_,Op.call ⟨.value (.func _),_,_⟩,_,_,_,none⟩::_) _ _;(refine SW.call rfl rfl (IndexFuncInt_ans _ _ _ _ _ (hl.ext hw) f cap p arg harg (fun x hx w1 h1=>hf x hx w1 (Ext.trans hw h1)) hn) ?_;intro v w1 hw1 hv;subst hv;replace hw:=Ext.trans hw hw1;clear hw1)))
 exact Post.ret1 rfl rfl ⟨_,rfl,hw,by rw [idxOf_ge]⟩
theorem IndexFuncBlock_ans (A:Option Addr) (n c:Nat) (l:List Block) (w:World) (hl:Sl w 3 encBk A n l) (f:FuncId) (cap:List Value) [Body Tryz.prog f] (p:Block→Bool) (arg:Block→Value) (harg:∀ x,arg x=(if 3=1 then (encBk x)[0]?.getD undef else .agg (encBk x).toArray))
  (hf:∀ x∈l,∀ w',Ext w w'→Ans Tryz.prog f ([arg x]++cap) w' fun v _=>v = .bool (p x)) (hn:n≤9223372036854775807) :
  Ans Tryz.prog 131 [.slice A n c,.func (.func f) #[] cap.toArray] w fun v _=>v = .int .i64 (idxOf p l):=by
 refine ans_of Tryz.func131 rfl Tryz.ntmps131 rfl ?_
 have hw:=Ext.refl w
 have hA:=hl.base
 repeat' (first|(first|refine CW.seq ?_|refine CW.region ?_|refine CW.block ?_)|(refine Post.seq ?_)|refine SW.nil ?_|refine SW.pure rfl rfl ?_|(show SW _ _ _ _ (⟨_,Op.call ⟨.builtin .len,_,_⟩,_,_,_,none⟩::_) _ _;refine SW.st (st_len rfl) rfl ?_))
 refine CW.loop (fun k:Nat=>[(0,.slice A n c),(1,.func (.func f) #[] cap.toArray),(7,.int .i64 (n:Int)),(8,.int .i64 (k:Int))]) (fun k w'=>k≤n∧Ext w w' ∧ ∀ j (hj:j<l.length),j<k→p l[j]=false) (fun k=>n-k) 0 ⟨rfl,rfl,rfl,rfl,trivial⟩ ⟨by omega,hw,fun j _ h=>by omega⟩ ?_
 clear hw
 rintro k w' ⟨hk',hw,hI⟩
 by_cases hk:k<n
 ·have hx:=harg (l[k]'(hl.lt hk))
  have hfk:=hf (l[k]'(hl.lt hk)) (List.getElem_mem _)
  rw [hx] at hfk
  repeat' (first|(first|refine CW.seq ?_|refine CW.region ?_|refine CW.block ?_|refine CW.condd_t rfl (by omega) ?_|refine CW.skip ?_)|(refine Post.seq ?_)|refine SW.nil ?_|refine SW.pure rfl rfl ?_|(show SW _ _ _ _ (⟨_,Op.indexAddr _ _ _,_,_,_,none⟩::_) _ _;refine SW.st (st_indexN rfl rfl (by assumption) (by omega)) rfl ?_)|(show SW _ _ _ _ (⟨_,Op.load _ _,_,_,_,none⟩::_) _ _;refine SW.st (st_loadsx hw rfl rfl ((hl.all hk))) rfl ?_))
  refine SW.callv rfl rfl rfl (hfk _ hw) fun v w1 hw1 hv => ?_
  subst hv
  replace hw:=Ext.trans hw hw1
  cases hp:p (l[k]'(hl.lt hk))
  ·repeat' (first|(first|refine CW.region ?_|refine CW.condfr rfl (by with_reducible rfl) ?_|refine CW.skip ?_)|(first|refine Post.seq ?_|refine Post.blk ?_)|refine SW.nil ?_|refine SW.pure rfl rfl ?_|(show SW _ _ _ _ (⟨_,Op.binOp _ _ _ _ _,_,_,_,none⟩::_) _ _;refine SW.st (st_add rfl rfl (by omega) (by omega)) rfl ?_))
   refine Post.again (k+1) ⟨rfl,rfl,rfl,rfl,trivial⟩ (by omega) ⟨by omega,hw,fun j hj h => ?_⟩
   by_cases hjk:j=k
   ·subst hjk;exact hp
   ·exact hI j hj (by omega)
  ·repeat' (first|(first|refine CW.seq ?_|refine CW.region ?_|refine CW.condtr rfl (by with_reducible rfl) ?_|refine CW.ret ?_)|(first|refine Post.seq ?_|refine Post.seq_ret ?_|refine Post.blk_ret ?_|refine Post.again_ret ?_)|refine SW.nil ?_|refine SW.pure rfl rfl ?_)
   exact Post.ret1 rfl rfl ⟨_,rfl,hw,by rw [idxOf_hit (hl.lt hk) hp hI]⟩
 ·repeat' (first|(first|refine CW.seq ?_|refine CW.region ?_|refine CW.condd_f rfl (by omega) ?_|refine CW.ret ?_|refine CW.exit ?_)|(first|refine Post.seq ?_|refine Post.seq_exit ?_|refine Post.hit ?_|refine Post.again_exit ?_)|refine SW.nil ?_|refine SW.pure rfl rfl ?_)
  exact Post.ret1 rfl rfl ⟨_,rfl,hw,by rw [(idxOf_none (fun j hj=>hI j hj (by have:=hl.len;omega))).1]⟩
theorem ContainsFuncBlock_ans (A:Option Addr) (n c:Nat) (l:List Block) (w:World) (hl:Sl w 3 encBk A n l) (f:FuncId) (cap:List Value) [Body Tryz.prog f] (p:Block→Bool) (arg:Block→Value) (harg:∀ x,arg x=(if 3=1 then (encBk x)[0]?.getD undef else .agg (encBk x).toArray))
  (hf:∀ x∈l,∀ w',Ext w w'→Ans Tryz.prog f ([arg x]++cap) w' fun v _=>v = .bool (p x)) (hn:n≤9223372036854775807) :
  Ans Tryz.prog 124 [.slice A n c,.func (.func f) #[] cap.toArray] w fun v _=>v = .bool (l.any p):=by
 refine ans_of Tryz.func124 rfl Tryz.ntmps124 rfl ?_
 have hw:=Ext.refl w
 repeat' (first|(first|refine CW.seq ?_|refine CW.region ?_|refine CW.ret ?_)|(refine Post.seq ?_)|refine SW.nil ?_|refine SW.pure rfl rfl ?_|(show SW _ _ _ _ (⟨_,Op.call ⟨.value (.func _),_,_⟩,_,_,_,none⟩::_) _ _;(refine SW.call rfl rfl (IndexFuncBlock_ans _ _ _ _ _ (hl.ext hw) f cap p arg harg (fun x hx w1 h1=>hf x hx w1 (Ext.trans hw h1)) hn) ?_;intro v w1 hw1 hv;subst hv;replace hw:=Ext.trans hw hw1;clear hw1)))
 exact Post.ret1 rfl rfl ⟨_,rfl,hw,by rw [idxOf_ge]⟩
end Go.Proofs.YtigikedbffjeiaaGreat
