/-
  Texts of the claim SlabFrees, part 24: what its theorem leans on.
-/
import Derived.Test.YtigikedbffjeiaaGreatPackSlabFrees23
import Derived.Test.YtigikedbffjeiaaGreatPackSlabFrees4
import Derived.Test.YtigikedbffjeiaaGreatPackSlabFrees18
import Derived.Test.YtigikedbffjeiaaGreatPackSlabFrees13
import Derived.Test.YtigikedbffjeiaaGreatPackSlabFrees14
import Derived.Test.YtigikedbffjeiaaGreatPackSlabFrees21
import Derived.Test.YtigikedbffjeiaaGreatPackSlabFrees10
import Derived.Test.YtigikedbffjeiaaGreatPackSlabFrees22
set_option linter.unusedVariables false
set_option linter.unusedSimpArgs false
namespace Go.Proofs.YtigikedbffjeiaaGreat
open Go.RowKit
def LenZ (z:Zone) : Prop:=z.Free.length≤257∧z.Types.length≤32
theorem backP_len {s:Zone×Zone} (h:LenZ s.1∧LenZ s.2) (b:Block) : LenZ (backP s b).1∧LenZ (backP s b).2:=by
 unfold backP
 split
 ·exact ⟨⟨(backV_len _ _ _).1,(backV_len _ _ _).2.1⟩,h.2⟩
 ·exact ⟨h.1,(backV_len _ _ _).1,(backV_len _ _ _).2.1⟩
theorem backAll_len:∀ (l:List Block) {s:Zone×Zone},LenZ s.1∧LenZ s.2→LenZ (backAll s l).1∧LenZ (backAll s l).2
 | [],_,h=>h
 | b::l,s,h=>backAll_len l (s:=backP s b) (backP_len h b)
theorem LenZ.small {z:Zone} (h:LenZ z) : z.Free.length*24≤140737488355328∧z.Types.length*8≤140737488355328:=⟨Nat.le_trans (Nat.mul_le_mul_right 24 h.1) (by decide),by have:=h.2;omega⟩
theorem mem_insA {α : Type} {l:List α} {i:Nat} {b x : α} (h:x∈insAt l i b) : x=b∨x∈l:=by
 unfold insAt at h
 rw [List.mem_append,List.mem_append] at h
 rcases h with (h|h)|h
 ·exact .inr (List.mem_of_mem_take h)
 ·exact .inl (by simpa using h)
 ·exact .inr (List.mem_of_mem_drop h)
theorem setL_mem {L:List PList} {x y:PList} (h:y∈setL L x) : y=x∨y∈L:=by
 unfold setL at h
 split at h
 ·rcases List.mem_or_eq_of_mem_set h with h|h
  ·exact .inr h
  ·exact .inl h
 ·exact mem_insA h
theorem setL_len (L:List PList) (x:PList) : (setL L x).length≤L.length+1:=by
 unfold setL
 split
 ·simp
 ·rw [length_insAt _ (kpos_le L x)];omega
theorem pagesAt_len {h:Heap} {z0 z1:Zone} (f:FHeap h z0 z1) (x:PList) : (pagesAt h.Lists x).length≤8:=by
 cases e:khere h.Lists x with
 | false=>rw [pagesAt_f e];simp
 | true =>
  obtain ⟨h1,_⟩:=khere_t e
  rw [pagesAt_t e h1]
  exact (f.lists _ (List.getElem_mem h1)).2
theorem small_lists {h:Heap} {z0 z1:Zone} (f:FHeap h z0 z1) (x:PList) (hx:x.Pages.length≤9) : (setL h.Lists x).length*48≤140737488355328 ∧ ∀ l∈setL h.Lists x,l.Pages.length*8≤140737488355328:=by
 have:=f.count
 have:=setL_len h.Lists x
 refine ⟨by omega,fun l hl => ?_⟩
 rcases setL_mem hl with rfl|hl
 ·omega
 ·have:=(f.lists l hl).2;omega
theorem small_freeV (h:Heap) (cpu a:Int) (hs:h.small) : (freeV h cpu a).2.small:=by
 have hz:((8:Int),(⟨[],[],0,[],[]⟩ : Heap)).2.small:=by constructor<;>simp
 cases hq:heapB h
 ·rw [freeV_8 hq];exact hz
 ·by_cases hc : 0≤cpu∧cpu<h.Cpus
  ·cases hf:foundA h.Live a
   ·rw [freeV_4 hq hc hf];exact hz
   ·rw [freeV_0 hq hc hf]
    obtain ⟨z0,z1,f⟩:=fheap_of (heapB_iff.1 hq)
    obtain ⟨hk,_⟩:=found_at hf
    have hl0:=zone_len f.d.may0
    have hl1:=zone_len f.d.may1
    have hzz:LenZ z0∧LenZ z1:=⟨⟨by omega,hl0.2⟩,⟨by omega,hl1.2⟩⟩
    have hlive:(h.Live.eraseIdx (lbOf h.Live a)).length*24≤140737488355328:=by
     have:=hs.live
     have:=List.length_eraseIdx_le h.Live (lbOf h.Live a)
     omega
    by_cases ho : 0<h.Live[lbOf h.Live a].Order
    ·rw [freedV_big f.d.zones hk rfl ho]
     have hb:=backP_len (s:=(z0,z1)) hzz h.Live[lbOf h.Live a]
     refine ⟨by simp [freedBig],hs.mins,hs.lists,hlive,fun z hz => ?_,hs.pages⟩
     simp only [freedBig,List.mem_cons,List.not_mem_nil,or_false] at hz
     rcases hz with rfl|rfl
     ·exact hb.1.small
     ·exact hb.2.small
    ·rw [freedV_one f.d.zones hk rfl ho]
     have hp:=pagesAt_len f (keyOf z0 z1 cpu a)
     unfold freedOne
     split
     ·have hb:=backAll_len (((pagesAt h.Lists (keyOf z0 z1 cpu a)++[a]).take 4).map pageB) (s:=(z0,z1)) hzz
      obtain ⟨g1,g2⟩:=small_lists f (withP (keyOf z0 z1 cpu a) ((pagesAt h.Lists (keyOf z0 z1 cpu a)++[a]).drop 4)) (by simp only [withP,List.length_drop,List.length_append,List.length_singleton];omega)
      refine ⟨by simp,hs.mins,g1,hlive,fun z hz => ?_,g2⟩
      simp only [List.mem_cons,List.not_mem_nil,or_false] at hz
      rcases hz with rfl|rfl
      ·exact hb.1.small
      ·exact hb.2.small
     ·obtain ⟨g1,g2⟩:=small_lists f (withP (keyOf z0 z1 cpu a) (pagesAt h.Lists (keyOf z0 z1 cpu a)++[a])) (by simp only [withP,List.length_append,List.length_singleton];omega)
      refine ⟨by simp,hs.mins,g1,hlive,fun z hz => ?_,g2⟩
      simp only [List.mem_cons,List.not_mem_nil,or_false] at hz
      rcases hz with rfl|rfl
      ·exact hzz.1.small
      ·exact hzz.2.small
  ·rw [freeV_1 hq hc];exact hz
open Go.RowKit
theorem big_backV {z:Zone} (h:big64 z) (a o:Int) : big64 (backV z a o).2:=by
 have h0:big64 ⟨0,0,[],[]⟩:=by unfold big64;simp
 unfold backV
 (repeat' split)<;>first|exact h|exact h0
theorem big_backP {s:Zone×Zone} (h:big64 s.1∧big64 s.2) (b:Block) : big64 (backP s b).1∧big64 (backP s b).2:=by
 unfold backP
 split
 ·exact ⟨big_backV h.1 _ _,h.2⟩
 ·exact ⟨h.1,big_backV h.2 _ _⟩
theorem big_backAll:∀ (l:List Block) {s:Zone×Zone},big64 s.1∧big64 s.2→big64 (backAll s l).1∧big64 (backAll s l).2
 | [],_,h=>h
 | b::l,s,h=>big_backAll l (s:=backP s b) (big_backP h b)
theorem big_two {a b:Zone} (h:big64 a∧big64 b) : ∀ z∈[a,b],big64 z:=fun z hz=>by
 simp only [List.mem_cons,List.not_mem_nil,or_false] at hz
 rcases hz with rfl|rfl
 ·exact h.1
 ·exact h.2
theorem big_freeV (h:Heap) (cpu a:Int) (hs:∀ z∈h.Zones,big64 z) : ∀ z∈(freeV h cpu a).2.Zones,big64 z:=by
 have h0:∀ z∈(⟨[],[],0,[],[]⟩ : Heap).Zones,big64 z:=fun z hz=>by simp at hz
 unfold freeV
 split
 ·split
  ·split
   ·simp only [freedV]
    split
    ·rename_i z0 z1 hz
     have hb:big64 z0∧big64 z1:=⟨hs _ (by rw [hz];simp),hs _ (by rw [hz];simp)⟩
     split
     ·exact big_two (big_backP (s:=(z0,z1)) hb _)
     ·unfold freedOne
      split
      ·exact big_two (big_backAll _ (s:=(z0,z1)) hb)
      ·exact big_two hb
    ·exact h0
   ·exact h0
  ·exact h0
 ·exact h0
structure HOk (h:Heap) : Prop where
 small:h.small
 big:∀ z∈h.Zones,big64 z
theorem HOk.free {h:Heap} (a:HOk h) (cpu at_:Int) : HOk (freeV h cpu at_).2:=⟨small_freeV h cpu at_ a.small,big_freeV h cpu at_ a.big⟩
def cutSlab (c:KCache) (k:Nat) : KCache:=⟨c.Names,c.Size,c.Per,c.Order,c.Slabs.eraseIdx k,c.Active⟩
def sysAt (s:KSystem) (i:Nat) (p:Heap×KCache) : KSystem:=⟨s.Words,p.1,s.Caches.set i p.2⟩
structure COk (c:KCache) : Prop where
 small:c.small
 at_:∀ x∈c.Slabs,-9223372036854775808≤x.At∧x.At≤9223372036854775807
theorem COk.cut {c:KCache} (h:COk c) (k:Nat) : COk (cutSlab c k):=by
 have h1:=h.small.slabs
 have h2:=List.length_eraseIdx_le c.Slabs k
 exact ⟨⟨h.small.names,by simp only [cutSlab];omega,h.small.active⟩,fun x hx=>h.at_ x (List.mem_of_mem_eraseIdx hx)⟩
theorem KSystem.fine.hok {s:KSystem} (h:s.fine) : HOk s.Heap:=⟨h.small.heap,h.zones⟩
theorem KSystem.fine.cok {s:KSystem} (h:s.fine) {i:Nat} (hi:i<s.Caches.length) : COk s.Caches[i]:=⟨h.small.each _ (List.getElem_mem hi),h.slabs _ (List.getElem_mem hi)⟩
theorem small_sysAt {s:KSystem} (h:s.small) (i:Nat) {p:Heap×KCache} (h1:HOk p.1) (h2:COk p.2) : (sysAt s i p).small:=by
 refine ⟨h.words,h1.small,by simp only [sysAt,List.length_set];exact h.caches,fun c hc => ?_⟩
 rcases List.mem_or_eq_of_mem_set hc with hc|rfl
 ·exact h.each c hc
 ·exact h2.small
open Go.RowKit
noncomputable def askV (s:KSystem) (n:ByteArray) (cpu:Int) : Int:=if sysB s then (if s.Caches.any (hasN n) then (if 0≤cpu∧cpu<s.Heap.Cpus then 0 else 1) else 4) else 8
theorem askV_8 {s:KSystem} {n:ByteArray} {cpu:Int} (h:sysB s=false) : askV s n cpu=8:=by simp [askV,h]
theorem askV_4 {s:KSystem} {n:ByteArray} {cpu:Int} (h:sysB s=true) (h1:s.Caches.any (hasN n)=false) : askV s n cpu=4:=by simp only [askV,h,h1,if_true,Bool.false_eq_true,if_false]
theorem askV_1 {s:KSystem} {n:ByteArray} {cpu:Int} (h:sysB s=true) (h1:s.Caches.any (hasN n)=true) (h2 : ¬ (0≤cpu∧cpu<s.Heap.Cpus)) : askV s n cpu=1:=by simp only [askV,h,h1,if_true,if_neg h2]
theorem askV_0 {s:KSystem} {n:ByteArray} {cpu:Int} (h:sysB s=true) (h1:s.Caches.any (hasN n)=true) (h2 : 0≤cpu∧cpu<s.Heap.Cpus) : askV s n cpu=0:=by simp only [askV,h,h1,if_true,if_pos h2]
def AskOut (lo:Nat) (s:KSystem) (n:ByteArray) (cpu:Int) (v:Value) (w:World) : Prop :=
 (askV s n cpu≠0∧v = .tuple #[.agg (encSys .zero).toArray,.int .i64 0,.int .i64 (askV s n cpu)]) ∨
 (askV s n cpu=0 ∧ ∃ q cs,v = .tuple #[.agg (encSys q).toArray,.int .i64 (idxOf (hasN n) s.Caches),.int .i64 0]∧SX w lo q s cs∧SI w lo q s cs)
theorem sysAt_len {s:KSystem} {i:Nat} {p:Heap×KCache}:(sysAt s i p).Caches.length=s.Caches.length:=List.length_set
theorem sysAt_self {s:KSystem} {i:Nat} (hi:i<s.Caches.length) : sysAt s i (s.Heap,s.Caches[i])=s:=by
 cases s
 simp [sysAt]
section
variable {w w':World} {lo:Nat} {r:SRow} {s:KSystem} {cs:List CRow} {i:Nat} {p:Heap×KCache}
theorem SXR.rows (h:SX w lo r (sysAt s i p) cs) : cs.length=s.Caches.length∧r.Caches.n=s.Caches.length:=by
 have h1:=h.row.len
 have h2:=h.each.len
 rw [sysAt_len] at h2
 omega
theorem SXR.get (h:SX w lo r (sysAt s i p) cs) (hi:i<cs.length) (hi':i<s.Caches.length) : OwnC w lo cs[i] p.2:=by
 have:=h.each.get i hi (by rw [sysAt_len];exact hi')
 simpa [sysAt] using this
theorem SXR.slabsAt {n':Nat} {l':List Slab} (h:SX w lo r (sysAt s i p) cs) (hi:i<cs.length) (hi':i<s.Caches.length) (hO:Own w' lo 46 3 encSb cs[i].Slabs.A n' cs[i].Slabs.c l') (hg:w.grownBy w' (ownB cs[i].Slabs.A cs[i].Slabs.c)) :
  SXR w' lo r (sysAt s i (p.1,⟨p.2.Names,p.2.Size,p.2.Per,p.2.Order,l',p.2.Active⟩)) cs (cs.set i ⟨cs[i].Names,cs[i].Size,cs[i].Per,cs[i].Order,⟨cs[i].Slabs.A,n',cs[i].Slabs.c⟩,cs[i].Active⟩):=by
 have:=h.slabs hi (by rw [sysAt_len];exact hi') hO hg
 simpa [sysAt] using this
theorem SXR.newSlabsAt {n' c':Nat} {A':Option Addr} {l':List Slab} (h:SX w lo r (sysAt s i p) cs) (hlo:lo≤w.heap.size) (hi:i<cs.length) (hi':i<s.Caches.length) (hx:Ext w w') (hO:Own w' w.heap.size 46 3 encSb A' n' c' l') :
  SXR w' lo r (sysAt s i (p.1,⟨p.2.Names,p.2.Size,p.2.Per,p.2.Order,l',p.2.Active⟩)) cs (cs.set i ⟨cs[i].Names,cs[i].Size,cs[i].Per,cs[i].Order,⟨A',n',c'⟩,cs[i].Active⟩):=by
 have:=h.newSlabs hlo hi (by rw [sysAt_len];exact hi') hx hO
 simpa [sysAt] using this
theorem SXR.heapAt {H:HRow} {h':Heap} {cs0:List CRow} (h:SXR w lo r (sysAt s i p) cs0 cs) (hH:OwnH w lo H h') : SXR w lo ⟨r.Words,H,r.Caches⟩ (sysAt s i (h',p.2)) cs0 cs:=⟨h.words,hH,h.row,h.each,h.pair⟩
end
open Go.RowKit
set_option maxHeartbeats 2000000 in
theorem ask_ans (r:SRow) (s:KSystem) (n:ByteArray) (cpu:Int) (w:World) (hr:RdS w r s) (hf:s.fine) (hns:n.size≤140737488351232) :
  Ans Tryz.prog 16 [.agg (encSys r).toArray,.string n,.int .i64 cpu] w (AskOut w.heap.size s n cpu):=by
 refine ans_of Tryz.func16 rfl Tryz.ntmps16 rfl ?_
 have hs:=hf.small
 refine CW.seq (CW.region (SW.box rfl rfl fun b3 w1 hw hb3b hb3 => ?_))
 refine SW.alloc rfl fun b6 w3 hw3 hb6b hb6 => ?_
 have hb6w:w.heap.size≤b6:=Nat.le_trans hw.size hb6b
 (replace hw:=Ext.trans hw hw3;replace hb3:=hb3.ext hw3)
 obtain ⟨q,hq⟩ : ∃ q,sysB s=q:=⟨_,rfl⟩
 have c1:∀ w',Ext w w'→Ans Tryz.prog 36 [.agg (encSys r).toArray] w' fun v _=>v = .int .i64 (if q then 0 else 8):=fun w' hx=>by
  have:=Scheck_ans r s w' (hr.ext hx) hf
  rwa [hq] at this
 cases q
 ·simp only [Bool.false_eq_true,if_false] at c1
  repeat' (first|(first|refine CW.seq ?_|refine CW.region ?_|refine CW.condn_t rfl (by omega) ?_)|(refine Post.seq ?_)|refine SW.nil ?_|refine SW.pure rfl rfl ?_|(show SW _ _ _ _ (⟨_,Op.build _ _,_,_,_,none⟩::_) _ _;refine SW.st (st_build rfl rfl) rfl ?_)|(show SW _ _ _ _ (⟨_,Op.load _ _,_,_,_,none⟩::_) _ _;refine SW.st (st_loads rfl rfl ((fun _ _=>hb3.cell))) rfl ?_)|(show SW _ _ _ _ (⟨_,Op.call ⟨.value (.func _),_,_⟩,_,_,_,none⟩::_) _ _;(refine SW.call rfl rfl (c1 _ hw) ?_;intro v w1 hw1 hv;subst hv;replace hw:=Ext.trans hw hw1;replace hb3:=hb3.ext hw1;replace hb6:=hb6.ext hw1;clear hw1)))
  refine SW.storeAgg hb6 rfl rfl rfl rfl (one_s .zero) fun w5 hR2 hg => ?_
  replace hw:=hw.own hb6w hg
  repeat' (first|(refine CW.ret ?_)|(first|refine Post.seq ?_|refine Post.seq_ret ?_)|refine SW.nil ?_|refine SW.pure rfl rfl ?_)
  exact Post.ret3c rfl rfl rfl rfl hR2 rfl ⟨_,rfl,hw,.inl ⟨by rw [askV_8 hq];decide,by rw [askV_8 hq];rfl⟩⟩
 ·simp only [if_true] at c1
  obtain ⟨t,ht⟩ : ∃ t,s.Caches.any (hasN n)=t:=⟨_,rfl⟩
  obtain ⟨ix,hix⟩ : ∃ ix,idxOf (hasN n) s.Caches=ix:=⟨_,rfl⟩
  have c3:∀ w',Ext w w'→Ans Tryz.prog 37 [.agg (encSys r).toArray,.string n] w' fun v _=>v = .tuple #[.int .i64 ix,.bool t]:=fun w' hx=>by
   have:=named_ans r s n w' (hr.ext hx) hs
   rwa [ht,hix] at this
  cases t
  ·repeat' (first|(first|refine CW.seq ?_|refine CW.region ?_|refine CW.block ?_|refine CW.condn_f rfl (by omega) ?_|refine CW.condt rfl ?_|refine CW.skip ?_)|(refine Post.seq ?_)|refine SW.nil ?_|refine SW.pure rfl rfl ?_|(show SW _ _ _ _ (⟨_,Op.build _ _,_,_,_,none⟩::_) _ _;refine SW.st (st_build rfl rfl) rfl ?_)|(show SW _ _ _ _ (⟨_,Op.load _ _,_,_,_,none⟩::_) _ _;refine SW.st (st_loads rfl rfl ((fun _ _=>hb3.cell))) rfl ?_)|(show SW _ _ _ _ (⟨_,Op.call ⟨.value (.func _),_,_⟩,_,_,_,none⟩::_) _ _;first|(refine SW.call rfl rfl (c1 _ hw) ?_;intro v w1 hw1 hv;subst hv;replace hw:=Ext.trans hw hw1;replace hb3:=hb3.ext hw1;replace hb6:=hb6.ext hw1;clear hw1)|(refine SW.call rfl rfl (c3 _ hw) ?_;intro v w1 hw1 hv;subst hv;replace hw:=Ext.trans hw hw1;replace hb3:=hb3.ext hw1;replace hb6:=hb6.ext hw1;clear hw1)))
   refine SW.storeAgg hb6 rfl rfl rfl rfl (one_s .zero) fun w5 hR2 hg => ?_
   replace hw:=hw.own hb6w hg
   repeat' (first|(refine CW.ret ?_)|(first|refine Post.seq ?_|refine Post.seq_ret ?_|refine Post.blk_ret ?_)|refine SW.nil ?_|refine SW.pure rfl rfl ?_)
   exact Post.ret3c rfl rfl rfl rfl hR2 rfl ⟨_,rfl,hw,.inl ⟨by rw [askV_4 hq ht];decide,by rw [askV_4 hq ht];rfl⟩⟩
  ·have hcp:=hr.heap.cpus
   by_cases hc : 0≤cpu∧cpu<s.Heap.Cpus
   ·repeat' (first|(first|refine CW.seq ?_|refine CW.region ?_|refine CW.block ?_|refine CW.condd_f rfl (by omega) ?_|refine CW.condn_f rfl (by omega) ?_|refine CW.condf rfl ?_|refine CW.skip ?_)|(first|refine Post.seq ?_|refine Post.blk ?_)|refine SW.nil ?_|(show SW _ _ _ _ (⟨_,_,_,_,_,some _⟩::_) _ _;first|refine SW.want_f rfl rfl (by with_reducible rfl) ?_|refine SW.splitd_f rfl rfl rfl (by omega) ?_)|refine SW.pure rfl rfl ?_|(show SW _ _ _ _ (⟨_,Op.fieldAddr _ _ _,_,_,_,none⟩::_) _ _;refine SW.st (st_field rfl) rfl ?_)|(show SW _ _ _ _ (⟨_,Op.load _ _,_,_,_,none⟩::_) _ _;first|refine SW.st (st_loads rfl rfl ((fun _ _=>hb3.cell))) rfl ?_|refine SW.st (st_load rfl (hb3.cell (i:=3) (v := .int .i64 r.Heap.Cpus) rfl)) rfl ?_)|(show SW _ _ _ _ (⟨_,Op.call ⟨.value (.func _),_,_⟩,_,_,_,none⟩::_) _ _;first|(refine SW.call rfl rfl (c1 _ hw) ?_;intro v w1 hw1 hv;subst hv;replace hw:=Ext.trans hw hw1;replace hb3:=hb3.ext hw1;replace hb6:=hb6.ext hw1;clear hw1)|(refine SW.call rfl rfl (c3 _ hw) ?_;intro v w1 hw1 hv;subst hv;replace hw:=Ext.trans hw hw1;replace hb3:=hb3.ext hw1;replace hb6:=hb6.ext hw1;clear hw1)))
    all_goals first|(exfalso;omega)|skip
    refine SW.call rfl rfl (ScopyX_ans r s _ (hr.ext hw) hs) fun v w6 hXX hv => ?_
    obtain ⟨q,zr,rfl,hO,hI⟩:=hv
    replace hO:=hO.low hw.size
    replace hI:=hI.low hw.size
    (replace hw:=Ext.trans hw hXX;replace hb6:=hb6.ext hXX)
    repeat' (refine SW.pure rfl rfl ?_)
    refine SW.storeAgg hb6 rfl rfl rfl rfl (one_s q) fun w5 hR2 hg => ?_
    have hG:=hb6.gr hg
    replace hw:=hw.own hb6w hg
    (replace hO:=hO.grT hG rfl;replace hI:=hI.grT hG rfl)
    repeat' (first|(refine CW.ret ?_)|(refine Post.seq ?_)|refine SW.nil ?_|refine SW.pure rfl rfl ?_)
    exact Post.ret3c rfl rfl rfl rfl hR2 rfl ⟨_,rfl,hw,.inr ⟨askV_0 hq ht hc,q,zr,by rw [hix];rfl,hO,hI⟩⟩
   ·rcases (show cpu<0∨(0≤cpu∧s.Heap.Cpus≤cpu) by omega) with g|g
    all_goals
     repeat' (first|(first|refine CW.seq ?_|refine CW.region ?_|refine CW.block ?_|refine CW.condtr rfl (by with_reducible rfl) ?_|refine CW.condd_t rfl (by omega) ?_|refine CW.condn_f rfl (by omega) ?_|refine CW.condf rfl ?_|refine CW.skip ?_)|(refine Post.seq ?_)|refine SW.nil ?_|(show SW _ _ _ _ (⟨_,_,_,_,_,some _⟩::_) _ _;first|refine SW.want_f rfl rfl (by with_reducible rfl) ?_|refine SW.skip_f rfl rfl (by with_reducible rfl) rfl ?_|refine SW.splitd_t rfl rfl rfl (by omega) ?_|refine SW.splitd_f rfl rfl rfl (by omega) ?_)|refine SW.pure rfl rfl ?_|(show SW _ _ _ _ (⟨_,Op.fieldAddr _ _ _,_,_,_,none⟩::_) _ _;refine SW.st (st_field rfl) rfl ?_)|(show SW _ _ _ _ (⟨_,Op.build _ _,_,_,_,none⟩::_) _ _;refine SW.st (st_build rfl rfl) rfl ?_)|(show SW _ _ _ _ (⟨_,Op.load _ _,_,_,_,none⟩::_) _ _;first|refine SW.st (st_loads rfl rfl ((fun _ _=>hb3.cell))) rfl ?_|refine SW.st (st_load rfl (hb3.cell (i:=3) (v := .int .i64 r.Heap.Cpus) rfl)) rfl ?_)|(show SW _ _ _ _ (⟨_,Op.call ⟨.value (.func _),_,_⟩,_,_,_,none⟩::_) _ _;first|(refine SW.call rfl rfl (c1 _ hw) ?_;intro v w1 hw1 hv;subst hv;replace hw:=Ext.trans hw hw1;replace hb3:=hb3.ext hw1;replace hb6:=hb6.ext hw1;clear hw1)|(refine SW.call rfl rfl (c3 _ hw) ?_;intro v w1 hw1 hv;subst hv;replace hw:=Ext.trans hw hw1;replace hb3:=hb3.ext hw1;replace hb6:=hb6.ext hw1;clear hw1)))
     all_goals first|(exfalso;omega)|skip
     refine SW.storeAgg hb6 rfl rfl rfl rfl (one_s .zero) fun w5 hR2 hg => ?_
     replace hw:=hw.own hb6w hg
     repeat' (first|(refine CW.ret ?_)|(first|refine Post.seq ?_|refine Post.seq_ret ?_|refine Post.blk_ret ?_)|refine SW.nil ?_|refine SW.pure rfl rfl ?_)
     exact Post.ret3c rfl rfl rfl rfl hR2 rfl ⟨_,rfl,hw,.inl ⟨by rw [askV_1 hq ht hc];decide,by rw [askV_1 hq ht hc];rfl⟩⟩
set_option maxHeartbeats 1000000 in
theorem askFault_ans (r:SRow) (s:KSystem) (n:ByteArray) (cpu:Int) (w:World) (hr:RdS w r s) (hf:s.fine) :
  Ans Tryz.prog 18 [.agg (encSys r).toArray,.string n,.int .i64 cpu] w fun v _=>v = .int .i64 (askV s n cpu):=by
 refine ans_of Tryz.func18 rfl Tryz.ntmps18 rfl ?_
 have hs:=hf.small
 refine CW.seq (CW.region (SW.box rfl rfl fun b3 w1 hw hb3b hb3 => ?_))
 obtain ⟨q,hq⟩ : ∃ q,sysB s=q:=⟨_,rfl⟩
 have c1:∀ w',Ext w w'→Ans Tryz.prog 39 [.agg (encSys r).toArray] w' fun v _=>v = .bool q:=fun w' hx=>by
  have:=SMay_ans r s w' (hr.ext hx) hf
  rwa [hq] at this
 cases q
 ·repeat' (first|(first|refine CW.seq ?_|refine CW.region ?_|refine CW.condt rfl ?_|refine CW.ret ?_)|(first|refine Post.seq ?_|refine Post.seq_ret ?_)|refine SW.nil ?_|refine SW.pure rfl rfl ?_|(show SW _ _ _ _ (⟨_,Op.load _ _,_,_,_,none⟩::_) _ _;refine SW.st (st_loads rfl rfl ((fun _ _=>hb3.cell))) rfl ?_)|(show SW _ _ _ _ (⟨_,Op.call ⟨.value (.func _),_,_⟩,_,_,_,none⟩::_) _ _;(refine SW.call rfl rfl (c1 _ hw) ?_;intro v w1 hw1 hv;subst hv;replace hw:=Ext.trans hw hw1;replace hb3:=hb3.ext hw1;clear hw1)))
  exact Post.ret1 rfl rfl ⟨_,rfl,hw,by rw [askV_8 hq]⟩
 ·have hM:=(sysB_iff.1 hq).heap.cpus
  obtain ⟨ix,hix⟩ : ∃ ix,idxOf (hasN n) s.Caches=ix:=⟨_,rfl⟩
  have hge:=idxOf_ge (hasN n) s.Caches
  rw [hix] at hge
  have c3:∀ w',Ext w w'→Ans Tryz.prog 20 [.agg (encSys r).toArray,.string n] w' fun v _=>v = .int .i64 ix:=fun w' hx=>by
   have:=cacheOf_ans r s n w' (hr.ext hx) hs
   rwa [hix] at this
  have eC:=hr.heap.cpus
  by_cases hix0 : 0≤ix
  ·have ht:s.Caches.any (hasN n)=true:=by rw [← hge];exact decide_eq_true hix0
   by_cases hc : 0≤cpu∧cpu<s.Heap.Cpus
   ·repeat' (first|(first|refine CW.seq ?_|refine CW.region ?_|refine CW.condd_f rfl (by omega) ?_|refine CW.condn_f rfl (by omega) ?_|refine CW.condf rfl ?_|refine CW.skip ?_|refine CW.ret ?_)|(refine Post.seq ?_)|refine SW.nil ?_|refine SW.pure rfl rfl ?_|(show SW _ _ _ _ (⟨_,Op.fieldAddr _ _ _,_,_,_,none⟩::_) _ _;refine SW.st (st_field rfl) rfl ?_)|(show SW _ _ _ _ (⟨_,Op.binOp _ _ _ _ _,_,_,_,none⟩::_) _ _;refine SW.st (st_sub rfl rfl (by omega) (by omega)) rfl ?_)|(show SW _ _ _ _ (⟨_,Op.load _ _,_,_,_,none⟩::_) _ _;first|refine SW.st (st_loads rfl rfl ((fun _ _=>hb3.cell))) rfl ?_|refine SW.st (st_load rfl (hb3.cell (i:=3) (v := .int .i64 r.Heap.Cpus) rfl)) rfl ?_)|(show SW _ _ _ _ (⟨_,Op.call ⟨.value (.func _),_,_⟩,_,_,_,none⟩::_) _ _;first|(refine SW.call rfl rfl (c1 _ hw) ?_;intro v w1 hw1 hv;subst hv;replace hw:=Ext.trans hw hw1;replace hb3:=hb3.ext hw1;clear hw1)|(refine SW.call rfl rfl (c3 _ hw) ?_;intro v w1 hw1 hv;subst hv;replace hw:=Ext.trans hw hw1;replace hb3:=hb3.ext hw1;clear hw1)|(refine SW.call rfl rfl (In_ans _ _ _ _) ?_;intro v w1 hw1 hv;subst hv;replace hw:=Ext.trans hw hw1;replace hb3:=hb3.ext hw1;clear hw1)))
    all_goals first|(exfalso;omega)|skip
    exact Post.ret1 rfl rfl ⟨_,rfl,hw,by rw [askV_0 hq ht hc]⟩
   ·repeat' (first|(first|refine CW.seq ?_|refine CW.region ?_|refine CW.condd_f rfl (by omega) ?_|refine CW.condn_t rfl (by omega) ?_|refine CW.condf rfl ?_|refine CW.skip ?_|refine CW.ret ?_)|(first|refine Post.seq ?_|refine Post.seq_ret ?_)|refine SW.nil ?_|refine SW.pure rfl rfl ?_|(show SW _ _ _ _ (⟨_,Op.fieldAddr _ _ _,_,_,_,none⟩::_) _ _;refine SW.st (st_field rfl) rfl ?_)|(show SW _ _ _ _ (⟨_,Op.binOp _ _ _ _ _,_,_,_,none⟩::_) _ _;refine SW.st (st_sub rfl rfl (by omega) (by omega)) rfl ?_)|(show SW _ _ _ _ (⟨_,Op.load _ _,_,_,_,none⟩::_) _ _;first|refine SW.st (st_loads rfl rfl ((fun _ _=>hb3.cell))) rfl ?_|refine SW.st (st_load rfl (hb3.cell (i:=3) (v := .int .i64 r.Heap.Cpus) rfl)) rfl ?_)|(show SW _ _ _ _ (⟨_,Op.call ⟨.value (.func _),_,_⟩,_,_,_,none⟩::_) _ _;first|(refine SW.call rfl rfl (c1 _ hw) ?_;intro v w1 hw1 hv;subst hv;replace hw:=Ext.trans hw hw1;replace hb3:=hb3.ext hw1;clear hw1)|(refine SW.call rfl rfl (c3 _ hw) ?_;intro v w1 hw1 hv;subst hv;replace hw:=Ext.trans hw hw1;replace hb3:=hb3.ext hw1;clear hw1)|(refine SW.call rfl rfl (In_ans _ _ _ _) ?_;intro v w1 hw1 hv;subst hv;replace hw:=Ext.trans hw hw1;replace hb3:=hb3.ext hw1;clear hw1)))
    all_goals first|(exfalso;omega)|skip
    exact Post.ret1 rfl rfl ⟨_,rfl,hw,by rw [askV_1 hq ht hc]⟩
  ·have ht:s.Caches.any (hasN n)=false:=by rw [← hge];exact decide_eq_false hix0
   repeat' (first|(first|refine CW.seq ?_|refine CW.region ?_|refine CW.condd_t rfl (by omega) ?_|refine CW.condf rfl ?_|refine CW.skip ?_|refine CW.ret ?_)|(first|refine Post.seq ?_|refine Post.seq_ret ?_)|refine SW.nil ?_|refine SW.pure rfl rfl ?_|(show SW _ _ _ _ (⟨_,Op.load _ _,_,_,_,none⟩::_) _ _;refine SW.st (st_loads rfl rfl ((fun _ _=>hb3.cell))) rfl ?_)|(show SW _ _ _ _ (⟨_,Op.call ⟨.value (.func _),_,_⟩,_,_,_,none⟩::_) _ _;first|(refine SW.call rfl rfl (c1 _ hw) ?_;intro v w1 hw1 hv;subst hv;replace hw:=Ext.trans hw hw1;replace hb3:=hb3.ext hw1;clear hw1)|(refine SW.call rfl rfl (c3 _ hw) ?_;intro v w1 hw1 hv;subst hv;replace hw:=Ext.trans hw hw1;replace hb3:=hb3.ext hw1;clear hw1)))
   all_goals first|(exfalso;omega)|skip
   exact Post.ret1 rfl rfl ⟨_,rfl,hw,by rw [askV_4 hq ht]⟩
open Go.RowKit
theorem SW.storePart {P:Program} {n:Nat} {ops:Array Oper} {Q:Exit→Act→World→Prop} {rest:List Oper} {L:Env} {w:World} {T:TypeId} {pos:String} {af:Array Edge} {t:TypeId} {k:Nat} [G:AggTy P t k] {b:Nat} {tb:TypeId} {cs vs:List Value} {x y:Operand} (o:Nat)
  (hB:Blk w b tb cs) (hx:opv L x=some (.pointer (some ((⟨b,0,none⟩ : Addr).add o)))) (hy:opv L y=some (.agg vs.toArray)) (hl:vs.length=k) (hc:o+k≤cs.length) (h1:∀ v∈vs,v.oneCell'=true) (cs':List Value) (hcs:cs.take o++vs++cs.drop (o+k)=cs')
  (h:∀ w',Blk w' b tb cs'→w.grownBy w' (some b)→SW P n ops (.eff Q) rest L w') : SW P n ops (.eff Q) (⟨none,.store t x y,T,pos,af,none⟩::rest) L w :=
 ⟨fun a ha=>by
  rw [addr_of] at hx
  have hst:=run_storeCells_at P b o tb vs 0 cs.toArray w hB (by simp only [List.size_toArray];omega) h1
  simp only [Nat.add_zero,hl,hcs] at hst
  simp only [swp,wpList,Region.wanted,if_true]
  refine .inl ?_
  unfold Oper.wp
  have hrun:(execOp a.eval ⟨none,.store t x y,T,pos,af,none⟩).run P w = .ok .skip (w.setRow b cs'.toArray):=by
   simp [execOp,ha.eval hx,ha.eval hy,Instr.storeAt,Instr.sureAddr,storeVar,Value.cells,run_sizeOf G.size,hl,hst]
  rw [hrun,Oper.upon_skip]
  obtain ⟨hB',hg'⟩:=grown_setRow (cs:=cs') hB
  exact (h _ hB' hg').out _ ha⟩
open Go.RowKit
structure Sh (wb w w':World) (b:Nat) (r:SRow) (H:HRow) (s:KSystem) (i:Nat) (p:Heap×KCache) (cs:List CRow) : Prop where
 ext:Ext wb w'
 blk:Blk w' b 30 (encSys ⟨r.Words,H,r.Caches⟩)
 sx:SX w' wb.heap.size ⟨r.Words,H,r.Caches⟩ (sysAt s i p) cs
 kp:∀ j x,j≠b→Blk w j 30 x→Blk w' j 30 x
set_option maxHeartbeats 4000000 in
theorem discard_ans (wb w0:World) (b:Nat) (r:SRow) (s:KSystem) (cs:List CRow) (i k:Nat) (p:Heap×KCache) (cpu:Int)
  (hx:Ext wb w0) (hb:Blk w0 b 30 (encSys r)) (hbl:wb.heap.size≤b) (hS:SX w0 wb.heap.size r (sysAt s i p) cs) (hi:i<s.Caches.length) (hn:s.Caches.length≤1000000) (hk:k<p.2.Slabs.length) (h1:HOk p.1) (h2:COk p.2) :
  AnsX Tryz.prog 25 [.pointer (some ⟨b,0,none⟩),.int .i64 (i:Int),.int .i64 (k:Int),.int .i64 cpu] w0 fun v w'=>v = .tuple #[] ∧ ∃ H cs',Sh wb w0 w' b r H s i ((freeV p.1 cpu p.2.Slabs[k].At).2,cutSlab p.2 k) cs':=by
 refine ansx_of Tryz.func25 rfl Tryz.ntmps25 rfl ?_
 obtain ⟨e1,e2⟩:=hS.rows
 have hic:i<cs.length:=by omega
 have hin:i<r.Caches.n:=by omega
 have hAc:=hS.row.sl.base
 have hC:=hS.get hic hi
 have q1:=hC.slabs.len
 have q2:=h2.small.slabs
 have hks:k<cs[i].Slabs.n:=by omega
 have hAs:=hC.slabs.sl.base
 have hat:=h2.at_ _ (List.getElem_mem hk)
 obtain ⟨x,hxk⟩ : ∃ x,p.2.Slabs[k]=x:=⟨_,rfl⟩
 have gA:=hC.slabs.sl.fld hks (j:=0) (show (encSb (p.2.Slabs[k]'(by omega)))[0]?=some (Value.int .i64 x.At) by rw [hxk];rfl)
 rw [hxk] at hat ⊢
 have hw:=Ext.refl w0
 have hkp:∀ j x,j≠b→Blk w0 j 30 x→Blk w0 j 30 x:=fun _ _ _ h=>h
 repeat' (first|(first|refine CW.seq ?_|refine CW.region ?_)|(refine Post.seq ?_)|refine SW.nil ?_|refine SW.pure rfl rfl ?_|(show SW _ _ _ _ (⟨_,Op.fieldAddr _ _ _,_,_,_,none⟩::_) _ _;refine SW.st (st_field rfl) rfl ?_)|(show SW _ _ _ _ (⟨_,Op.nilCheck _,_,_,_,none⟩::_) _ _;refine SW.st (st_nilCheck rfl) rfl ?_)|(show SW _ _ _ _ (⟨_,Op.indexAddr _ _ _,_,_,_,none⟩::_) _ _;refine SW.st (st_indexN rfl rfl (by assumption) (by omega)) rfl ?_)|(show SW _ _ _ _ (⟨_,Op.load _ _,_,_,_,none⟩::_) _ _;refine SW.st (st_load rfl (hb.cell (i:=6) (v := .slice r.Caches.A r.Caches.n r.Caches.c) rfl)) rfl ?_))
 refine CW.anyF 20 20 (fun _=>True) mixed (by kernel_rfl) fun w1 hw1 hRB => ?_
 replace hw:=Ext.trans hw hw1;replace hb:=hb.ext hw1;replace hS:=hS.ext hw1;clear hw1
 refine SF.take 0 [] [] hRB rfl (by kernel_rfl) (by kernel_rfl) (by kernel_rfl) ?_
 repeat (refine SW.pure rfl rfl ?_)
 refine SW.tknil ?_
 refine SF.take 1 [] [] hRB rfl (by kernel_rfl) (by kernel_rfl) (by kernel_rfl) ?_
 repeat (refine SW.pure rfl rfl ?_)
 refine SW.tknil ?_
 refine SF.take 2 [] [] hRB rfl (by kernel_rfl) (by kernel_rfl) (by kernel_rfl) ?_
 repeat ((show SW _ _ _ _ (⟨_,Op.nilCheck _,_,_,_,none⟩::_) _ _;refine SW.st (st_nilCheck rfl) rfl ?_))
 refine SW.tknil ?_
 refine SF.take 3 [] [] hRB rfl (by kernel_rfl) (by kernel_rfl) (by kernel_rfl) ?_
 repeat ((show SW _ _ _ _ (⟨_,Op.fieldAddr _ _ _,_,_,_,none⟩::_) _ _;refine SW.st (st_field rfl) rfl ?_))
 refine SW.tknil ?_
 refine SF.take 4 [] [] hRB rfl (by kernel_rfl) (by kernel_rfl) (by kernel_rfl) ?_
 repeat ((show SW _ _ _ _ (⟨_,Op.load _ _,_,_,_,none⟩::_) _ _;refine SW.st (st_loads rfl rfl ((heapIn hb))) rfl ?_))
 refine SW.tknil ?_
 refine SF.take 5 [] [] hRB rfl (by kernel_rfl) (by kernel_rfl) (by kernel_rfl) ?_
 repeat (refine SW.pure rfl rfl ?_)
 refine SW.tknil ?_
 refine SF.take 6 [] [] hRB rfl (by kernel_rfl) (by kernel_rfl) (by kernel_rfl) ?_
 repeat (refine SW.pure rfl rfl ?_)
 refine SW.tknil ?_
 refine SF.take 7 [] [] hRB rfl (by kernel_rfl) (by kernel_rfl) (by kernel_rfl) ?_
 repeat ((show SW _ _ _ _ (⟨_,Op.nilCheck _,_,_,_,none⟩::_) _ _;refine SW.st (st_nilCheck rfl) rfl ?_))
 refine SW.tknil ?_
 refine SF.take 8 [] [] hRB rfl (by kernel_rfl) (by kernel_rfl) (by kernel_rfl) ?_
 repeat ((show SW _ _ _ _ (⟨_,Op.fieldAddr _ _ _,_,_,_,none⟩::_) _ _;refine SW.st (st_field rfl) rfl ?_))
 refine SW.tknil ?_
 refine SF.take 9 [] [] hRB rfl (by kernel_rfl) (by kernel_rfl) (by kernel_rfl) ?_
 repeat ((show SW _ _ _ _ (⟨_,Op.load _ _,_,_,_,none⟩::_) _ _;refine SW.st (st_load rfl (hS.row.sl.fld hin (j:=4) (u := .slice cs[i].Slabs.A cs[i].Slabs.n cs[i].Slabs.c) rfl)) rfl ?_))
 refine SW.tknil ?_
 refine SF.take 10 [] [] hRB rfl (by kernel_rfl) (by kernel_rfl) (by kernel_rfl) ?_
 repeat (refine SW.pure rfl rfl ?_)
 refine SW.tknil ?_
 refine SF.take 11 [] [] hRB rfl (by kernel_rfl) (by kernel_rfl) (by kernel_rfl) ?_
 repeat ((show SW _ _ _ _ (⟨_,Op.indexAddr _ _ _,_,_,_,none⟩::_) _ _;refine SW.st (st_indexN rfl rfl (by assumption) (by omega)) rfl ?_))
 refine SW.tknil ?_
 refine SF.take 12 [] [] hRB rfl (by kernel_rfl) (by kernel_rfl) (by kernel_rfl) ?_
 repeat ((show SW _ _ _ _ (⟨_,Op.fieldAddr _ _ _,_,_,_,none⟩::_) _ _;refine SW.st (st_field rfl) rfl ?_))
 refine SW.tknil ?_
 refine SF.take 13 [] [] hRB rfl (by kernel_rfl) (by kernel_rfl) (by kernel_rfl) ?_
 repeat ((show SW _ _ _ _ (⟨_,Op.load _ _,_,_,_,none⟩::_) _ _;refine SW.st (st_loadx hw rfl gA) rfl ?_))
 refine SW.tknil ?_
 refine SF.one 14 rfl (by kernel_rfl) rfl ?_
 refine SW.call rfl rfl (Free_ans r.Heap p.1 cpu x.At _ hS.heap.rd h1.small h1.big hat) fun v w4 hXX hv => ?_
 obtain ⟨H,rfl,hH⟩:=hv
 replace hH:=hH.low (Nat.le_trans hx.size hw.size)
 (replace hw:=Ext.trans hw hXX;replace hb:=hb.ext hXX;replace hS:=hS.ext hXX)
 refine SW.nil (Post.sf hXX ?_)
 refine SF.take 15 [] [] hRB rfl (by kernel_rfl) (by kernel_rfl) (by kernel_rfl) ?_
 repeat (refine SW.pure rfl rfl ?_)
 refine SW.tknil ?_
 refine SF.take 16 [] [] hRB rfl (by kernel_rfl) (by kernel_rfl) (by kernel_rfl) ?_
 repeat (refine SW.pure rfl rfl ?_)
 refine SW.tknil ?_
 refine SF.takeX 17 hRB rfl (by kernel_rfl) (by kernel_rfl) rfl (fun _=>pureV_st rfl) rfl ?_
 refine SF.take 18 [19] [19] hRB rfl (by kernel_rfl) (by kernel_rfl) (by kernel_rfl) ?_
 repeat ((show SW _ _ _ _ (⟨_,Op.nilCheck _,_,_,_,none⟩::_) _ _;refine SW.st (st_nilCheck rfl) rfl ?_))
 refine SW.tknil ?_
 refine SF.take 19 [] [] hRB rfl (by kernel_rfl) (by kernel_rfl) (by kernel_rfl) ?_
 repeat ((show SW _ _ _ _ (⟨_,Op.fieldAddr _ _ _,_,_,_,none⟩::_) _ _;refine SW.st (st_field rfl) rfl ?_))
 refine SW.tknil ?_
 refine SF.last rfl (by kernel_rfl) (by kernel_rfl) ?_
 refine SW.storePart 1 hb rfl rfl rfl (Nat.le_of_ble_eq_true rfl) (one_h H) (encSys ⟨r.Words,H,r.Caches⟩) rfl fun w5 hb5 hg => ?_
 have hG:=hb.gr hg
 replace hx:=(hx.trans hw).own hbl hg
 have hkp5:∀ j x,j≠b→Blk w0 j 30 x→Blk w5 j 30 x:=fun j x hj h=>(h.ext hw).grown hg (by simpa using hj)
 have hS5:SX w5 wb.heap.size ⟨r.Words,H,r.Caches⟩ (sysAt s i ((freeV p.1 cpu x.At).2,p.2)) cs:=(hS.grT hG rfl).heapAt (hH.grT hG rfl)
 clear hw hkp hS hb hC gA
 have hw:=Ext.refl w5
 have hC:=hS5.get hic hi
 repeat' (first|(refine CW.region ?_)|(first|refine Post.seq ?_|refine Post.np ?_)|refine SW.nil ?_|refine SW.pure rfl rfl ?_|(show SW _ _ _ _ (⟨_,Op.fieldAddr _ _ _,_,_,_,none⟩::_) _ _;refine SW.st (st_field rfl) rfl ?_)|(show SW _ _ _ _ (⟨_,Op.nilCheck _,_,_,_,none⟩::_) _ _;refine SW.st (st_nilCheck rfl) rfl ?_)|(show SW _ _ _ _ (⟨_,Op.binOp _ _ _ _ _,_,_,_,none⟩::_) _ _;refine SW.st (st_add rfl rfl (by omega) (by omega)) rfl ?_)|(show SW _ _ _ _ (⟨_,Op.load _ _,_,_,_,none⟩::_) _ _;refine SW.st (st_load rfl (hS5.row.sl.fld hin (j:=4) (u := .slice cs[i].Slabs.A cs[i].Slabs.n cs[i].Slabs.c) rfl)) rfl ?_))
 refine SW.callX rfl rfl (DeleteSlab_ans _ _ _ wb.heap.size _ _ hC.slabs k hks (by omega) hx.size) fun v w6 hv => ?_
 obtain ⟨rfl,hO6,hg6⟩:=hv
 have hG6:=hC.slabs.gr hg6
 have hS6:=hS5.slabsAt hic hi hO6 hg6
 have hb6:=hb5.grT hG6 rfl
 replace hx:=ext_grown hx hg6 (Nat.le_refl _) hC.slabs.row_ge
 have hkp6:∀ j x,j≠b→Blk w0 j 30 x→Blk w6 j 30 x:=fun j x hj h=>(hkp5 j x hj h).grT hG6 rfl
 have hrow:=hS6.row
 repeat' (first|(show SW _ _ _ _ (⟨_,Op.fieldAddr _ _ _,_,_,_,none⟩::_) _ _;refine SW.st (st_field rfl) rfl ?_)|(show SW _ _ _ _ (⟨_,Op.nilCheck _,_,_,_,none⟩::_) _ _;refine SW.st (st_nilCheck rfl) rfl ?_))
 refine SW.storeO i 4 ⟨cs[i].Names,cs[i].Size,cs[i].Per,cs[i].Order,⟨cs[i].Slabs.A,cs[i].Slabs.n-1,cs[i].Slabs.c⟩,cs[i].Active⟩ hrow rfl rfl rfl hin (by decide) rfl rfl fun w7 hrow' hg7 => ?_
 have hG7:=hrow.gr hg7
 have hS7:=hS6.rowSet hrow' hg7
 replace hx:=ext_grown hx hg7 (Nat.le_refl _) hrow.row_ge
 repeat' (refine SW.nil ?_)
 exact Post.end0 rfl ⟨_,rfl,rfl,H,_,hx,hb6.grT hG7 rfl,hS7,fun j x hj h=>(hkp6 j x hj h).grT hG7 rfl⟩
open Go.RowKit
section
variable {P:Program} {n:Nat} {ops:Array Oper} {Q:Exit→Act→World→Prop} {fin lst f:Nat} {S2:World→Prop} {listed:Array Bool} {L:Env} {w:World}
theorem SF.two (i k:Nat) {o o':Oper} (hi:ops[i]?=some o) (hk:ops[k]?=some o') (hr:Region.ready .any ops listed=[i,k]) (hw:(!Nat.beq i lst && !Nat.beq i fin)=true) (hw':(!Nat.beq k lst && !Nat.beq k fin)=true)
  (h:SW P n ops (.eff (SFQ P n ops Q fin lst S2 f (listed.setIfInBounds i true) w)) [o] L w) (h':SW P n ops (.eff (SFQ P n ops Q fin lst S2 f (listed.setIfInBounds k true) w)) [o'] L w) : SF P n ops Q fin lst S2 (f+1) listed L w :=
 ⟨fun a ha inv=>⟨by rw [hr];simp,fun j hj=>by
  have hj':=hj
  rw [hr] at hj'
  simp only [List.mem_cons,List.not_mem_nil,or_false] at hj'
  rcases hj' with rfl|rfl
  ·obtain ⟨n1,n2⟩:=nes hw
   have hin:j<ops.size:=(Array.getElem?_eq_some_iff.1 hi).1
   refine ⟨hin,stepF (Q1:=SFQ P n ops Q fin lst S2 f (listed.setIfInBounds j true) w) hi (fun e a w ne h=>by cases e<;>first|exact h|exact absurd rfl ne) (fun h=>h) (fun a' w' hh=>⟨fun e=>absurd e n1,fun _ e=>absurd e n2,fun _ _=>⟨hh.1,wpHf_mono f (fun w'' h''=>Ext.trans hh.1 h'') _ _ _ (hh.2 (inv.set hj hin))⟩⟩) (h.out a ha)⟩
  ·obtain ⟨n1,n2⟩:=nes hw'
   have hin:j<ops.size:=(Array.getElem?_eq_some_iff.1 hk).1
   refine ⟨hin,stepF (Q1:=SFQ P n ops Q fin lst S2 f (listed.setIfInBounds j true) w) hk (fun e a w ne h=>by cases e<;>first|exact h|exact absurd rfl ne) (fun h=>h) (fun a' w' hh=>⟨fun e=>absurd e n1,fun _ e=>absurd e n2,fun _ _=>⟨hh.1,wpHf_mono f (fun w'' h''=>Ext.trans hh.1 h'') _ _ _ (hh.2 (inv.set hj hin))⟩⟩) (h'.out a ha)⟩⟩⟩
end
open Go.RowKit
theorem erase_take_ne {α : Type} {l:List α} {j k:Nat} (hj:j<l.length) (h:j≠k) : (l.take (j+1)).eraseIdx k=(l.take j).eraseIdx k++[l[j]]:=by
 rw [List.take_succ_eq_append_getElem hj]
 rcases Nat.lt_or_gt_of_ne h with g|g
 ·rw [List.eraseIdx_of_length_le (by simp;omega),List.eraseIdx_of_length_le (by simp;omega)]
 ·rw [List.eraseIdx_append_of_lt_length (by simp;omega)]
theorem erase_take_eq {α : Type} {l:List α} {k:Nat} (hk:k<l.length) : (l.take (k+1)).eraseIdx k=(l.take k).eraseIdx k:=by
 have e:(l.take k).length=k:=by simp;omega
 have h1:(l.take k).eraseIdx k=l.take k:=List.eraseIdx_of_length_le (by omega)
 rw [h1,List.take_succ_eq_append_getElem hk,List.eraseIdx_append_of_length_le (by omega),e,Nat.sub_self]
 simp
set_option maxHeartbeats 4000000 in
theorem dropSlab_ans (wb w0:World) (r:SRow) (s:KSystem) (cs:List CRow) (i k:Nat) (p:Heap×KCache) (cpu:Int)
  (hx:Ext wb w0) (hS:SX w0 wb.heap.size r (sysAt s i p) cs) (hi:i<s.Caches.length) (hn:s.Caches.length≤1000000) (hk:k<p.2.Slabs.length) (h1:HOk p.1) (h2:COk p.2) :
  AnsX Tryz.prog 28 [.agg (encSys r).toArray,.int .i64 (i:Int),.int .i64 (k:Int),.int .i64 cpu] w0 fun v w' => ∃ H cs',v = .agg (encSys ⟨r.Words,H,r.Caches⟩).toArray∧Ext wb w'∧SX w' wb.heap.size ⟨r.Words,H,r.Caches⟩ (sysAt s i ((freeV p.1 cpu p.2.Slabs[k].At).2,cutSlab p.2 k)) cs'∧w0.grownBy w' (ownB r.Caches.A r.Caches.c):=by
 refine ansx_of Tryz.func28 rfl Tryz.ntmps28 rfl ?_
 refine CW.seq (CW.region (SW.box rfl rfl fun b4 w1 hw hb4b hb4 => ?_))
 refine SW.alloc rfl fun b8 w3 hw3 hb8b hb8 => ?_
 have hb8w:w0.heap.size≤b8:=Nat.le_trans hw.size hb8b
 have hne48:b4≠b8:=by have:=hb4.lt;omega
 (replace hw:=Ext.trans hw hw3;replace hb4:=hb4.ext hw3)
 obtain ⟨e1,e2⟩:=hS.rows
 have hic:i<cs.length:=by omega
 have hin:i<r.Caches.n:=by omega
 have hAc:=hS.row.sl.base
 have hC:=hS.get hic hi
 have q1:=hC.slabs.len
 have q2:=h2.small.slabs
 have hks:k<cs[i].Slabs.n:=by omega
 have hAs:=hC.slabs.sl.base
 have hat:=h2.at_ _ (List.getElem_mem hk)
 obtain ⟨x,hxk⟩ : ∃ x,p.2.Slabs[k]=x:=⟨_,rfl⟩
 have gA:=hC.slabs.sl.fld hks (j:=0) (show (encSb (p.2.Slabs[k]'(by omega)))[0]?=some (Value.int .i64 x.At) by rw [hxk];rfl)
 rw [hxk] at hat ⊢
 obtain ⟨u,hu⟩ : ∃ u,cs[i]=u:=⟨_,rfl⟩
 have gS:=hS.row.sl.fld hin (j:=4) (show (encC cs[i])[4]?=some (Value.slice u.Slabs.A u.Slabs.n u.Slabs.c) by rw [hu];rfl)
 rw [hu] at hC q1 hks hAs gA
 try simp only at hC q1
 have hSl:=hC.slabs.sl
 have hS0:=hS
 replace hS:=hS.ext hw
 repeat' (first|(refine CW.seq ?_)|(refine Post.seq ?_)|refine SW.nil ?_)
 refine CW.anyF 18 19 (fun _=>True) mixed (by kernel_rfl) fun w1 hw1 hRB => ?_
 replace hw:=Ext.trans hw hw1;replace hb4:=hb4.ext hw1;replace hb8:=hb8.ext hw1;replace hS:=hS.ext hw1;clear hw1
 refine SF.take 0 [] [] hRB rfl (by kernel_rfl) (by kernel_rfl) (by kernel_rfl) ?_
 repeat ((show SW _ _ _ _ (⟨_,Op.fieldAddr _ _ _,_,_,_,none⟩::_) _ _;refine SW.st (st_field rfl) rfl ?_))
 refine SW.tknil ?_
 refine SF.take 1 [] [] hRB rfl (by kernel_rfl) (by kernel_rfl) (by kernel_rfl) ?_
 repeat ((show SW _ _ _ _ (⟨_,Op.load _ _,_,_,_,none⟩::_) _ _;refine SW.st (st_loads rfl rfl ((heapIn hb4))) rfl ?_))
 refine SW.tknil ?_
 refine SF.take 2 [] [] hRB rfl (by kernel_rfl) (by kernel_rfl) (by kernel_rfl) ?_
 repeat (refine SW.pure rfl rfl ?_)
 refine SW.tknil ?_
 refine SF.take 3 [] [] hRB rfl (by kernel_rfl) (by kernel_rfl) (by kernel_rfl) ?_
 repeat ((show SW _ _ _ _ (⟨_,Op.fieldAddr _ _ _,_,_,_,none⟩::_) _ _;refine SW.st (st_field rfl) rfl ?_))
 refine SW.tknil ?_
 refine SF.take 4 [] [] hRB rfl (by kernel_rfl) (by kernel_rfl) (by kernel_rfl) ?_
 repeat ((show SW _ _ _ _ (⟨_,Op.load _ _,_,_,_,none⟩::_) _ _;refine SW.st (st_load rfl (hb4.cell (i:=6) (v := .slice r.Caches.A r.Caches.n r.Caches.c) rfl)) rfl ?_))
 refine SW.tknil ?_
 refine SF.take 5 [] [] hRB rfl (by kernel_rfl) (by kernel_rfl) (by kernel_rfl) ?_
 repeat (refine SW.pure rfl rfl ?_)
 refine SW.tknil ?_
 refine SF.take 6 [] [] hRB rfl (by kernel_rfl) (by kernel_rfl) (by kernel_rfl) ?_
 repeat ((show SW _ _ _ _ (⟨_,Op.indexAddr _ _ _,_,_,_,none⟩::_) _ _;refine SW.st (st_indexN rfl rfl (by assumption) (by omega)) rfl ?_))
 refine SW.tknil ?_
 refine SF.take 7 [] [] hRB rfl (by kernel_rfl) (by kernel_rfl) (by kernel_rfl) ?_
 repeat ((show SW _ _ _ _ (⟨_,Op.fieldAddr _ _ _,_,_,_,none⟩::_) _ _;refine SW.st (st_field rfl) rfl ?_))
 refine SW.tknil ?_
 refine SF.take 8 [] [] hRB rfl (by kernel_rfl) (by kernel_rfl) (by kernel_rfl) ?_
 repeat ((show SW _ _ _ _ (⟨_,Op.load _ _,_,_,_,none⟩::_) _ _;refine SW.st (st_loadx hw rfl gS) rfl ?_))
 refine SW.tknil ?_
 refine SF.take 9 [] [] hRB rfl (by kernel_rfl) (by kernel_rfl) (by kernel_rfl) ?_
 repeat (refine SW.pure rfl rfl ?_)
 refine SW.tknil ?_
 refine SF.take 10 [] [] hRB rfl (by kernel_rfl) (by kernel_rfl) (by kernel_rfl) ?_
 repeat ((show SW _ _ _ _ (⟨_,Op.indexAddr _ _ _,_,_,_,none⟩::_) _ _;refine SW.st (st_indexN rfl rfl (by assumption) (by omega)) rfl ?_))
 refine SW.tknil ?_
 refine SF.take 11 [] [] hRB rfl (by kernel_rfl) (by kernel_rfl) (by kernel_rfl) ?_
 repeat ((show SW _ _ _ _ (⟨_,Op.fieldAddr _ _ _,_,_,_,none⟩::_) _ _;refine SW.st (st_field rfl) rfl ?_))
 refine SW.tknil ?_
 refine SF.take 12 [] [] hRB rfl (by kernel_rfl) (by kernel_rfl) (by kernel_rfl) ?_
 repeat ((show SW _ _ _ _ (⟨_,Op.load _ _,_,_,_,none⟩::_) _ _;refine SW.st (st_loadx hw rfl gA) rfl ?_))
 refine SW.tknil ?_
 refine SF.two 13 17 rfl rfl (by kernel_rfl) rfl rfl ?_ ?_
 ·refine SW.call rfl rfl (HeapFree_ans r.Heap p.1 cpu x.At _ hS.heap.rd h1.small h1.big hat) fun v w4 hXX hv => ?_
  obtain ⟨H,rfl,hH⟩:=hv
  replace hH:=hH.low hw.size
  (replace hw:=Ext.trans hw hXX;replace hb4:=hb4.ext hXX;replace hb8:=hb8.ext hXX;replace hS:=hS.ext hXX)
  try replace hb9:=hb9.ext hXX
  refine SW.nil (Post.sf hXX ?_)
  refine SF.take 14 [] [] hRB rfl (by kernel_rfl) (by kernel_rfl) (by kernel_rfl) ?_
  repeat (refine SW.pure rfl rfl ?_)
  refine SW.tknil ?_
  refine SF.take 15 [] [] hRB rfl (by kernel_rfl) (by kernel_rfl) (by kernel_rfl) ?_
  repeat (refine SW.pure rfl rfl ?_)
  refine SW.tknil ?_
  refine SF.take2 16 [] hRB rfl (by kernel_rfl) (by kernel_rfl) (by kernel_rfl) (pureV_st rfl) (fun w2 hS=>pureV_st rfl) rfl ?_
  refine SF.one 17 rfl (by kernel_rfl) rfl ?_
  refine SW.alloc rfl fun b9 w4 hXX hb9b hb9 => ?_
  have hb9w:w0.heap.size≤b9:=Nat.le_trans hw.size hb9b
  try replace hH:=hH.ext hXX
  (replace hw:=Ext.trans hw hXX;replace hb4:=hb4.ext hXX;replace hb8:=hb8.ext hXX;replace hS:=hS.ext hXX)
  refine SW.nil (Post.sf hXX ?_)
  refine SF.turn rfl (by kernel_rfl) rfl ?_
  refine SW.storeAgg hb9 rfl rfl rfl rfl (one_h H) fun w5 hb9' hg => ?_
  have hG:=hb9.gr hg
  replace hw:=hw.own hb9w hg
  (replace hb4:=hb4.grT hG rfl;replace hb8:=hb8.grT hG rfl;replace hH:=hH.grT hG rfl;replace hS:=hS.grT hG rfl)
  replace hb9:=hb9'
  clear hb9' hg hG
  have hX8:=hS
  have hS:True:=trivial
  refine SW.nil (Post.sg hS ?_)
  refine SG.last rfl (by kernel_rfl) (by kernel_rfl) ?_
  replace hS:=hX8
  clear hX8
  repeat' (first|(first|refine CW.seq ?_|refine CW.region ?_)|(first|refine Post.seq ?_|refine Post.np ?_)|refine SW.nil ?_|refine SW.pure rfl rfl ?_|(show SW _ _ _ _ (⟨_,Op.fieldAddr _ _ _,_,_,_,none⟩::_) _ _;refine SW.st (st_field rfl) rfl ?_)|(show SW _ _ _ _ (⟨_,Op.load _ _,_,_,_,none⟩::_) _ _;refine SW.st (st_loads rfl rfl ((fun _ _=>hb9.cell))) rfl ?_))
  refine SW.storePart 1 hb4 rfl rfl rfl (Nat.le_of_ble_eq_true rfl) (one_h H) (encSys ⟨r.Words,H,r.Caches⟩) rfl fun w6 hb4' hg => ?_
  have hG:=hb4.gr hg
  replace hb8:=hb8.grown hg (by simpa using hne48.symm)
  replace hw:=hw.own hb4b hg
  replace hH:=hH.grT hG rfl
  replace hS:=hS.grT hG rfl
  replace hb4:=hb4'
  clear hb4' hg hG
  repeat' (first|(first|refine CW.seq ?_|refine CW.region ?_|refine CW.block ?_)|(refine Post.seq ?_)|refine SW.nil ?_|refine SW.pure rfl rfl ?_)
  have hwB:Ext w0 w6:=hw
  refine CW.loop (fun t:Nat×Nat×Option Addr×Nat=>[(1,.int .i64 (i:Int)),(2,.int .i64 (k:Int)),(4,.pointer (some ⟨b4,0,none⟩)),(8,.pointer (some ⟨b8,0,none⟩)),(11,.slice t.2.2.1 t.2.1 t.2.2.2),(12,.int .i64 (t.1:Int))])
   (fun t w'=>t.1≤u.Slabs.n∧t.2.1≤t.1∧Ext w6 w'∧Own w' w6.heap.size 46 3 encSb t.2.2.1 t.2.1 t.2.2.2 ((p.2.Slabs.take t.1).eraseIdx k)) (fun t=>u.Slabs.n-t.1) (0,0,none,0) ⟨rfl,rfl,rfl,rfl,rfl,rfl,trivial⟩ ⟨Nat.zero_le _,Nat.zero_le _,Ext.refl _,by simpa using Own.nil_ _ _ _ _ _ _⟩ ?_
  clear hw
  rintro ⟨j,m,A,c⟩ w7 ⟨hj,hm,hw,hL⟩
  simp only at hj hm hL ⊢
  have gC:=hb4.cell (i:=6) (v := .slice r.Caches.A r.Caches.n r.Caches.c) rfl
  have gS6:=hwB.cell gS
  have hSl6:=hSl.ext hwB
  by_cases hjn:j<u.Slabs.n
  ·have hjl:j<p.2.Slabs.length:=by omega
   by_cases hjk:j=k
   ·subst hjk
    repeat' (first|(first|refine CW.seq ?_|refine CW.region ?_|refine CW.block ?_|refine CW.condd_t rfl (by omega) ?_|refine CW.condn_f rfl (by omega) ?_|refine CW.skip ?_)|(first|refine Post.seq ?_|refine Post.blk ?_)|refine SW.nil ?_|refine SW.pure rfl rfl ?_|(show SW _ _ _ _ (⟨_,Op.fieldAddr _ _ _,_,_,_,none⟩::_) _ _;refine SW.st (st_field rfl) rfl ?_)|(show SW _ _ _ _ (⟨_,Op.binOp _ _ _ _ _,_,_,_,none⟩::_) _ _;refine SW.st (st_add rfl rfl (by omega) (by omega)) rfl ?_)|(show SW _ _ _ _ (⟨_,Op.indexAddr _ _ _,_,_,_,none⟩::_) _ _;refine SW.st (st_indexN rfl rfl (by assumption) (by omega)) rfl ?_)|(show SW _ _ _ _ (⟨_,Op.call ⟨.builtin .len,_,_⟩,_,_,_,none⟩::_) _ _;refine SW.st (st_len rfl) rfl ?_)|(show SW _ _ _ _ (⟨_,Op.load _ _,_,_,_,none⟩::_) _ _;first|refine SW.st (st_loadx hw rfl gC) rfl ?_|refine SW.st (st_loadx hw rfl gS6) rfl ?_))
    refine Post.again (j+1,m,A,c) ⟨rfl,rfl,rfl,rfl,rfl,rfl,trivial⟩ (by simp only;omega) ⟨by simp only;omega,by simp only;omega,hw,?_⟩
    simp only
    rw [erase_take_eq hjl]
    exact hL
   ·repeat' (first|(first|refine CW.seq ?_|refine CW.region ?_|refine CW.block ?_|refine CW.condd_t rfl (by omega) ?_|refine CW.condn_t rfl (by omega) ?_|refine CW.skip ?_)|(refine Post.seq ?_)|refine SW.nil ?_|refine SW.pure rfl rfl ?_|(show SW _ _ _ _ (⟨_,Op.fieldAddr _ _ _,_,_,_,none⟩::_) _ _;refine SW.st (st_field rfl) rfl ?_)|(show SW _ _ _ _ (⟨_,Op.indexAddr _ _ _,_,_,_,none⟩::_) _ _;refine SW.st (st_indexN rfl rfl (by assumption) (by omega)) rfl ?_)|(show SW _ _ _ _ (⟨_,Op.call ⟨.builtin .len,_,_⟩,_,_,_,none⟩::_) _ _;refine SW.st (st_len rfl) rfl ?_)|(show SW _ _ _ _ (⟨_,Op.load _ _,_,_,_,none⟩::_) _ _;first|refine SW.st (st_loadx hw rfl gC) rfl ?_|refine SW.st (st_loadx hw rfl gS6) rfl ?_|refine SW.st (st_loadsx hw rfl rfl ((hSl6.all hjn))) rfl ?_))
    refine SW.build1 rfl rfl rfl rfl rfl fun b w8 hXX hb hBb => ?_
    (replace hw:=Ext.trans hw hXX;replace hL:=hL.ext hXX)
    refine SW.append hL (Blk.sl1 (enc:=encSb) hBb) hw.size rfl rfl rfl (by omega) (by omega) fun A2 c2 w9 hO1 hg => ?_
    replace hw:=ext_grown hw hg (Nat.le_refl _) hL.row_ge
    repeat' (first|(refine CW.region ?_)|(first|refine Post.seq ?_|refine Post.blk ?_)|refine SW.nil ?_|refine SW.pure rfl rfl ?_|(show SW _ _ _ _ (⟨_,Op.binOp _ _ _ _ _,_,_,_,none⟩::_) _ _;refine SW.st (st_add rfl rfl (by omega) (by omega)) rfl ?_))
    refine Post.again (j+1,m+1,A2,c2) ⟨rfl,rfl,rfl,rfl,rfl,rfl,trivial⟩ (by simp only;omega) ⟨by simp only;omega,by simp only;omega,hw,?_⟩
    simp only
    rw [erase_take_ne hjl hjk]
    exact hO1
  ·obtain rfl:j=u.Slabs.n:=by omega
   rw [List.take_of_length_le (by omega)] at hL
   repeat' (first|(first|refine CW.seq ?_|refine CW.region ?_|refine CW.condd_f rfl (by omega) ?_|refine CW.exit ?_)|(first|refine Post.seq ?_|refine Post.seq_exit ?_|refine Post.hit ?_|refine Post.again_exit ?_)|refine SW.nil ?_|refine SW.pure rfl rfl ?_|(show SW _ _ _ _ (⟨_,Op.fieldAddr _ _ _,_,_,_,none⟩::_) _ _;refine SW.st (st_field rfl) rfl ?_)|(show SW _ _ _ _ (⟨_,Op.indexAddr _ _ _,_,_,_,none⟩::_) _ _;refine SW.st (st_indexN rfl rfl (by assumption) (by omega)) rfl ?_)|(show SW _ _ _ _ (⟨_,Op.call ⟨.builtin .len,_,_⟩,_,_,_,none⟩::_) _ _;refine SW.st (st_len rfl) rfl ?_)|(show SW _ _ _ _ (⟨_,Op.load _ _,_,_,_,none⟩::_) _ _;first|refine SW.st (st_loadx hw rfl gC) rfl ?_|refine SW.st (st_loadx hw rfl gS6) rfl ?_))
   have hS7:=(hS.heapAt (hH.low hx.size)).newSlabsAt (Nat.le_trans hx.size hwB.size) hic hi hw hL
   have hrow:=hS7.row
   have hb4':=hb4.ext hw
   have hb8':=hb8.ext hw
   refine SW.storeO i 4 ⟨cs[i].Names,cs[i].Size,cs[i].Per,cs[i].Order,⟨A,m,c⟩,cs[i].Active⟩ hrow rfl rfl rfl hin (by decide) rfl rfl fun w10 hrow' hg7 => ?_
   have hG7:=hrow.gr hg7
   have hS8:=hS7.rowSet hrow' hg7
   have hgg:=(hwB.trans hw).gr (ownB r.Caches.A r.Caches.c)
   have hgg2:=grown_trans hgg hg7 (.inl rfl)
   (replace hb4':=hb4'.grT hG7 rfl;replace hb8':=hb8'.grT hG7 rfl)
   repeat' (first|(first|refine CW.seq ?_|refine CW.region ?_)|(refine Post.seq ?_)|refine SW.nil ?_|(show SW _ _ _ _ (⟨_,Op.load _ _,_,_,_,none⟩::_) _ _;refine SW.st (st_loads rfl rfl ((fun _ _=>hb4'.cell))) rfl ?_))
   refine SW.storeAgg hb8' rfl rfl rfl rfl (one_s ⟨r.Words,H,r.Caches⟩) fun w11 hR2 hg => ?_
   have hG:=hb8'.gr hg
   repeat' (first|(refine CW.ret ?_)|(refine Post.seq ?_)|refine SW.nil ?_)
   refine Post.ret1c rfl rfl hR2 rfl ⟨_,rfl,H,_,rfl,?_,hS8.grT hG rfl,?_⟩
   ·exact (ext_grown (hx.trans (hwB.trans hw)) hg7 (Nat.le_refl _) hrow.row_ge).own (Nat.le_trans hx.size hb8w) hg
   ·exact grown_trans hgg2 hg (.inr fun i e=>by cases e;exact hb8w)
 ·refine SW.alloc rfl fun b9 w4 hXX hb9b hb9 => ?_
  have hb9w:w0.heap.size≤b9:=Nat.le_trans hw.size hb9b
  try replace hH:=hH.ext hXX
  (replace hw:=Ext.trans hw hXX;replace hb4:=hb4.ext hXX;replace hb8:=hb8.ext hXX;replace hS:=hS.ext hXX)
  refine SW.nil (Post.sf hXX ?_)
  refine SF.one 13 rfl (by kernel_rfl) rfl ?_
  refine SW.call rfl rfl (HeapFree_ans r.Heap p.1 cpu x.At _ hS.heap.rd h1.small h1.big hat) fun v w4 hXX hv => ?_
  obtain ⟨H,rfl,hH⟩:=hv
  replace hH:=hH.low hw.size
  (replace hw:=Ext.trans hw hXX;replace hb4:=hb4.ext hXX;replace hb8:=hb8.ext hXX;replace hS:=hS.ext hXX)
  try replace hb9:=hb9.ext hXX
  refine SW.nil (Post.sf hXX ?_)
  refine SF.take 14 [] [] hRB rfl (by kernel_rfl) (by kernel_rfl) (by kernel_rfl) ?_
  repeat (refine SW.pure rfl rfl ?_)
  refine SW.tknil ?_
  refine SF.take 15 [] [] hRB rfl (by kernel_rfl) (by kernel_rfl) (by kernel_rfl) ?_
  repeat (refine SW.pure rfl rfl ?_)
  refine SW.tknil ?_
  refine SF.take2 16 [] hRB rfl (by kernel_rfl) (by kernel_rfl) (by kernel_rfl) (pureV_st rfl) (fun w2 hS=>pureV_st rfl) rfl ?_
  refine SF.turn rfl (by kernel_rfl) rfl ?_
  refine SW.storeAgg hb9 rfl rfl rfl rfl (one_h H) fun w5 hb9' hg => ?_
  have hG:=hb9.gr hg
  replace hw:=hw.own hb9w hg
  (replace hb4:=hb4.grT hG rfl;replace hb8:=hb8.grT hG rfl;replace hH:=hH.grT hG rfl;replace hS:=hS.grT hG rfl)
  replace hb9:=hb9'
  clear hb9' hg hG
  have hX8:=hS
  have hS:True:=trivial
  refine SW.nil (Post.sg hS ?_)
  refine SG.last rfl (by kernel_rfl) (by kernel_rfl) ?_
  replace hS:=hX8
  clear hX8
  repeat' (first|(first|refine CW.seq ?_|refine CW.region ?_)|(first|refine Post.seq ?_|refine Post.np ?_)|refine SW.nil ?_|refine SW.pure rfl rfl ?_|(show SW _ _ _ _ (⟨_,Op.fieldAddr _ _ _,_,_,_,none⟩::_) _ _;refine SW.st (st_field rfl) rfl ?_)|(show SW _ _ _ _ (⟨_,Op.load _ _,_,_,_,none⟩::_) _ _;refine SW.st (st_loads rfl rfl ((fun _ _=>hb9.cell))) rfl ?_))
  refine SW.storePart 1 hb4 rfl rfl rfl (Nat.le_of_ble_eq_true rfl) (one_h H) (encSys ⟨r.Words,H,r.Caches⟩) rfl fun w6 hb4' hg => ?_
  have hG:=hb4.gr hg
  replace hb8:=hb8.grown hg (by simpa using hne48.symm)
  replace hw:=hw.own hb4b hg
  replace hH:=hH.grT hG rfl
  replace hS:=hS.grT hG rfl
  replace hb4:=hb4'
  clear hb4' hg hG
  repeat' (first|(first|refine CW.seq ?_|refine CW.region ?_|refine CW.block ?_)|(refine Post.seq ?_)|refine SW.nil ?_|refine SW.pure rfl rfl ?_)
  have hwB:Ext w0 w6:=hw
  refine CW.loop (fun t:Nat×Nat×Option Addr×Nat=>[(1,.int .i64 (i:Int)),(2,.int .i64 (k:Int)),(4,.pointer (some ⟨b4,0,none⟩)),(8,.pointer (some ⟨b8,0,none⟩)),(11,.slice t.2.2.1 t.2.1 t.2.2.2),(12,.int .i64 (t.1:Int))])
   (fun t w'=>t.1≤u.Slabs.n∧t.2.1≤t.1∧Ext w6 w'∧Own w' w6.heap.size 46 3 encSb t.2.2.1 t.2.1 t.2.2.2 ((p.2.Slabs.take t.1).eraseIdx k)) (fun t=>u.Slabs.n-t.1) (0,0,none,0) ⟨rfl,rfl,rfl,rfl,rfl,rfl,trivial⟩ ⟨Nat.zero_le _,Nat.zero_le _,Ext.refl _,by simpa using Own.nil_ _ _ _ _ _ _⟩ ?_
  clear hw
  rintro ⟨j,m,A,c⟩ w7 ⟨hj,hm,hw,hL⟩
  simp only at hj hm hL ⊢
  have gC:=hb4.cell (i:=6) (v := .slice r.Caches.A r.Caches.n r.Caches.c) rfl
  have gS6:=hwB.cell gS
  have hSl6:=hSl.ext hwB
  by_cases hjn:j<u.Slabs.n
  ·have hjl:j<p.2.Slabs.length:=by omega
   by_cases hjk:j=k
   ·subst hjk
    repeat' (first|(first|refine CW.seq ?_|refine CW.region ?_|refine CW.block ?_|refine CW.condd_t rfl (by omega) ?_|refine CW.condn_f rfl (by omega) ?_|refine CW.skip ?_)|(first|refine Post.seq ?_|refine Post.blk ?_)|refine SW.nil ?_|refine SW.pure rfl rfl ?_|(show SW _ _ _ _ (⟨_,Op.fieldAddr _ _ _,_,_,_,none⟩::_) _ _;refine SW.st (st_field rfl) rfl ?_)|(show SW _ _ _ _ (⟨_,Op.binOp _ _ _ _ _,_,_,_,none⟩::_) _ _;refine SW.st (st_add rfl rfl (by omega) (by omega)) rfl ?_)|(show SW _ _ _ _ (⟨_,Op.indexAddr _ _ _,_,_,_,none⟩::_) _ _;refine SW.st (st_indexN rfl rfl (by assumption) (by omega)) rfl ?_)|(show SW _ _ _ _ (⟨_,Op.call ⟨.builtin .len,_,_⟩,_,_,_,none⟩::_) _ _;refine SW.st (st_len rfl) rfl ?_)|(show SW _ _ _ _ (⟨_,Op.load _ _,_,_,_,none⟩::_) _ _;first|refine SW.st (st_loadx hw rfl gC) rfl ?_|refine SW.st (st_loadx hw rfl gS6) rfl ?_))
    refine Post.again (j+1,m,A,c) ⟨rfl,rfl,rfl,rfl,rfl,rfl,trivial⟩ (by simp only;omega) ⟨by simp only;omega,by simp only;omega,hw,?_⟩
    simp only
    rw [erase_take_eq hjl]
    exact hL
   ·repeat' (first|(first|refine CW.seq ?_|refine CW.region ?_|refine CW.block ?_|refine CW.condd_t rfl (by omega) ?_|refine CW.condn_t rfl (by omega) ?_|refine CW.skip ?_)|(refine Post.seq ?_)|refine SW.nil ?_|refine SW.pure rfl rfl ?_|(show SW _ _ _ _ (⟨_,Op.fieldAddr _ _ _,_,_,_,none⟩::_) _ _;refine SW.st (st_field rfl) rfl ?_)|(show SW _ _ _ _ (⟨_,Op.indexAddr _ _ _,_,_,_,none⟩::_) _ _;refine SW.st (st_indexN rfl rfl (by assumption) (by omega)) rfl ?_)|(show SW _ _ _ _ (⟨_,Op.call ⟨.builtin .len,_,_⟩,_,_,_,none⟩::_) _ _;refine SW.st (st_len rfl) rfl ?_)|(show SW _ _ _ _ (⟨_,Op.load _ _,_,_,_,none⟩::_) _ _;first|refine SW.st (st_loadx hw rfl gC) rfl ?_|refine SW.st (st_loadx hw rfl gS6) rfl ?_|refine SW.st (st_loadsx hw rfl rfl ((hSl6.all hjn))) rfl ?_))
    refine SW.build1 rfl rfl rfl rfl rfl fun b w8 hXX hb hBb => ?_
    (replace hw:=Ext.trans hw hXX;replace hL:=hL.ext hXX)
    refine SW.append hL (Blk.sl1 (enc:=encSb) hBb) hw.size rfl rfl rfl (by omega) (by omega) fun A2 c2 w9 hO1 hg => ?_
    replace hw:=ext_grown hw hg (Nat.le_refl _) hL.row_ge
    repeat' (first|(refine CW.region ?_)|(first|refine Post.seq ?_|refine Post.blk ?_)|refine SW.nil ?_|refine SW.pure rfl rfl ?_|(show SW _ _ _ _ (⟨_,Op.binOp _ _ _ _ _,_,_,_,none⟩::_) _ _;refine SW.st (st_add rfl rfl (by omega) (by omega)) rfl ?_))
    refine Post.again (j+1,m+1,A2,c2) ⟨rfl,rfl,rfl,rfl,rfl,rfl,trivial⟩ (by simp only;omega) ⟨by simp only;omega,by simp only;omega,hw,?_⟩
    simp only
    rw [erase_take_ne hjl hjk]
    exact hO1
  ·obtain rfl:j=u.Slabs.n:=by omega
   rw [List.take_of_length_le (by omega)] at hL
   repeat' (first|(first|refine CW.seq ?_|refine CW.region ?_|refine CW.condd_f rfl (by omega) ?_|refine CW.exit ?_)|(first|refine Post.seq ?_|refine Post.seq_exit ?_|refine Post.hit ?_|refine Post.again_exit ?_)|refine SW.nil ?_|refine SW.pure rfl rfl ?_|(show SW _ _ _ _ (⟨_,Op.fieldAddr _ _ _,_,_,_,none⟩::_) _ _;refine SW.st (st_field rfl) rfl ?_)|(show SW _ _ _ _ (⟨_,Op.indexAddr _ _ _,_,_,_,none⟩::_) _ _;refine SW.st (st_indexN rfl rfl (by assumption) (by omega)) rfl ?_)|(show SW _ _ _ _ (⟨_,Op.call ⟨.builtin .len,_,_⟩,_,_,_,none⟩::_) _ _;refine SW.st (st_len rfl) rfl ?_)|(show SW _ _ _ _ (⟨_,Op.load _ _,_,_,_,none⟩::_) _ _;first|refine SW.st (st_loadx hw rfl gC) rfl ?_|refine SW.st (st_loadx hw rfl gS6) rfl ?_))
   have hS7:=(hS.heapAt (hH.low hx.size)).newSlabsAt (Nat.le_trans hx.size hwB.size) hic hi hw hL
   have hrow:=hS7.row
   have hb4':=hb4.ext hw
   have hb8':=hb8.ext hw
   refine SW.storeO i 4 ⟨cs[i].Names,cs[i].Size,cs[i].Per,cs[i].Order,⟨A,m,c⟩,cs[i].Active⟩ hrow rfl rfl rfl hin (by decide) rfl rfl fun w10 hrow' hg7 => ?_
   have hG7:=hrow.gr hg7
   have hS8:=hS7.rowSet hrow' hg7
   have hgg:=(hwB.trans hw).gr (ownB r.Caches.A r.Caches.c)
   have hgg2:=grown_trans hgg hg7 (.inl rfl)
   (replace hb4':=hb4'.grT hG7 rfl;replace hb8':=hb8'.grT hG7 rfl)
   repeat' (first|(first|refine CW.seq ?_|refine CW.region ?_)|(refine Post.seq ?_)|refine SW.nil ?_|(show SW _ _ _ _ (⟨_,Op.load _ _,_,_,_,none⟩::_) _ _;refine SW.st (st_loads rfl rfl ((fun _ _=>hb4'.cell))) rfl ?_))
   refine SW.storeAgg hb8' rfl rfl rfl rfl (one_s ⟨r.Words,H,r.Caches⟩) fun w11 hR2 hg => ?_
   have hG:=hb8'.gr hg
   repeat' (first|(refine CW.ret ?_)|(refine Post.seq ?_)|refine SW.nil ?_)
   refine Post.ret1c rfl rfl hR2 rfl ⟨_,rfl,H,_,rfl,?_,hS8.grT hG rfl,?_⟩
   ·exact (ext_grown (hx.trans (hwB.trans hw)) hg7 (Nat.le_refl _) hrow.row_ge).own (Nat.le_trans hx.size hb8w) hg
   ·exact grown_trans hgg2 hg (.inr fun i e=>by cases e;exact hb8w)
end Go.Proofs.YtigikedbffjeiaaGreat
