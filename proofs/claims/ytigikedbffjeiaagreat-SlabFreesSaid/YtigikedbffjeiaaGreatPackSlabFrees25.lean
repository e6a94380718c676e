/-
  Texts of the claim SlabFrees, part 25: what its theorem leans on.
-/
import Derived.Test.YtigikedbffjeiaaGreatPackSlabFrees21
import Derived.Test.YtigikedbffjeiaaGreatPackSlabFrees24
set_option linter.unusedVariables false
set_option linter.unusedSimpArgs false
namespace Go.Proofs.YtigikedbffjeiaaGreat
open Go.RowKit
def objAt (s:KSystem) (a:Int) (i k:Nat) : Bool:=if h:i<s.Caches.length then (if h':k<s.Caches[i].Slabs.length then objB s.Caches[i].Size s.Caches[i].Per (s.Caches[i].Slabs[k]).At a else false) else false
theorem objAt_eq {s:KSystem} {a:Int} {i k:Nat} (h:i<s.Caches.length) (h':k<s.Caches[i].Slabs.length) : objAt s a i k=objB s.Caches[i].Size s.Caches[i].Per (s.Caches[i].Slabs[k]).At a:=by simp [objAt,h,h']
theorem objAt_out {s:KSystem} {a:Int} {i k:Nat} (h:i<s.Caches.length) (h' : ¬ k<s.Caches[i].Slabs.length) : objAt s a i k=false:=by simp [objAt,h,h']
structure FoundAt (s:KSystem) (a:Int) (i k:Nat) : Prop where
 hi:i<s.Caches.length
 hk:k<s.Caches[i].Slabs.length
 obj:objAt s a i k=true
 ahead:∀ i' k',(i'<i∨(i'=i∧k'<k))→objAt s a i' k'=false
inductive FindR (s:KSystem) (a:Int) : Int×Int×Int→Prop where
 | bad (h:sysB s=false) : FindR s a (0,0,8)
 | none (h:sysB s=true) (hn:∀ i k,objAt s a i k=false) : FindR s a (0,0,4)
 | free {i k:Nat} {out:List Int} (h:sysB s=true) (hF:FoundAt s a i k) (hC:ChainIs s.Words (s.Caches[i]'hF.hi).Size (s.Caches[i]'hF.hi).Per ((s.Caches[i]'hF.hi).Slabs[k]'hF.hk) out) (hm:a∈out) : FindR s a (0,0,4)
 | hit {i k:Nat} {out:List Int} (h:sysB s=true) (hF:FoundAt s a i k) (hC:ChainIs s.Words (s.Caches[i]'hF.hi).Size (s.Caches[i]'hF.hi).Per ((s.Caches[i]'hF.hi).Slabs[k]'hF.hk) out) (hm:a∉out) : FindR s a (i,k,0)
theorem FoundAt.uniq {s:KSystem} {a:Int} {i k i' k':Nat} (h:FoundAt s a i k) (h':FoundAt s a i' k') : i=i'∧k=k':=by
 rcases (show i<i'∨(i=i'∧k<k')∨i'<i∨(i'=i∧k'<k)∨(i=i'∧k=k') by omega) with g|g|g|g|g
 ·have:=h'.ahead i k (.inl g);rw [h.obj] at this;cases this
 ·have:=h'.ahead i k (.inr g);rw [h.obj] at this;cases this
 ·have:=h.ahead i' k' (.inl g);rw [h'.obj] at this;cases this
 ·have:=h.ahead i' k' (.inr g);rw [h'.obj] at this;cases this
 ·exact g
theorem FindR.det {s:KSystem} {a:Int} {u v:Int×Int×Int} (h:FindR s a u) (k:FindR s a v) : u=v:=by
 cases h with
 | bad h=>cases k with
  | bad=>rfl
  | none h'=>rw [h] at h';cases h'
  | free h'=>rw [h] at h';cases h'
  | hit h'=>rw [h] at h';cases h'
 | none h hn=>cases k with
  | bad h'=>rw [h] at h';cases h'
  | none=>rfl
  | free=>rfl
  | hit h' hF=>exact absurd hF.obj (by rw [hn];simp)
 | free h hF hC hm=>cases k with
  | bad h'=>rw [h] at h';cases h'
  | none=>rfl
  | free=>rfl
  | hit h' hF' hC' hm' =>
   obtain ⟨rfl,rfl⟩:=hF.uniq hF'
   rw [hC.det hC'] at hm
   exact absurd hm hm'
 | hit h hF hC hm=>cases k with
  | bad h'=>rw [h] at h';cases h'
  | none h' hn=>exact absurd hF.obj (by rw [hn];simp)
  | free h' hF' hC' hm' =>
   obtain ⟨rfl,rfl⟩:=hF.uniq hF'
   rw [hC.det hC'] at hm
   exact absurd hm' hm
  | hit h' hF' =>
   obtain ⟨rfl,rfl⟩:=hF.uniq hF'
   rfl
theorem ChainOut.hit {lo:Nat} {ws:List Int} {size per:Int} {x:Slab} {v:Value} {w:World} {out:List Int} (h:ChainOut lo ws size per x v w) (hC:ChainIs ws size per x out) :
  ∃ A c,v = .tuple #[.slice A out.length c,.bool true]∧Own w lo 3 1 encI A out.length c out∧out.length≤17592186044416:=by
 rcases h with ⟨out',A5,c5,hC5,rfl,hO5,hl5⟩|⟨hno,_⟩
 ·obtain rfl:=hC.det hC5
  exact ⟨_,_,rfl,hO5,hl5⟩
 ·exact absurd hC (hno out)
def findV (u:Int×Int×Int) : Value := .tuple #[.int .i64 u.1,.int .i64 u.2.1,.int .i64 u.2.2]
set_option maxHeartbeats 4000000 in
theorem Find_ans (r:SRow) (s:KSystem) (a:Int) (w:World) (hr:RdS w r s) (hf:s.fine) (ha : -9223372036854775808≤a∧a≤9223372036854775807) :
  Ans Tryz.prog 23 [.agg (encSys r).toArray,.int .i64 a] w fun v _ => ∃ u,FindR s a u∧v=findV u:=by
 refine ans_of Tryz.func23 rfl Tryz.ntmps23 rfl ?_
 refine CW.seq (CW.region (SW.box rfl rfl fun b2 w1 hw hb2b hb2 => ?_))
 obtain ⟨q,hq⟩ : ∃ q,sysB s=q:=⟨_,rfl⟩
 have c1:∀ w',Ext w w'→Ans Tryz.prog 36 [.agg (encSys r).toArray] w' fun v _=>v = .int .i64 (if q then 0 else 8):=fun w' hx=>by
  have:=Scheck_ans r s w' (hr.ext hx) hf
  rwa [hq] at this
 cases q
 all_goals simp only [if_true,Bool.false_eq_true,if_false] at c1
 ·repeat' (first|(first|refine CW.seq ?_|refine CW.region ?_|refine CW.condn_t rfl (by omega) ?_|refine CW.ret ?_)|(first|refine Post.seq ?_|refine Post.seq_ret ?_)|refine SW.nil ?_|refine SW.pure rfl rfl ?_|(show SW _ _ _ _ (⟨_,Op.load _ _,_,_,_,none⟩::_) _ _;refine SW.st (st_loads rfl rfl ((fun _ _=>hb2.cell))) rfl ?_)|(show SW _ _ _ _ (⟨_,Op.call ⟨.value (.func _),_,_⟩,_,_,_,none⟩::_) _ _;(refine SW.call rfl rfl (c1 _ hw) ?_;intro v w1 hw1 hv;subst hv;replace hw:=Ext.trans hw hw1;replace hb2:=hb2.ext hw1;clear hw1)))
  exact Post.ret3 rfl rfl rfl rfl ⟨_,rfl,hw,(0,0,8),.bad hq,rfl⟩
 ·have hM:=sysB_iff.1 hq
  have hs:=hf.small
  obtain ⟨cs,hc⟩:=hr.caches
  obtain ⟨z1,z2⟩:=hc.len
  have wl:=hr.words.len
  have m1:=hs.words
  have m3:=hs.caches
  repeat' (first|(first|refine CW.seq ?_|refine CW.region ?_|refine CW.block ?_|refine CW.condn_f rfl (by omega) ?_|refine CW.skip ?_)|(refine Post.seq ?_)|refine SW.nil ?_|refine SW.pure rfl rfl ?_|(show SW _ _ _ _ (⟨_,Op.fieldAddr _ _ _,_,_,_,none⟩::_) _ _;refine SW.st (st_field rfl) rfl ?_)|(show SW _ _ _ _ (⟨_,Op.call ⟨.builtin .len,_,_⟩,_,_,_,none⟩::_) _ _;refine SW.st (st_len rfl) rfl ?_)|(show SW _ _ _ _ (⟨_,Op.load _ _,_,_,_,none⟩::_) _ _;first|refine SW.st (st_loads rfl rfl ((fun _ _=>hb2.cell))) rfl ?_|refine SW.st (st_load rfl (hb2.cell rfl)) rfl ?_)|(show SW _ _ _ _ (⟨_,Op.call ⟨.value (.func _),_,_⟩,_,_,_,none⟩::_) _ _;(refine SW.call rfl rfl (c1 _ hw) ?_;intro v w1 hw1 hv;subst hv;replace hw:=Ext.trans hw hw1;replace hb2:=hb2.ext hw1;clear hw1)))
  clear c1
  refine CW.loop (fun k:Nat=>[(1,.int .i64 a),(2,.pointer (some ⟨b2,0,none⟩)),(20,.slice r.Caches.A r.Caches.n r.Caches.c),(21,.int .i64 (r.Caches.n:Int)),(22,.int .i64 (k:Int))])
   (fun k w'=>k≤r.Caches.n∧Ext w w'∧Blk w' b2 30 (encSys r) ∧ ∀ i' k',i'<k→objAt s a i' k'=false) (fun k=>r.Caches.n-k) 0
   ⟨rfl,rfl,rfl,rfl,rfl,trivial⟩ ⟨by omega,hw,hb2,fun i' k' h=>by omega⟩ ?_
  clear hw hb2
  rintro i w' ⟨hk,hw,hb2,hI⟩
  have hA:=hc.row.base
  by_cases hin:i<r.Caches.n
  ·have hic:i<cs.length:=by omega
   have hil:i<s.Caches.length:=by omega
   have hck:=hc.each.get i hic hil
   have sm:=hs.each _ (List.getElem_mem hil)
   have hCM:=(hM.each i hil).may
   obtain ⟨l1,l2,l3⟩:=layoutF_ok hCM.lay
   have eS:=hck.size
   have eP:=hck.per
   have n2:=hck.slabs.len
   have m2:=sm.slabs
   have hS : 1≤cs[i].Size∧cs[i].Size≤64:=by omega
   have hP : 1≤cs[i].Per∧cs[i].Per≤64:=by omega
   repeat' (first|(first|refine CW.seq ?_|refine CW.region ?_|refine CW.block ?_|refine CW.condd_t rfl (by omega) ?_|refine CW.skip ?_)|(refine Post.seq ?_)|refine SW.nil ?_|refine SW.pure rfl rfl ?_|(show SW _ _ _ _ (⟨_,Op.indexAddr _ _ _,_,_,_,none⟩::_) _ _;refine SW.st (st_indexN rfl rfl (by assumption) (by omega)) rfl ?_)|(show SW _ _ _ _ (⟨_,Op.load _ _,_,_,_,none⟩::_) _ _;refine SW.st (st_loadsx hw rfl rfl ((hc.row.all hin))) rfl ?_))
   refine SW.alloc rfl fun b9 w1 hw1 hb9b hb9 => ?_
   repeat' (refine SW.pure rfl rfl ?_)
   refine SW.storeAgg hb9 rfl rfl rfl rfl (one_c _) fun w2 hb9' hg => ?_
   have hXX:=hw1.own hb9b hg
   have hb9w:w.heap.size≤b9:=Nat.le_trans hw.size hb9b
   replace hw:=Ext.trans hw hXX
   replace hb2:=hb2.ext hXX
   replace hb9:=hb9'
   clear hb9' hw1 hg hXX
   repeat' (first|(first|refine CW.seq ?_|refine CW.region ?_|refine CW.block ?_)|(refine Post.seq ?_)|refine SW.nil ?_|refine SW.pure rfl rfl ?_|(show SW _ _ _ _ (⟨_,Op.fieldAddr _ _ _,_,_,_,none⟩::_) _ _;refine SW.st (st_field rfl) rfl ?_)|(show SW _ _ _ _ (⟨_,Op.call ⟨.builtin .len,_,_⟩,_,_,_,none⟩::_) _ _;refine SW.st (st_len rfl) rfl ?_)|(show SW _ _ _ _ (⟨_,Op.load _ _,_,_,_,none⟩::_) _ _;refine SW.st (st_load rfl (hb9.cell rfl)) rfl ?_))
   refine CW.loop (fun k:Nat=>[(1,.int .i64 a),(2,.pointer (some ⟨b2,0,none⟩)),(8,.int .i64 (i:Int)),(9,.pointer (some ⟨b9,0,none⟩)),(20,.slice r.Caches.A r.Caches.n r.Caches.c),(21,.int .i64 (r.Caches.n:Int)),(22,.int .i64 (i:Int)),(28,.slice cs[i].Slabs.A cs[i].Slabs.n cs[i].Slabs.c),(29,.int .i64 (cs[i].Slabs.n:Int)),(30,.int .i64 (k:Int))])
    (fun k w'=>k≤cs[i].Slabs.n∧Ext w w'∧Blk w' b2 30 (encSys r)∧Blk w' b9 44 (encC cs[i]) ∧ ∀ k',k'<k→objAt s a i k'=false) (fun k=>cs[i].Slabs.n-k) 0
    ⟨rfl,rfl,rfl,rfl,rfl,rfl,rfl,rfl,rfl,rfl,trivial⟩ ⟨by omega,hw,hb2,hb9,fun k' h=>by omega⟩ ?_
   clear hw hb2 hb9
   rintro k w' ⟨hk,hw,hb2,hb9,hJ⟩
   have hA1:=hck.slabs.base
   by_cases hkn:k<cs[i].Slabs.n
   ·have hkl:k<s.Caches[i].Slabs.length:=by omega
    obtain ⟨x,hx⟩ : ∃ x,s.Caches[i].Slabs[k]=x:=⟨_,rfl⟩
    have gS:=hck.slabs.all hkn
    rw [hx] at gS
    have ht:=(hCM.ats (hM.heap)) x (by rw [← hx];exact List.getElem_mem hkl)
    obtain ⟨out0,hC⟩:=(hCM.slabs k hkl).chain
    rw [hx] at hC
    have eO:=objAt_eq (a:=a) hil hkl
    rw [hx,← eS,← eP] at eO
    obtain ⟨o,ho⟩ : ∃ o,objB cs[i].Size cs[i].Per x.At a=o:=⟨_,rfl⟩
    rw [ho] at eO
    have cO:∀ w',Ans Tryz.prog 43 [.agg (encC cs[i]).toArray,.int .i64 x.At,.int .i64 a] w' fun v _=>v = .bool o:=fun w'=>by
     have:=object_ans cs[i] x.At a w' hS hP ht ha
     rwa [ho] at this
    repeat' (first|(first|refine CW.seq ?_|refine CW.region ?_|refine CW.block ?_|refine CW.condd_t rfl (by omega) ?_|refine CW.skip ?_)|(refine Post.seq ?_)|refine SW.nil ?_|refine SW.pure rfl rfl ?_|(show SW _ _ _ _ (⟨_,Op.indexAddr _ _ _,_,_,_,none⟩::_) _ _;refine SW.st (st_indexN rfl rfl (by assumption) (by omega)) rfl ?_)|(show SW _ _ _ _ (⟨_,Op.load _ _,_,_,_,none⟩::_) _ _;refine SW.st (st_loadsx hw rfl rfl gS) rfl ?_))
    refine SW.alloc rfl fun b11 w1 hw1 hb11b hb11 => ?_
    repeat' (refine SW.pure rfl rfl ?_)
    refine SW.storeAgg hb11 rfl rfl rfl rfl (Enc.one (enc:=encSb) _) fun w2 hb11' hg => ?_
    have hXX:=hw1.own hb11b hg
    have hb11w:w.heap.size≤b11:=Nat.le_trans hw.size hb11b
    replace hw:=Ext.trans hw hXX
    replace hb2:=hb2.ext hXX
    replace hb9:=hb9.ext hXX
    replace hb11:=hb11'
    clear hb11' hw1 hg hXX
    cases o
    ·repeat' (first|(first|refine CW.seq ?_|refine CW.region ?_|refine CW.condt rfl ?_|refine CW.exit ?_)|(first|refine Post.seq ?_|refine Post.seq_exit ?_|refine Post.hit ?_)|refine SW.nil ?_|refine SW.pure rfl rfl ?_|(show SW _ _ _ _ (⟨_,Op.fieldAddr _ _ _,_,_,_,none⟩::_) _ _;refine SW.st (st_field rfl) rfl ?_)|(show SW _ _ _ _ (⟨_,Op.binOp _ _ _ _ _,_,_,_,none⟩::_) _ _;refine SW.st (st_add rfl rfl (by omega) (by omega)) rfl ?_)|(show SW _ _ _ _ (⟨_,Op.load _ _,_,_,_,none⟩::_) _ _;first|refine SW.st (st_load rfl (hb11.cell rfl)) rfl ?_|refine SW.st (st_loads rfl rfl ((fun _ _=>hb9.cell))) rfl ?_)|(show SW _ _ _ _ (⟨_,Op.call ⟨.value (.func _),_,_⟩,_,_,_,none⟩::_) _ _;(refine SW.call rfl rfl (cO _) ?_;intro v w1 hw1 hv;subst hv;replace hw:=Ext.trans hw hw1;replace hb2:=hb2.ext hw1;replace hb9:=hb9.ext hw1;clear hw1)))
     exact Post.again (k+1) ⟨rfl,rfl,rfl,rfl,rfl,rfl,rfl,rfl,rfl,rfl,trivial⟩ (by omega) ⟨by omega,hw,hb2,hb9,fun k' h=>by
      by_cases e:k'=k
      ·subst e;exact eO
      ·exact hJ k' (by omega)⟩
    ·have hFo:FoundAt s a i k:=⟨hil,hkl,eO,fun i' k' h=>by
      rcases h with h|⟨rfl,h⟩
      ·exact hI i' k' h
      ·exact hJ k' h⟩
     repeat' (first|(first|refine CW.seq ?_|refine CW.region ?_|refine CW.condf rfl ?_|refine CW.skip ?_)|(refine Post.seq ?_)|refine SW.nil ?_|refine SW.pure rfl rfl ?_|(show SW _ _ _ _ (⟨_,Op.fieldAddr _ _ _,_,_,_,none⟩::_) _ _;refine SW.st (st_field rfl) rfl ?_)|(show SW _ _ _ _ (⟨_,Op.load _ _,_,_,_,none⟩::_) _ _;first|refine SW.st (st_load rfl (hb11.cell rfl)) rfl ?_|refine SW.st (st_loads rfl rfl ((fun _ _=>hb9.cell))) rfl ?_|refine SW.st (st_loads rfl rfl ((fun _ _=>hb2.cell))) rfl ?_|refine SW.st (st_loads rfl rfl ((fun _ _=>hb11.cell))) rfl ?_)|(show SW _ _ _ _ (⟨_,Op.call ⟨.value (.func _),_,_⟩,_,_,_,none⟩::_) _ _;(refine SW.call rfl rfl (cO _) ?_;intro v w1 hw1 hv;subst hv;replace hw:=Ext.trans hw hw1;replace hb2:=hb2.ext hw1;replace hb9:=hb9.ext hw1;replace hb11:=hb11.ext hw1;clear hw1)))
     refine SW.call rfl rfl (chain_ans r cs[i] x s.Words _ (hr.words.ext hw) (by omega) hS hP ht) fun v w5 hw5 hv5 => ?_
     rw [eS,eP] at hv5
     rcases hv5 with ⟨out,A5,c5,hC5,rfl,hO5,hl5⟩|⟨hno,rfl⟩
     ·replace hw:=Ext.trans hw hw5
      obtain rfl:=hC.det hC5
      have cN:∀ w',Ext w5 w'→Ans Tryz.prog 45 [.slice A5 out0.length c5,.int .i64 a] w' fun v _=>v = .bool (decide (a∈out0)):=fun w' hx=>ContainsInt_ans _ _ _ _ _ _ (hO5.sl.ext hx) (by omega)
      have h55:=Ext.refl w5
      repeat' (first|(first|refine CW.seq ?_|refine CW.region ?_)|(refine Post.seq ?_)|refine SW.nil ?_|refine SW.pure rfl rfl ?_)
      refine SW.call rfl rfl (cN _ h55) fun v w6 hw6 hv => ?_
      subst hv
      replace hw:=Ext.trans hw hw6
      by_cases hm:a∈out0
      ·rw [decide_eq_true hm]
       repeat' (first|(first|refine CW.seq ?_|refine CW.region ?_|refine CW.condtr rfl (by with_reducible rfl) ?_|refine CW.ret ?_)|(first|refine Post.seq ?_|refine Post.seq_ret ?_|refine Post.blk_ret ?_|refine Post.again_ret ?_)|refine SW.nil ?_|refine SW.pure rfl rfl ?_)
       exact Post.ret3 rfl rfl rfl rfl ⟨_,rfl,hw,(0,0,4),.free hq hFo (by rw [hx];exact hC) hm,rfl⟩
      ·rw [decide_eq_false hm]
       repeat' (first|(first|refine CW.seq ?_|refine CW.region ?_|refine CW.condfr rfl (by with_reducible rfl) ?_|refine CW.skip ?_|refine CW.ret ?_)|(first|refine Post.seq ?_|refine Post.seq_ret ?_|refine Post.blk_ret ?_|refine Post.again_ret ?_)|refine SW.nil ?_|refine SW.pure rfl rfl ?_)
       exact Post.ret3 rfl rfl rfl rfl ⟨_,rfl,hw,(i,k,0),.hit hq hFo (by rw [hx];exact hC) hm,rfl⟩
     ·exact absurd hC (hno out0)
   ·repeat' (first|(first|refine CW.seq ?_|refine CW.region ?_|refine CW.condd_f rfl (by omega) ?_|refine CW.exit ?_)|(first|refine Post.seq ?_|refine Post.seq_exit ?_|refine Post.hit ?_|refine Post.blk ?_|refine Post.again_exit ?_)|refine SW.nil ?_|refine SW.pure rfl rfl ?_|(show SW _ _ _ _ (⟨_,Op.binOp _ _ _ _ _,_,_,_,none⟩::_) _ _;refine SW.st (st_add rfl rfl (by omega) (by omega)) rfl ?_))
    exact Post.again (i+1) ⟨rfl,rfl,rfl,rfl,rfl,trivial⟩ (by omega) ⟨by omega,hw,hb2,fun i' k' h=>by
     by_cases e:i'=i
     ·subst e
      by_cases hk':k'<s.Caches[i'].Slabs.length
      ·exact hJ k' (by omega)
      ·exact objAt_out hil hk'
     ·exact hI i' k' (by omega)⟩
  ·repeat' (first|(first|refine CW.seq ?_|refine CW.region ?_|refine CW.condd_f rfl (by omega) ?_|refine CW.ret ?_|refine CW.exit ?_)|(first|refine Post.seq ?_|refine Post.seq_exit ?_|refine Post.hit ?_|refine Post.again_exit ?_)|refine SW.nil ?_|refine SW.pure rfl rfl ?_)
   exact Post.ret3 rfl rfl rfl rfl ⟨_,rfl,hw,(0,0,4),.none hq (fun i' k'=>by
    by_cases h:i'<s.Caches.length
    ·exact hI i' k' (by omega)
    ·simp [objAt,h]),rfl⟩
set_option maxHeartbeats 4000000 in
theorem FoundOf_ans (r:SRow) (s:KSystem) (a:Int) (w:World) (hr:RdS w r s) (hf:s.fine) :
  Ans Tryz.prog 26 [.agg (encSys r).toArray,.int .i64 a] w fun v _ => ∃ u,FindR s a u∧v=findV u:=by
 refine ans_of Tryz.func26 rfl Tryz.ntmps26 rfl ?_
 refine CW.seq (CW.region (SW.box rfl rfl fun b2 w1 hw hb2b hb2 => ?_))
 obtain ⟨q,hq⟩ : ∃ q,sysB s=q:=⟨_,rfl⟩
 have c1:∀ w',Ext w w'→Ans Tryz.prog 39 [.agg (encSys r).toArray] w' fun v _=>v = .bool q:=fun w' hx=>by
  have:=SMay_ans r s w' (hr.ext hx) hf
  rwa [hq] at this
 cases q
 ·repeat' (first|(first|refine CW.seq ?_|refine CW.region ?_|refine CW.condt rfl ?_|refine CW.ret ?_)|(first|refine Post.seq ?_|refine Post.seq_ret ?_)|refine SW.nil ?_|refine SW.pure rfl rfl ?_|(show SW _ _ _ _ (⟨_,Op.load _ _,_,_,_,none⟩::_) _ _;refine SW.st (st_loads rfl rfl ((fun _ _=>hb2.cell))) rfl ?_)|(show SW _ _ _ _ (⟨_,Op.call ⟨.value (.func _),_,_⟩,_,_,_,none⟩::_) _ _;(refine SW.call rfl rfl (c1 _ hw) ?_;intro v w1 hw1 hv;subst hv;replace hw:=Ext.trans hw hw1;replace hb2:=hb2.ext hw1;clear hw1)))
  exact Post.ret3 rfl rfl rfl rfl ⟨_,rfl,hw,(0,0,8),.bad hq,rfl⟩
 ·have hM:=sysB_iff.1 hq
  have hs:=hf.small
  obtain ⟨cs,hc⟩:=hr.caches
  obtain ⟨z1,z2⟩:=hc.len
  have wl:=hr.words.len
  have m1:=hs.words
  have m3:=hs.caches
  repeat' (first|(first|refine CW.seq ?_|refine CW.region ?_|refine CW.block ?_|refine CW.condf rfl ?_|refine CW.skip ?_)|(refine Post.seq ?_)|refine SW.nil ?_|refine SW.pure rfl rfl ?_|(show SW _ _ _ _ (⟨_,Op.load _ _,_,_,_,none⟩::_) _ _;refine SW.st (st_loads rfl rfl ((fun _ _=>hb2.cell))) rfl ?_)|(show SW _ _ _ _ (⟨_,Op.call ⟨.value (.func _),_,_⟩,_,_,_,none⟩::_) _ _;(refine SW.call rfl rfl (c1 _ hw) ?_;intro v w1 hw1 hv;subst hv;replace hw:=Ext.trans hw hw1;replace hb2:=hb2.ext hw1;clear hw1)))
  clear c1
  refine CW.loop (fun k:Nat=>[(1,.int .i64 a),(2,.pointer (some ⟨b2,0,none⟩)),(7,.int .i64 (k:Int))])
   (fun k w'=>k≤r.Caches.n∧Ext w w'∧Blk w' b2 30 (encSys r) ∧ ∀ i' k',i'<k→objAt s a i' k'=false) (fun k=>r.Caches.n-k) 0
   ⟨rfl,rfl,rfl,trivial⟩ ⟨by omega,hw,hb2,fun i' k' h=>by omega⟩ ?_
  clear hw hb2
  rintro i w' ⟨hk,hw,hb2,hI⟩
  have hA:=hc.row.base
  by_cases hin:i<r.Caches.n
  ·have hic:i<cs.length:=by omega
   have hil:i<s.Caches.length:=by omega
   have hck:=hc.each.get i hic hil
   have sm:=hs.each _ (List.getElem_mem hil)
   have hCM:=(hM.each i hil).may
   obtain ⟨l1,l2,l3⟩:=layoutF_ok hCM.lay
   have eS:=hck.size
   have eP:=hck.per
   have n2:=hck.slabs.len
   have m2:=sm.slabs
   have hS : 1≤cs[i].Size∧cs[i].Size≤64:=by omega
   have hP : 1≤cs[i].Per∧cs[i].Per≤64:=by omega
   have g4:=hc.row.fld hin (j:=4) (u := .slice cs[i].Slabs.A cs[i].Slabs.n cs[i].Slabs.c) rfl
   repeat' (first|(first|refine CW.seq ?_|refine CW.region ?_|refine CW.block ?_|refine CW.condd_t rfl (by omega) ?_|refine CW.skip ?_)|(refine Post.seq ?_)|refine SW.nil ?_|refine SW.pure rfl rfl ?_|(show SW _ _ _ _ (⟨_,Op.fieldAddr _ _ _,_,_,_,none⟩::_) _ _;refine SW.st (st_field rfl) rfl ?_)|(show SW _ _ _ _ (⟨_,Op.call ⟨.builtin .len,_,_⟩,_,_,_,none⟩::_) _ _;refine SW.st (st_len rfl) rfl ?_)|(show SW _ _ _ _ (⟨_,Op.load _ _,_,_,_,none⟩::_) _ _;refine SW.st (st_load rfl (hb2.cell rfl)) rfl ?_))
   refine CW.loop (fun k:Nat=>[(1,.int .i64 a),(2,.pointer (some ⟨b2,0,none⟩)),(7,.int .i64 (i:Int)),(8,.int .i64 (k:Int))])
    (fun k w'=>k≤cs[i].Slabs.n∧Ext w w'∧Blk w' b2 30 (encSys r) ∧ ∀ k',k'<k→objAt s a i k'=false) (fun k=>cs[i].Slabs.n-k) 0
    ⟨rfl,rfl,rfl,rfl,trivial⟩ ⟨by omega,hw,hb2,fun k' h=>by omega⟩ ?_
   clear hw hb2
   rintro k w' ⟨hk,hw,hb2,hJ⟩
   have hA1:=hck.slabs.base
   by_cases hkn:k<cs[i].Slabs.n
   ·have hkl:k<s.Caches[i].Slabs.length:=by omega
    obtain ⟨x,hx⟩ : ∃ x,s.Caches[i].Slabs[k]=x:=⟨_,rfl⟩
    have gS:=hck.slabs.all hkn
    rw [hx] at gS
    have ht:=(hCM.ats (hM.heap)) x (by rw [← hx];exact List.getElem_mem hkl)
    obtain ⟨out0,hC⟩:=(hCM.slabs k hkl).chain
    rw [hx] at hC
    have eO:=objAt_eq (a:=a) hil hkl
    rw [hx,← eS,← eP] at eO
    obtain ⟨o,ho⟩ : ∃ o,objB cs[i].Size cs[i].Per x.At a=o:=⟨_,rfl⟩
    rw [ho] at eO
    have cO:∀ w',Ans Tryz.prog 48 [.agg (encC cs[i]).toArray,.int .i64 x.At,.int .i64 a] w' fun v _=>v = .bool o:=fun w'=>by
     have:=isObject_ans cs[i] x.At a w' hS hP ht
     rwa [ho] at this
    repeat' (first|(first|refine CW.seq ?_|refine CW.region ?_|refine CW.block ?_|refine CW.condd_t rfl (by omega) ?_|refine CW.skip ?_)|(refine Post.seq ?_)|refine SW.nil ?_|refine SW.pure rfl rfl ?_|(show SW _ _ _ _ (⟨_,Op.fieldAddr _ _ _,_,_,_,none⟩::_) _ _;refine SW.st (st_field rfl) rfl ?_)|(show SW _ _ _ _ (⟨_,Op.indexAddr _ _ _,_,_,_,none⟩::_) _ _;refine SW.st (st_indexN rfl rfl (by assumption) (by omega)) rfl ?_)|(show SW _ _ _ _ (⟨_,Op.call ⟨.builtin .len,_,_⟩,_,_,_,none⟩::_) _ _;refine SW.st (st_len rfl) rfl ?_)|(show SW _ _ _ _ (⟨_,Op.load _ _,_,_,_,none⟩::_) _ _;first|refine SW.st (st_load rfl (hb2.cell rfl)) rfl ?_|refine SW.st (st_loadx hw rfl g4) rfl ?_|refine SW.st (st_loadsx hw rfl rfl gS) rfl ?_))
    refine SW.alloc rfl fun b9 w1 hw1 hb9b hb9 => ?_
    skip
    refine SW.storeAgg hb9 rfl rfl rfl rfl (Enc.one (enc:=encSb) _) fun w2 hb9' hg => ?_
    have hXX:=hw1.own hb9b hg
    have hb9w:w.heap.size≤b9:=Nat.le_trans hw.size hb9b
    replace hw:=Ext.trans hw hXX
    replace hb2:=hb2.ext hXX
    replace hb9:=hb9'
    clear hb9' hw1 hg hXX
    cases o
    ·repeat' (first|(first|refine CW.seq ?_|refine CW.region ?_|refine CW.condt rfl ?_|refine CW.exit ?_|(apply CW.quiet1 mixed;(· kernel_rfl);rotate_left;intro w1 hw1;replace hw:=Ext.trans hw hw1;replace hb2:=hb2.ext hw1;replace hb9:=hb9.ext hw1;clear hw1;rotate_right))|(first|refine Post.seq ?_|refine Post.seq_exit ?_|refine Post.hit ?_)|refine SW.nil ?_|refine SW.pure rfl rfl ?_|(show SW _ _ _ _ (⟨_,Op.fieldAddr _ _ _,_,_,_,none⟩::_) _ _;refine SW.st (st_field rfl) rfl ?_)|(show SW _ _ _ _ (⟨_,Op.binOp _ _ _ _ _,_,_,_,none⟩::_) _ _;refine SW.st (st_add rfl rfl (by omega) (by omega)) rfl ?_)|(show SW _ _ _ _ (⟨_,Op.indexAddr _ _ _,_,_,_,none⟩::_) _ _;refine SW.st (st_indexN rfl rfl (by assumption) (by omega)) rfl ?_)|(show SW _ _ _ _ (⟨_,Op.load _ _,_,_,_,none⟩::_) _ _;first|refine SW.st (st_load rfl (hb9.cell rfl)) rfl ?_|refine SW.st (st_load rfl (hb2.cell rfl)) rfl ?_|refine SW.st (st_loadsx hw rfl rfl ((hc.row.all hin))) rfl ?_)|(show SW _ _ _ _ (⟨_,Op.call ⟨.value (.func _),_,_⟩,_,_,_,none⟩::_) _ _;refine SW.qcall rfl rfl (fun w1 hw1=>(cO _)) ?_)|exact SW.qnil rfl)
     exact Post.again (k+1) ⟨rfl,rfl,rfl,rfl,trivial⟩ (by omega) ⟨by omega,hw,hb2,fun k' h=>by
      by_cases e:k'=k
      ·subst e;exact eO
      ·exact hJ k' (by omega)⟩
    ·have hFo:FoundAt s a i k:=⟨hil,hkl,eO,fun i' k' h=>by
      rcases h with h|⟨rfl,h⟩
      ·exact hI i' k' h
      ·exact hJ k' h⟩
     repeat' (first|(refine CW.seq ?_)|(refine Post.seq ?_)|refine SW.nil ?_)
     (apply CW.quiet1 mixed;(· kernel_rfl);rotate_left;intro w1 hw1;replace hw:=Ext.trans hw hw1;replace hb2:=hb2.ext hw1;replace hb9:=hb9.ext hw1;clear hw1;rotate_right)
     repeat' (first|(first|refine CW.seq ?_|refine CW.condf rfl ?_|refine CW.skip ?_)|(refine Post.seq ?_)|refine SW.pure rfl rfl ?_|(show SW _ _ _ _ (⟨_,Op.fieldAddr _ _ _,_,_,_,none⟩::_) _ _;refine SW.st (st_field rfl) rfl ?_)|(show SW _ _ _ _ (⟨_,Op.indexAddr _ _ _,_,_,_,none⟩::_) _ _;refine SW.st (st_indexN rfl rfl (by assumption) (by omega)) rfl ?_)|(show SW _ _ _ _ (⟨_,Op.load _ _,_,_,_,none⟩::_) _ _;first|refine SW.st (st_load rfl (hb9.cell rfl)) rfl ?_|refine SW.st (st_load rfl (hb2.cell rfl)) rfl ?_|refine SW.st (st_loadsx hw rfl rfl ((hc.row.all hin))) rfl ?_)|(show SW _ _ _ _ (⟨_,Op.call ⟨.value (.func _),_,_⟩,_,_,_,none⟩::_) _ _;refine SW.qcall rfl rfl (fun w1 hw1=>(cO _)) ?_)|exact SW.qnil rfl)
     refine CW.any 12 mixed (rb_tail (by kernel_rfl)) rfl fun w1 hw1 hRB => ?_
     replace hw:=Ext.trans hw hw1;replace hb2:=hb2.ext hw1;replace hb9:=hb9.ext hw1;clear hw1
     refine SA.take 0 hRB rfl (by kernel_rfl) (by kernel_rfl) rfl ?_
     repeat ((show SW _ _ _ _ (⟨_,Op.load _ _,_,_,_,none⟩::_) _ _;refine SW.st (st_loads rfl rfl ((fun _ _=>hb2.cell))) rfl ?_))
     refine SW.tknil ?_
     refine SA.take 1 hRB rfl (by kernel_rfl) (by kernel_rfl) rfl ?_
     repeat ((show SW _ _ _ _ (⟨_,Op.fieldAddr _ _ _,_,_,_,none⟩::_) _ _;refine SW.st (st_field rfl) rfl ?_))
     refine SW.tknil ?_
     refine SA.take 2 hRB rfl (by kernel_rfl) (by kernel_rfl) rfl ?_
     repeat ((show SW _ _ _ _ (⟨_,Op.load _ _,_,_,_,none⟩::_) _ _;refine SW.st (st_load rfl (hb2.cell rfl)) rfl ?_))
     refine SW.tknil ?_
     refine SA.take 3 hRB rfl (by kernel_rfl) (by kernel_rfl) rfl ?_
     repeat (refine SW.pure rfl rfl ?_)
     refine SW.tknil ?_
     refine SA.take 4 hRB rfl (by kernel_rfl) (by kernel_rfl) rfl ?_
     repeat ((show SW _ _ _ _ (⟨_,Op.indexAddr _ _ _,_,_,_,none⟩::_) _ _;refine SW.st (st_indexN rfl rfl (by assumption) (by omega)) rfl ?_))
     refine SW.tknil ?_
     refine SA.take 5 hRB rfl (by kernel_rfl) (by kernel_rfl) rfl ?_
     repeat ((show SW _ _ _ _ (⟨_,Op.load _ _,_,_,_,none⟩::_) _ _;refine SW.st (st_loadsx hw rfl rfl ((hc.row.all hin))) rfl ?_))
     refine SW.tknil ?_
     refine SA.take 6 hRB rfl (by kernel_rfl) (by kernel_rfl) rfl ?_
     repeat ((show SW _ _ _ _ (⟨_,Op.load _ _,_,_,_,none⟩::_) _ _;refine SW.st (st_loads rfl rfl ((fun _ _=>hb9.cell))) rfl ?_))
     refine SW.tknil ?_
     refine SA.one 7 rfl (by kernel_rfl) rfl ?_
     refine SW.call rfl rfl (freeIn_ans r cs[i] x s.Words _ (hr.words.ext hw) (by omega) hS hP ht) fun v w5 hXX hv5 => ?_
     replace hw:=Ext.trans hw hXX
     rw [eS,eP] at hv5
     have hv6:=ChainOut.hit hv5 hC
     obtain ⟨A5,c5,rfl,hO5,hl5⟩:=hv6
     refine SW.nil (Post.sa hXX ?_)
     refine SA.take 8 hRB rfl (by kernel_rfl) (by kernel_rfl) rfl ?_
     repeat (refine SW.pure rfl rfl ?_)
     refine SW.tknil ?_
     refine SA.take 9 hRB rfl (by kernel_rfl) (by kernel_rfl) rfl ?_
     repeat (refine SW.pure rfl rfl ?_)
     refine SW.tknil ?_
     refine SA.take 10 hRB rfl (by kernel_rfl) (by kernel_rfl) rfl ?_
     repeat (refine SW.pure rfl rfl ?_)
     refine SW.tknil ?_
     refine SA.take 11 hRB rfl (by kernel_rfl) (by kernel_rfl) rfl ?_
     repeat (refine SW.pure rfl rfl ?_)
     refine SW.tknil ?_
     refine SA.done (by kernel_rfl) ?_
     repeat' (first|(first|refine CW.seq ?_|refine CW.region ?_|refine CW.block ?_)|(first|refine Post.seq ?_|refine Post.np ?_)|refine SW.nil ?_|refine SW.pure rfl rfl ?_)
     refine CW.loop (fun j:Nat=>[(1,.int .i64 a),(7,.int .i64 (i:Int)),(8,.int .i64 (k:Int)),(10,.slice A5 out0.length c5),(12,.int .i64 (j:Int))])
      (fun j w'=>j≤out0.length∧Ext w w'∧(∃ lo,Own w' lo 3 1 encI A5 out0.length c5 out0) ∧ ∀ (m:Nat) (h:m<out0.length),m<j→out0[m]≠a) (fun j=>out0.length-j) 0
      ⟨rfl,rfl,rfl,rfl,rfl,trivial⟩ ⟨by omega,hw,⟨_,hO5⟩,fun m h h'=>by omega⟩ ?_
     clear hw hO5
     rintro j w' ⟨hj,hw,⟨lo,hO5⟩,hM5⟩
     have hA5:=hO5.sl.base
     by_cases hjn:j<out0.length
     ·have gM:=hO5.sl.one hjn (u := .int .i64 out0[j]) rfl
      by_cases hxa:out0[j]=a
      ·repeat' (first|(first|refine CW.seq ?_|refine CW.region ?_|refine CW.block ?_|refine CW.condd_t rfl (by omega) ?_|refine CW.skip ?_|refine CW.ret ?_)|(first|refine Post.seq ?_|refine Post.seq_ret ?_|refine Post.blk_ret ?_|refine Post.again_ret ?_)|refine SW.nil ?_|refine SW.pure rfl rfl ?_|(show SW _ _ _ _ (⟨_,Op.indexAddr _ _ _,_,_,_,none⟩::_) _ _;refine SW.st (st_indexN rfl rfl (by assumption) (by omega)) rfl ?_)|(show SW _ _ _ _ (⟨_,Op.call ⟨.builtin .len,_,_⟩,_,_,_,none⟩::_) _ _;refine SW.st (st_len rfl) rfl ?_)|(show SW _ _ _ _ (⟨_,Op.load _ _,_,_,_,none⟩::_) _ _;refine SW.st (st_load rfl gM) rfl ?_))
       all_goals first|(exfalso;omega)|skip
       exact Post.ret3 rfl rfl rfl rfl ⟨_,rfl,hw,(0,0,4),.free hq hFo (by rw [hx];exact hC) (hxa ▸ List.getElem_mem hjn),rfl⟩
      ·repeat' (first|(first|refine CW.seq ?_|refine CW.region ?_|refine CW.block ?_|refine CW.condd_t rfl (by omega) ?_|refine CW.condd_f rfl (by omega) ?_|refine CW.skip ?_)|(first|refine Post.seq ?_|refine Post.blk ?_)|refine SW.nil ?_|refine SW.pure rfl rfl ?_|(show SW _ _ _ _ (⟨_,Op.binOp _ _ _ _ _,_,_,_,none⟩::_) _ _;refine SW.st (st_add rfl rfl (by omega) (by omega)) rfl ?_)|(show SW _ _ _ _ (⟨_,Op.indexAddr _ _ _,_,_,_,none⟩::_) _ _;refine SW.st (st_indexN rfl rfl (by assumption) (by omega)) rfl ?_)|(show SW _ _ _ _ (⟨_,Op.call ⟨.builtin .len,_,_⟩,_,_,_,none⟩::_) _ _;refine SW.st (st_len rfl) rfl ?_)|(show SW _ _ _ _ (⟨_,Op.load _ _,_,_,_,none⟩::_) _ _;refine SW.st (st_load rfl gM) rfl ?_))
       all_goals first|(exfalso;omega)|skip
       exact Post.again (j+1) ⟨rfl,rfl,rfl,rfl,rfl,trivial⟩ (by omega) ⟨by omega,hw,⟨lo,hO5⟩,fun m h h'=>by
        by_cases em:m=j
        ·subst em;exact hxa
        ·exact hM5 m h (by omega)⟩
     ·repeat' (first|(first|refine CW.seq ?_|refine CW.region ?_|refine CW.condd_f rfl (by omega) ?_|refine CW.ret ?_|refine CW.exit ?_)|(first|refine Post.seq ?_|refine Post.seq_ret ?_|refine Post.seq_exit ?_|refine Post.hit ?_|refine Post.blk_ret ?_|refine Post.again_exit ?_|refine Post.again_ret ?_)|refine SW.nil ?_|refine SW.pure rfl rfl ?_|(show SW _ _ _ _ (⟨_,Op.call ⟨.builtin .len,_,_⟩,_,_,_,none⟩::_) _ _;refine SW.st (st_len rfl) rfl ?_))
      exact Post.ret3 rfl rfl rfl rfl ⟨_,rfl,hw,(i,k,0),.hit hq hFo (by rw [hx];exact hC) (fun hm=>by
       obtain ⟨m,hm1,hm2⟩:=List.getElem_of_mem hm
       exact hM5 m hm1 (by omega) hm2),rfl⟩
   ·repeat' (first|(first|refine CW.seq ?_|refine CW.region ?_|refine CW.condd_f rfl (by omega) ?_|refine CW.exit ?_)|(first|refine Post.seq ?_|refine Post.seq_exit ?_|refine Post.hit ?_|refine Post.blk ?_|refine Post.again_exit ?_)|refine SW.nil ?_|refine SW.pure rfl rfl ?_|(show SW _ _ _ _ (⟨_,Op.fieldAddr _ _ _,_,_,_,none⟩::_) _ _;refine SW.st (st_field rfl) rfl ?_)|(show SW _ _ _ _ (⟨_,Op.binOp _ _ _ _ _,_,_,_,none⟩::_) _ _;refine SW.st (st_add rfl rfl (by omega) (by omega)) rfl ?_)|(show SW _ _ _ _ (⟨_,Op.indexAddr _ _ _,_,_,_,none⟩::_) _ _;refine SW.st (st_indexN rfl rfl (by assumption) (by omega)) rfl ?_)|(show SW _ _ _ _ (⟨_,Op.call ⟨.builtin .len,_,_⟩,_,_,_,none⟩::_) _ _;refine SW.st (st_len rfl) rfl ?_)|(show SW _ _ _ _ (⟨_,Op.load _ _,_,_,_,none⟩::_) _ _;first|refine SW.st (st_load rfl (hb2.cell rfl)) rfl ?_|refine SW.st (st_loadx hw rfl g4) rfl ?_))
    exact Post.again (i+1) ⟨rfl,rfl,rfl,trivial⟩ (by omega) ⟨by omega,hw,hb2,fun i' k' h=>by
     by_cases e:i'=i
     ·subst e
      by_cases hk':k'<s.Caches[i'].Slabs.length
      ·exact hJ k' (by omega)
      ·exact objAt_out hil hk'
     ·exact hI i' k' (by omega)⟩
  ·repeat' (first|(first|refine CW.seq ?_|refine CW.region ?_|refine CW.condd_f rfl (by omega) ?_|refine CW.ret ?_|refine CW.exit ?_)|(first|refine Post.seq ?_|refine Post.seq_exit ?_|refine Post.hit ?_|refine Post.again_exit ?_)|refine SW.nil ?_|refine SW.pure rfl rfl ?_|(show SW _ _ _ _ (⟨_,Op.fieldAddr _ _ _,_,_,_,none⟩::_) _ _;refine SW.st (st_field rfl) rfl ?_)|(show SW _ _ _ _ (⟨_,Op.call ⟨.builtin .len,_,_⟩,_,_,_,none⟩::_) _ _;refine SW.st (st_len rfl) rfl ?_)|(show SW _ _ _ _ (⟨_,Op.load _ _,_,_,_,none⟩::_) _ _;refine SW.st (st_load rfl (hb2.cell rfl)) rfl ?_))
   exact Post.ret3 rfl rfl rfl rfl ⟨_,rfl,hw,(0,0,4),.none hq (fun i' k'=>by
    by_cases h:i'<s.Caches.length
    ·exact hI i' k' (by omega)
    ·simp [objAt,h]),rfl⟩
open Go.RowKit
theorem Follows.lenLe {l:List Int} {most x:Int} {acc:List Int} {r:Option (List Int)} (h:Follows l most x acc r) : (acc.length:Int)≤most → ∀ out,r=some out→(out.length:Int)≤most:=by
 induction h with
 | done out=>intro ha o e;cases e;exact ha
 | bad=>intro _ _ e;cases e
 | @step k out r h1 hk h3 h ih =>
  intro ha o e
  exact ih (by rw [List.length_append];simp;omega) o e
theorem layoutF_prod {x o n:Int} (h:layoutF x=(o,n,0)) : (o=0∧n*x≤16)∨(o=1∧n*x≤32)∨(o=2∧n*x≤64):=by
 unfold layoutF at h
 split at h
 ·rename_i hx
  have k1:=Int.ediv_mul_le 16 (show x≠0 by omega)
  have k2:=Int.ediv_mul_le 32 (show x≠0 by omega)
  have k3:=Int.ediv_mul_le 64 (show x≠0 by omega)
  split at h
  ·simp only [Prod.mk.injEq] at h
   obtain ⟨rfl,rfl,_⟩:=h
   exact .inl ⟨rfl,k1⟩
  ·split at h
   ·simp only [Prod.mk.injEq] at h
    obtain ⟨rfl,rfl,_⟩:=h
    exact .inr (.inl ⟨rfl,k2⟩)
   ·simp only [Prod.mk.injEq] at h
    obtain ⟨rfl,rfl,_⟩:=h
    exact .inr (.inr ⟨rfl,k3⟩)
 ·simp only [Prod.mk.injEq] at h
  omega
theorem hit_at {s:KSystem} {a:Int} {i k:Nat} (hM:SystemMay s) (hF:FoundAt s a i k) : 0≤a∧a<4096:=by
 have hc:=(hM.each i hF.hi).may
 have hs:=hc.slabs k hF.hk
 have hl:=layoutF_prod hc.lay
 have ho:=hF.obj
 rw [objAt_eq hF.hi hF.hk] at ho
 unfold objB at ho
 simp only [Bool.and_eq_true,decide_eq_true_eq] at ho
 have hlive:=hs.live
 cases hf:foundA s.Heap.Live ((s.Caches[i]'hF.hi).Slabs[k]'hF.hk).At with
 | false =>
  rw [ordA_f hf] at hlive
  omega
 | true =>
  obtain ⟨hk,e⟩:=found_at hf
  rw [ordA_t hf hk] at hlive
  obtain ⟨_,h2,h3,_⟩:=hM.heap.live.each _ hk
  rw [hlive] at h3
  rw [e] at h2 h3
  obtain ⟨p,hp⟩ : ∃ p,(s.Caches[i]'hF.hi).Per*(s.Caches[i]'hF.hi).Size=p:=⟨_,rfl⟩
  rw [hp] at hl ho
  rcases hl with ⟨h,_⟩|⟨h,_⟩|⟨h,_⟩<;>(rw [h] at h3;simp [pw] at h3;omega)
def idleB (c:KCache) (x:Slab) : Bool:=decide (x.Free=c.Per) && !decide (x.At∈c.Active)
def putC (c:KCache) (k:Nat) (x:Slab) (a:Int) : KCache:=⟨c.Names,c.Size,c.Per,c.Order,c.Slabs.set k ⟨x.At,x.Free+1,a⟩,c.Active⟩
theorem COk.put {c:KCache} (h:COk c) {k:Nat} (hk:k<c.Slabs.length) (a:Int) : COk (putC c k c.Slabs[k] a):=by
 refine ⟨⟨h.small.names,by simp only [putC,List.length_set];exact h.small.slabs,h.small.active⟩,fun y hy => ?_⟩
 rcases List.mem_or_eq_of_mem_set hy with hy|rfl
 ·exact h.at_ y hy
 ·exact h.at_ c.Slabs[k] (List.getElem_mem hk)
def putW (s:KSystem) (x:Slab) (a:Int) : KSystem:=⟨s.Words.set a.toNat x.First,s.Heap,s.Caches⟩
noncomputable def putP (s:KSystem) (c:KCache) (k:Nat) (x:Slab) (cpu a:Int) : Heap×KCache :=
 if idleB (putC c k x a) ⟨x.At,x.Free+1,a⟩ && decide (1<(putC c k x a).Slabs.countP (idleB (putC c k x a))) then ((freeV s.Heap cpu x.At).2,cutSlab (putC c k x a) k) else (s.Heap,putC c k x a)
inductive PutR (s:KSystem) (n:ByteArray) (cpu a:Int) : KSystem×Int→Prop where
 | ask (h:askV s n cpu≠0) : PutR s n cpu a (.zero,askV s n cpu)
 | none {u:Int×Int×Int} (h:askV s n cpu=0) (hF:FindR s a u) (hne : ¬ (u.2.2=0∧u.1=idxOf (hasN n) s.Caches)) : PutR s n cpu a (.zero,4)
 | put {i k:Nat} (h:askV s n cpu=0) (hF:FindR s a (i,k,0)) (e:idxOf (hasN n) s.Caches=i) (hi:i<s.Caches.length) (hk:k<s.Caches[i].Slabs.length) : PutR s n cpu a (sysAt (putW s s.Caches[i].Slabs[k] a) i (putP s s.Caches[i] k s.Caches[i].Slabs[k] cpu a),0)
theorem PutR.det {s:KSystem} {n:ByteArray} {cpu a:Int} {u v:KSystem×Int} (x:PutR s n cpu a u) (y:PutR s n cpu a v) : u=v:=by
 cases x with
 | ask h=>cases y with
  | ask=>rfl
  | none h'=>exact absurd h' h
  | put h'=>exact absurd h' h
 | none h hF hne=>cases y with
  | ask h'=>exact absurd h h'
  | none=>rfl
  | put h' hF' e'=>exact absurd (by rw [hF.det hF'];exact ⟨rfl,e'.symm⟩) hne
 | put h hF e hi hk=>cases y with
  | ask h'=>exact absurd h h'
  | none h' hF' hne'=>exact absurd (by rw [hF'.det hF];exact ⟨rfl,e.symm⟩) hne'
  | put h' hF' e' =>
   have:=hF.det hF'
   simp only [Prod.mk.injEq] at this
   obtain ⟨h1,h2,_⟩:=this
   have h1:=Int.ofNat.inj h1
   have h2:=Int.ofNat.inj h2
   subst h1
   subst h2
   rfl
theorem HOk.putP {s:KSystem} (h:HOk s.Heap) {c:KCache} (hc:COk c) {k:Nat} (hk:k<c.Slabs.length) (cpu a:Int) : HOk (putP s c k c.Slabs[k] cpu a).1∧COk (putP s c k c.Slabs[k] cpu a).2:=by
 unfold Go.Proofs.YtigikedbffjeiaaGreat.putP
 split
 ·exact ⟨h.free _ _,(hc.put hk a).cut _⟩
 ·exact ⟨h,hc.put hk a⟩
theorem PutR.small {s:KSystem} {n:ByteArray} {cpu a:Int} {u:KSystem×Int} (x:PutR s n cpu a u) (hf:s.fine) : u.1.small:=by
 cases x with
 | ask|none=>exact KSystem.zero_small
 | @put i k h hF e hi hk =>
  have h1:=hf.hok.putP (hf.cok hi) hk cpu a
  have hw:(putW s s.Caches[i].Slabs[k] a).small:=⟨by simp only [putW,List.length_set];exact hf.small.words,hf.small.heap,hf.small.caches,hf.small.each⟩
  exact small_sysAt hw _ h1.1 h1.2
theorem FindR.hitAt {s:KSystem} {a:Int} {i k:Int} (h:FindR s a (i,k,0)) : ∃ (i' k':Nat),i=i'∧k=k'∧sysB s=true ∧ ∃ hF:FoundAt s a i' k',0≤((s.Caches[i']'hF.hi).Slabs[k']'hF.hk).Free∧((s.Caches[i']'hF.hi).Slabs[k']'hF.hk).Free≤64:=by
 cases h with
 | @hit i' k' out h hF hC hm =>
  refine ⟨i',k',rfl,rfl,h,hF,?_⟩
  have hc:=((sysB_iff.1 h).each i' hF.hi).may
  have h1:=layoutF_ok hc.lay
  have h2:=hC.1.lenLe (by simp;omega) out rfl
  have h3:=hC.2.1
  omega
end Go.Proofs.YtigikedbffjeiaaGreat
