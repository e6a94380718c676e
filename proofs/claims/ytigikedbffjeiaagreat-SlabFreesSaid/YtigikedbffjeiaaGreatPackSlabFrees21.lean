/-
  Texts of the claim SlabFrees, part 21: what its theorem leans on.
-/
import Derived.Test.YtigikedbffjeiaaGreatPackSlabFrees19
import Derived.Test.YtigikedbffjeiaaGreatPackSlabFrees18
import Derived.Test.YtigikedbffjeiaaGreatPackSlabFrees20
import Derived.Test.YtigikedbffjeiaaGreatPackSlabFrees4
import Derived.Test.YtigikedbffjeiaaGreatPackSlabFrees13
import Derived.Test.YtigikedbffjeiaaGreatPackSlabFrees12
import Derived.Test.YtigikedbffjeiaaGreatPackSlabFrees8
set_option linter.unusedVariables false
set_option linter.unusedSimpArgs false
namespace Go.Proofs.YtigikedbffjeiaaGreat
open Go.RowKit
set_option maxHeartbeats 8000000 in
theorem SMay_ans (r:SRow) (s:KSystem) (w:World) (hr:RdS w r s) (hf:s.fine) :
    Ans Tryz.prog 39 [.agg (encSys r).toArray] w fun v _=>v = .bool (sysB s):=by
  refine ans_of Tryz.func39 rfl Tryz.ntmps39 rfl ?_
  refine CW.seq (CW.region (SW.box rfl rfl fun b1 w1 hw hb1b hb1 => ?_))
  obtain ⟨cs,hc⟩:=hr.caches
  obtain ⟨z1,z2⟩:=hc.len
  have wl:=hr.words.len
  have hs:=hf.small
  have m3:=hs.caches
  obtain ⟨q,hq⟩ : ∃ q,heapB s.Heap=q:=⟨_,rfl⟩
  have c1:∀ w',Ext w w'→Ans Tryz.prog 66 [.agg (encH r.Heap).toArray] w' fun v _=>v = .bool q:=fun w' hx=>by
    have:=HMay_ans r.Heap s.Heap w' (hr.heap.ext hx) hs.heap hf.zones
    rwa [hq] at this
  by_cases hgood:s.Words.length=4096∧q=true∧s.Caches.length≤20
  · obtain ⟨g1,g2,g3⟩:=hgood
    subst g2
    have hH:=heapB_iff.1 hq
    repeat' (first|(first|refine CW.seq ?_|refine CW.region ?_|refine CW.block ?_|refine CW.condd_f rfl (by omega) ?_|refine CW.skip ?_)|(refine Post.seq ?_)|refine SW.nil ?_|(show SW _ _ _ _ (⟨_,_,_,_,_,some _⟩::_) _ _;first|refine SW.want_f rfl rfl (by with_reducible rfl) ?_|refine SW.splitn_f rfl rfl rfl (by omega) ?_|refine SW.want rfl rfl ?_)|refine SW.pure rfl rfl ?_|(show SW _ _ _ _ (⟨_,Op.fieldAddr _ _ _,_,_,_,none⟩::_) _ _;refine SW.st (st_field rfl) rfl ?_)|(show SW _ _ _ _ (⟨_,Op.call ⟨.builtin .len,_,_⟩,_,_,_,none⟩::_) _ _;refine SW.st (st_len rfl) rfl ?_)|(show SW _ _ _ _ (⟨_,Op.load _ _,_,_,_,none⟩::_) _ _;first|refine SW.st (st_load rfl (hb1.cell rfl)) rfl ?_|refine SW.st (st_loads rfl rfl ((heapIn hb1))) rfl ?_)|(show SW _ _ _ _ (⟨_,Op.call ⟨.value (.func _),_,_⟩,_,_,_,none⟩::_) _ _;(refine SW.call rfl rfl (c1 _ hw) ?_;intro v w1 hw1 hv;subst hv;replace hw:=Ext.trans hw hw1;replace hb1:=hb1.ext hw1;clear hw1)))
    all_goals first|(exfalso;omega)|skip
    clear c1
    refine CW.loop (fun u:Nat×Option Addr×Nat×Option Addr×Nat=>[(1,.pointer (some ⟨b1,0,none⟩)),(3,.slice u.2.1 (namesAhead (s.Caches.take u.1)).length u.2.2.1),(4,.slice u.2.2.2.1 (slabsAhead (s.Caches.take u.1)).length u.2.2.2.2),(5,.int .i64 (u.1:Int))])
      (fun u w'=>u.1≤r.Caches.n∧Ext w w'∧Blk w' b1 30 (encSys r)∧Own w' w.heap.size 9 1 encStr u.2.1 (namesAhead (s.Caches.take u.1)).length u.2.2.1 (namesAhead (s.Caches.take u.1))∧Own w' w.heap.size 3 1 encI u.2.2.2.1 (slabsAhead (s.Caches.take u.1)).length u.2.2.2.2 (slabsAhead (s.Caches.take u.1)) ∧
        ∀ (i:Nat) (h:i<s.Caches.length),i<u.1→CacheIn s i h) (fun u=>r.Caches.n-u.1) (0,none,0,none,0)
      ⟨rfl,by simp [namesAhead];rfl,by simp [slabsAhead];rfl,rfl,trivial⟩ ⟨by simp only;omega,hw,hb1,Own.nil_ _ _ _ _ _ _,Own.nil_ _ _ _ _ _ _,fun i h h'=>by simp only at h';omega⟩ ?_
    clear hw hb1
    rintro ⟨k,A1,c1,A2,c2⟩ w' ⟨hk,hw,hb1,hN,hS,hI⟩
    simp only at hk hN hS hI ⊢
    have hA:=hc.row.base
    by_cases hkn:k<r.Caches.n
    · have hkc:k<cs.length:=by omega
      have hkl:k<s.Caches.length:=by omega
      have hck:=hc.each.get k hkc hkl
      have sm:=hs.each _ (List.getElem_mem hkl)
      have fN:=hf.names _ (List.getElem_mem hkl)
      have q1:=hck.names.len
      have q2:=hck.slabs.len
      have q4:=sm.names
      have q5:=sm.slabs
      obtain ⟨⟨ok1,ok2⟩,ok3,ok4⟩:=ahead_ok hH k (by omega) hI
      repeat' (first|(first|refine CW.seq ?_|refine CW.region ?_|refine CW.block ?_|refine CW.condd_t rfl (by omega) ?_|refine CW.skip ?_)|(refine Post.seq ?_)|refine SW.nil ?_|refine SW.pure rfl rfl ?_|(show SW _ _ _ _ (⟨_,Op.fieldAddr _ _ _,_,_,_,none⟩::_) _ _;refine SW.st (st_field rfl) rfl ?_)|(show SW _ _ _ _ (⟨_,Op.indexAddr _ _ _,_,_,_,none⟩::_) _ _;refine SW.st (st_indexN rfl rfl (by assumption) (by omega)) rfl ?_)|(show SW _ _ _ _ (⟨_,Op.call ⟨.builtin .len,_,_⟩,_,_,_,none⟩::_) _ _;refine SW.st (st_len rfl) rfl ?_)|(show SW _ _ _ _ (⟨_,Op.load _ _,_,_,_,none⟩::_) _ _;first|refine SW.st (st_load rfl (hb1.cell rfl)) rfl ?_|refine SW.st (st_loadsx hw rfl rfl ((hc.row.all hkn))) rfl ?_))
      refine SW.alloc rfl fun b6 w1 hw1 hb6b hb6 => ?_
      skip
      refine SW.storeAgg hb6 rfl rfl rfl rfl (one_c _) fun w2 hb6' hg => ?_
      have hXX:=hw1.own hb6b hg
      have hb6w:w.heap.size≤b6:=Nat.le_trans hw.size hb6b
      replace hw:=Ext.trans hw hXX
      replace hb1:=hb1.ext hXX
      replace hN:=hN.ext hXX
      replace hS:=hS.ext hXX
      replace hb6:=hb6'
      clear hb6' hw1 hg hXX
      obtain ⟨qc,hqc⟩ : ∃ qc,cacheB s s.Caches[k]=qc:=⟨_,rfl⟩
      have cC:∀ w',Ext w w'→Ans Tryz.prog 67 [.agg (encSys r).toArray,.agg (encC cs[k]).toArray] w' fun v _=>v = .bool qc:=fun w' hx=>by
        have:=CacheMay_ans r s cs[k] s.Caches[k] w' (hr.ext hx) (hck.ext hx) hs sm hH
        rwa [hqc] at this
      cases qc
      · have hF:sysB s=false:=sysB_f fun hm=>by
          have:=cacheB_t (hm.each k hkl).may
          rw [hqc] at this
          cases this
        rw [hF]
        repeat' (first|(first|refine CW.seq ?_|refine CW.region ?_|refine CW.condt rfl ?_|refine CW.ret ?_)|(first|refine Post.seq ?_|refine Post.seq_ret ?_|refine Post.blk_ret ?_|refine Post.again_ret ?_)|refine SW.nil ?_|refine SW.pure rfl rfl ?_|(show SW _ _ _ _ (⟨_,Op.load _ _,_,_,_,none⟩::_) _ _;first|refine SW.st (st_loads rfl rfl ((fun _ _=>hb1.cell))) rfl ?_|refine SW.st (st_loads rfl rfl ((fun _ _=>hb6.cell))) rfl ?_)|(show SW _ _ _ _ (⟨_,Op.call ⟨.value (.func _),_,_⟩,_,_,_,none⟩::_) _ _;(refine SW.call rfl rfl (cC _ hw) ?_;intro v w1 hw1 hv;subst hv;replace hw:=Ext.trans hw hw1;replace hb1:=hb1.ext hw1;replace hb6:=hb6.ext hw1;replace hN:=hN.ext hw1;replace hS:=hS.ext hw1;clear hw1)))
        exact Post.ret1 rfl rfl ⟨_,rfl,hw,rfl⟩
      · have hCM:=cacheB_iff.1 hqc
        repeat' (first|(first|refine CW.seq ?_|refine CW.region ?_|refine CW.block ?_|refine CW.condf rfl ?_|refine CW.skip ?_)|(refine Post.seq ?_)|refine SW.nil ?_|refine SW.pure rfl rfl ?_|(show SW _ _ _ _ (⟨_,Op.load _ _,_,_,_,none⟩::_) _ _;first|refine SW.st (st_loads rfl rfl ((fun _ _=>hb1.cell))) rfl ?_|refine SW.st (st_loads rfl rfl ((fun _ _=>hb6.cell))) rfl ?_)|(show SW _ _ _ _ (⟨_,Op.call ⟨.value (.func _),_,_⟩,_,_,_,none⟩::_) _ _;(refine SW.call rfl rfl (cC _ hw) ?_;intro v w1 hw1 hv;subst hv;replace hw:=Ext.trans hw hw1;replace hb1:=hb1.ext hw1;replace hb6:=hb6.ext hw1;replace hN:=hN.ext hw1;replace hS:=hS.ext hw1;clear hw1)))
        clear cC
        obtain ⟨acc,hacc⟩ : ∃ acc,namesAhead (s.Caches.take k)=acc:=⟨_,rfl⟩
        rw [hacc] at hN ok1 ok2 ⊢
        obtain ⟨sac,hsac⟩ : ∃ sac,slabsAhead (s.Caches.take k)=sac:=⟨_,rfl⟩
        rw [hsac] at hS ok3 ok4 ⊢
        refine CW.loop (fun j:Nat=>[(1,.pointer (some ⟨b1,0,none⟩)),(3,.slice A1 acc.length c1),(4,.slice A2 sac.length c2),(5,.int .i64 (k:Int)),(6,.pointer (some ⟨b6,0,none⟩)),(7,.int .i64 (j:Int))])
          (fun j w'=>j≤k∧Ext w w'∧Blk w' b1 30 (encSys r)∧Blk w' b6 44 (encC cs[k])∧Own w' w.heap.size 9 1 encStr A1 acc.length c1 acc∧Own w' w.heap.size 3 1 encI A2 sac.length c2 sac ∧ ∀ (i:Nat) (h:i<k),i<j→(s.Caches[i]'(by omega)).Size≠s.Caches[k].Size) (fun j=>k-j) 0
          ⟨rfl,rfl,rfl,rfl,rfl,rfl,trivial⟩ ⟨by omega,hw,hb1,hb6,hN,hS,fun i h h'=>by omega⟩ ?_
        clear hw hb1 hN hS hb6
        rintro j w' ⟨hj,hw,hb1,hb6,hN,hS,hZ⟩
        by_cases hjk:j<k
        · have gZ:=hc.row.fld (show j<r.Caches.n by omega) (j:=1) (u := .int .i64 (cs[j]'(by omega)).Size) rfl
          have e1:=(hc.each.get j (by omega) (by omega)).size
          have e2:=hck.size
          by_cases hx:(s.Caches[j]'(by omega)).Size=s.Caches[k].Size
          · rw [sysB_f fun hm=>(hm.each k hkl).size j hjk hx]
            repeat' (first|(first|refine CW.seq ?_|refine CW.region ?_|refine CW.block ?_|refine CW.condd_t rfl (by omega) ?_|refine CW.skip ?_|refine CW.ret ?_|(apply CW.quiet1 mixed;(· kernel_rfl);rotate_left;intro w1 hw1;replace hw:=Ext.trans hw hw1;replace hb1:=hb1.ext hw1;replace hb6:=hb6.ext hw1;replace hN:=hN.ext hw1;replace hS:=hS.ext hw1;clear hw1;rotate_right))|(first|refine Post.seq ?_|refine Post.seq_ret ?_|refine Post.blk_ret ?_|refine Post.again_ret ?_)|refine SW.nil ?_|refine SW.pure rfl rfl ?_|(show SW _ _ _ _ (⟨_,Op.fieldAddr _ _ _,_,_,_,none⟩::_) _ _;refine SW.st (st_field rfl) rfl ?_)|(show SW _ _ _ _ (⟨_,Op.indexAddr _ _ _,_,_,_,none⟩::_) _ _;refine SW.st (st_indexN rfl rfl (by assumption) (by omega)) rfl ?_)|(show SW _ _ _ _ (⟨_,Op.load _ _,_,_,_,none⟩::_) _ _;first|refine SW.st (st_load rfl (hb1.cell rfl)) rfl ?_|refine SW.st (st_load rfl (hb6.cell rfl)) rfl ?_|refine SW.st (st_loadx hw rfl gZ) rfl ?_)|exact SW.qnil rfl)
            all_goals first|(exfalso;omega)|skip
            exact Post.ret1 rfl rfl ⟨_,rfl,hw,rfl⟩
          · repeat' (first|(first|refine CW.seq ?_|refine CW.region ?_|refine CW.block ?_|refine CW.condd_t rfl (by omega) ?_|refine CW.condd_f rfl (by omega) ?_|refine CW.skip ?_|(apply CW.quiet1 mixed;(· kernel_rfl);rotate_left;intro w1 hw1;replace hw:=Ext.trans hw hw1;replace hb1:=hb1.ext hw1;replace hb6:=hb6.ext hw1;replace hN:=hN.ext hw1;replace hS:=hS.ext hw1;clear hw1;rotate_right))|(first|refine Post.seq ?_|refine Post.blk ?_)|refine SW.nil ?_|refine SW.pure rfl rfl ?_|(show SW _ _ _ _ (⟨_,Op.fieldAddr _ _ _,_,_,_,none⟩::_) _ _;refine SW.st (st_field rfl) rfl ?_)|(show SW _ _ _ _ (⟨_,Op.binOp _ _ _ _ _,_,_,_,none⟩::_) _ _;refine SW.st (st_add rfl rfl (by omega) (by omega)) rfl ?_)|(show SW _ _ _ _ (⟨_,Op.indexAddr _ _ _,_,_,_,none⟩::_) _ _;refine SW.st (st_indexN rfl rfl (by assumption) (by omega)) rfl ?_)|(show SW _ _ _ _ (⟨_,Op.load _ _,_,_,_,none⟩::_) _ _;first|refine SW.st (st_load rfl (hb1.cell rfl)) rfl ?_|refine SW.st (st_load rfl (hb6.cell rfl)) rfl ?_|refine SW.st (st_loadx hw rfl gZ) rfl ?_)|exact SW.qnil rfl)
            all_goals first|(exfalso;omega)|skip
            exact Post.again (j+1) ⟨rfl,rfl,rfl,rfl,rfl,rfl,trivial⟩ (by omega) ⟨by omega,hw,hb1,hb6,hN,hS,fun i h h'=>by
              by_cases ei:i=j
              · subst ei;exact hx
              · exact hZ i h (by omega)⟩
        · have hsz:∀ (i:Nat) (h:i<k),(s.Caches[i]'(by omega)).Size≠s.Caches[k].Size:=fun i h=>hZ i h (by omega)
          repeat' (first|(first|refine CW.seq ?_|refine CW.region ?_|refine CW.block ?_|refine CW.condd_f rfl (by omega) ?_|refine CW.exit ?_)|(first|refine Post.seq ?_|refine Post.seq_exit ?_|refine Post.hit ?_|refine Post.again_exit ?_)|refine SW.nil ?_|refine SW.pure rfl rfl ?_)
          clear hZ
          refine CW.loop (fun u:Nat×Option Addr×Nat=>[(1,.pointer (some ⟨b1,0,none⟩)),(3,.slice u.2.1 (acc++s.Caches[k].Names.take u.1).length u.2.2),(4,.slice A2 sac.length c2),(5,.int .i64 (k:Int)),(6,.pointer (some ⟨b6,0,none⟩)),(8,.int .i64 (u.1:Int))])
            (fun u w'=>u.1≤cs[k].Names.n∧Ext w w'∧Blk w' b1 30 (encSys r)∧Blk w' b6 44 (encC cs[k])∧Own w' w.heap.size 9 1 encStr u.2.1 (acc++s.Caches[k].Names.take u.1).length u.2.2 (acc++s.Caches[k].Names.take u.1)∧Own w' w.heap.size 3 1 encI A2 sac.length c2 sac ∧
              ∀ (i:Nat) (h:i<s.Caches[k].Names.length),i<u.1→nameB s.Caches[k].Names[i]=true∧s.Caches[k].Names[i]∉acc++s.Caches[k].Names.take i∧(0<i→lessS (s.Caches[k].Names[i-1]'(by omega)) s.Caches[k].Names[i]=true)) (fun u=>cs[k].Names.n-u.1) (0,A1,c1)
            ⟨rfl,by simp;rfl,rfl,rfl,rfl,rfl,trivial⟩ ⟨by simp only;omega,hw,hb1,hb6,by simpa using hN,hS,fun i h h'=>by simp only at h';omega⟩ ?_
          clear hw hb1 hN hS hb6
          rintro ⟨j,A1,c1⟩ w' ⟨hj,hw,hb1,hb6,hN,hS,hJ⟩
          simp only at hj hN hJ ⊢
          have hA1:=hck.names.base
          by_cases hjn:j<cs[k].Names.n
          · have hjl:j<s.Caches[k].Names.length:=by omega
            obtain ⟨nm,hnm⟩ : ∃ nm,s.Caches[k].Names[j]=nm:=⟨_,rfl⟩
            have gN:=hck.names.one hjn (u := .string nm) (by rw [← hnm];rfl)
            have fnm:nm.size≤140737488351232:=by rw [← hnm];exact fN _ (List.getElem_mem hjl)
            obtain ⟨qn,hqn⟩ : ∃ qn,nameB nm=qn:=⟨_,rfl⟩
            have cNm:∀ w',Ans Tryz.prog 68 [.string nm] w' fun v _=>v = .bool qn:=fun w'=>by
              have:=nameMay_ans nm w' fnm
              rwa [hqn] at this
            have hcnt:=names_count (nodup_step (l:=s.Caches[k].Names) ok1 j (fun i h h'=>(hJ i h h').2.1)) (fun n hn=>by
              rcases List.mem_append.1 hn with hn|hn
              · exact ok2 n hn
              · obtain ⟨i,hi,rfl⟩:=List.mem_take_iff_getElem.1 hn
                exact (hJ i (by omega) (by omega)).1)
            have hnext:acc++s.Caches[k].Names.take (j+1)=(acc++s.Caches[k].Names.take j)++[nm]:=by rw [List.take_succ_eq_append_getElem hjl,hnm];simp
            have hbadN:(qn=false∨nm∈acc++s.Caches[k].Names.take j ∨ ∃ hj0 : 0<j,lessS (s.Caches[k].Names[j-1]'(by omega)) nm=false)→sysB s=false:=fun h=>sysB_f fun hm=>by
              have h1:=(hm.each k hkl).names.each j hjl
              rw [hnm,hacc] at h1
              rcases h with h|h|⟨hj0,h⟩
              · rw [hqn,h] at h1;exact absurd h1.1 (by simp)
              · exact h1.2.1 h
              · rw [h1.2.2 hj0] at h;cases h
            have go:nameB nm=true→(0<j→lessS (s.Caches[k].Names[j-1]'(by omega)) nm=true)→nm∉acc++s.Caches[k].Names.take j → ∀ (i:Nat) (h:i<s.Caches[k].Names.length),i<j+1→nameB s.Caches[k].Names[i]=true∧s.Caches[k].Names[i]∉acc++s.Caches[k].Names.take i∧(0<i→lessS (s.Caches[k].Names[i-1]'(by omega)) s.Caches[k].Names[i]=true):=fun h1 h2 h3 i h h'=>by
              by_cases ei:i=j
              · subst ei
                rw [hnm]
                exact ⟨h1,h3,h2⟩
              · exact hJ i h (by omega)
            obtain ⟨ac,hac⟩ : ∃ ac,acc++s.Caches[k].Names.take j=ac:=⟨_,rfl⟩
            rw [hac] at hN hcnt hnext hbadN go ⊢
            cases qn
            · rw [hbadN (.inl rfl)]
              repeat' (first|(first|refine CW.seq ?_|refine CW.region ?_|refine CW.block ?_|refine CW.condtr rfl (by with_reducible rfl) ?_|refine CW.condd_t rfl (by omega) ?_|refine CW.skip ?_|refine CW.ret ?_|(apply CW.quiet1 mixed;(· kernel_rfl);rotate_left;intro w1 hw1;replace hw:=Ext.trans hw hw1;replace hb1:=hb1.ext hw1;replace hb6:=hb6.ext hw1;replace hN:=hN.ext hw1;replace hS:=hS.ext hw1;clear hw1;rotate_right))|(first|refine Post.seq ?_|refine Post.seq_ret ?_|refine Post.blk_ret ?_|refine Post.again_ret ?_)|refine SW.nil ?_|(show SW _ _ _ _ (⟨_,_,_,_,_,some _⟩::_) _ _;first|refine SW.skip_u rfl rfl (by with_reducible rfl) rfl ?_|refine SW.skip rfl rfl rfl rfl ?_)|refine SW.pure rfl rfl ?_|(show SW _ _ _ _ (⟨_,Op.fieldAddr _ _ _,_,_,_,none⟩::_) _ _;refine SW.st (st_field rfl) rfl ?_)|(show SW _ _ _ _ (⟨_,Op.indexAddr _ _ _,_,_,_,none⟩::_) _ _;refine SW.st (st_indexN rfl rfl (by assumption) (by omega)) rfl ?_)|(show SW _ _ _ _ (⟨_,Op.call ⟨.builtin .len,_,_⟩,_,_,_,none⟩::_) _ _;refine SW.st (st_len rfl) rfl ?_)|(show SW _ _ _ _ (⟨_,Op.load _ _,_,_,_,none⟩::_) _ _;first|refine SW.st (st_load rfl (hb6.cell rfl)) rfl ?_|refine SW.st (st_loadx hw rfl gN) rfl ?_)|(show SW _ _ _ _ (⟨_,Op.call ⟨.value (.func _),_,_⟩,_,_,_,none⟩::_) _ _;refine SW.qcall rfl rfl (fun w1 hw1=>(cNm _)) ?_)|exact SW.qnil rfl)
              exact Post.ret1 rfl rfl ⟨_,rfl,hw,rfl⟩
            · by_cases hless : 0<j→lessS (s.Caches[k].Names[j-1]'(by omega)) nm=true
              · rcases Nat.eq_zero_or_pos j with hj0|hj0
                all_goals
                  first
                  | (have gP:=hck.names.one (show j-1<cs[k].Names.n by omega) (u := .string (s.Caches[k].Names[j-1]'(by omega))) rfl
                     have hql:(!lessS (s.Caches[k].Names[j-1]'(by omega)) nm)=false:=by rw [hless hj0];rfl)
                  | skip
                all_goals
                  repeat' (first|(first|refine CW.seq ?_|refine CW.region ?_|refine CW.block ?_|refine CW.condd_t rfl (by omega) ?_|refine CW.skip ?_)|(refine Post.seq ?_)|refine SW.nil ?_|refine SW.pure rfl rfl ?_|(show SW _ _ _ _ (⟨_,Op.fieldAddr _ _ _,_,_,_,none⟩::_) _ _;refine SW.st (st_field rfl) rfl ?_)|(show SW _ _ _ _ (⟨_,Op.call ⟨.builtin .len,_,_⟩,_,_,_,none⟩::_) _ _;refine SW.st (st_len rfl) rfl ?_)|(show SW _ _ _ _ (⟨_,Op.load _ _,_,_,_,none⟩::_) _ _;refine SW.st (st_load rfl (hb6.cell rfl)) rfl ?_))
                  (apply CW.quiet1 mixed;(· kernel_rfl);rotate_left;intro w1 hw1;replace hw:=Ext.trans hw hw1;replace hb1:=hb1.ext hw1;replace hb6:=hb6.ext hw1;replace hN:=hN.ext hw1;replace hS:=hS.ext hw1;clear hw1;rotate_right)
                  repeat' (first|(first|refine CW.seq ?_|refine CW.region ?_|refine CW.block ?_|refine CW.condfr rfl (by with_reducible rfl) ?_|refine CW.skip ?_)|(refine Post.seq ?_)|refine SW.nil ?_|(show SW _ _ _ _ (⟨_,_,_,_,_,some _⟩::_) _ _;first|refine SW.want_t rfl rfl (by with_reducible rfl) ?_|refine SW.skip_t rfl rfl (by with_reducible rfl) rfl ?_|refine SW.splitd_t rfl rfl rfl (by omega) ?_|refine SW.splitd_f rfl rfl rfl (by omega) ?_|refine SW.want rfl rfl ?_)|refine SW.pure rfl rfl ?_|(show SW _ _ _ _ (⟨_,Op.fieldAddr _ _ _,_,_,_,none⟩::_) _ _;refine SW.st (st_field rfl) rfl ?_)|(show SW _ _ _ _ (⟨_,Op.binOp _ _ _ _ _,_,_,_,none⟩::_) _ _;refine SW.st (st_sub rfl rfl (by omega) (by omega)) rfl ?_)|(show SW _ _ _ _ (⟨_,Op.indexAddr _ _ _,_,_,_,none⟩::_) _ _;first|refine SW.st (st_indexN rfl rfl (by assumption) (by omega)) rfl ?_|refine SW.st (st_indexI (j-1) rfl rfl (by assumption) (by omega) (by omega)) rfl ?_)|(show SW _ _ _ _ (⟨_,Op.load _ _,_,_,_,none⟩::_) _ _;first|refine SW.st (st_load rfl (hb6.cell rfl)) rfl ?_|refine SW.st (st_loadx hw rfl gN) rfl ?_|refine SW.st (st_loadx hw rfl gP) rfl ?_)|(show SW _ _ _ _ (⟨_,Op.call ⟨.value (.func _),_,_⟩,_,_,_,none⟩::_) _ _;refine SW.qcall rfl rfl (fun w1 hw1=>(cNm _)) ?_)|(refine SW.st ((st_leStr rfl rfl).eq (congrArg Value.bool hql)) rfl ?_)|exact SW.qnil rfl)
                  all_goals first|(exfalso;omega)|skip
                  refine CW.loop (fun i:Nat=>[(1,.pointer (some ⟨b1,0,none⟩)),(3,.slice A1 ac.length c1),(4,.slice A2 sac.length c2),(5,.int .i64 (k:Int)),(6,.pointer (some ⟨b6,0,none⟩)),(8,.int .i64 (j:Int)),(9,.int .i64 (i:Int))])
                    (fun i w'=>i≤ac.length∧Ext w w'∧Blk w' b1 30 (encSys r)∧Blk w' b6 44 (encC cs[k])∧Own w' w.heap.size 9 1 encStr A1 ac.length c1 ac∧Own w' w.heap.size 3 1 encI A2 sac.length c2 sac ∧ ∀ (m:Nat) (h:m<ac.length),m<i→ac[m]≠nm) (fun i=>ac.length-i) 0
                    ⟨rfl,rfl,rfl,rfl,rfl,rfl,rfl,trivial⟩ ⟨by omega,hw,hb1,hb6,hN,hS,fun m h h'=>by omega⟩ ?_
                  clear hw hb1 hN hS hb6
                  rintro i w' ⟨hi,hw,hb1,hb6,hN,hS,hM⟩
                  have hA3:=hN.sl.base
                  by_cases hin:i<ac.length
                  · have gM:=hN.sl.one hin (u := .string ac[i]) rfl
                    by_cases hx:ac[i]=nm
                    · have hdx:=decide_eq_true hx
                      rw [hbadN (.inr (.inl (hx ▸ List.getElem_mem hin)))]
                      repeat' (first|(first|refine CW.seq ?_|refine CW.region ?_|refine CW.block ?_|refine CW.condtr rfl (by with_reducible rfl) ?_|refine CW.condd_t rfl (by omega) ?_|refine CW.skip ?_|refine CW.ret ?_|(apply CW.quiet1 mixed;(· kernel_rfl);rotate_left;intro w1 hw1;replace hw:=Ext.trans hw hw1;replace hb1:=hb1.ext hw1;replace hb6:=hb6.ext hw1;replace hN:=hN.ext hw1;replace hS:=hS.ext hw1;clear hw1;rotate_right))|(first|refine Post.seq ?_|refine Post.seq_ret ?_|refine Post.blk_ret ?_|refine Post.again_ret ?_)|refine SW.nil ?_|refine SW.pure rfl rfl ?_|(show SW _ _ _ _ (⟨_,Op.fieldAddr _ _ _,_,_,_,none⟩::_) _ _;refine SW.st (st_field rfl) rfl ?_)|(show SW _ _ _ _ (⟨_,Op.indexAddr _ _ _,_,_,_,none⟩::_) _ _;refine SW.st (st_indexN rfl rfl (by assumption) (by omega)) rfl ?_)|(show SW _ _ _ _ (⟨_,Op.call ⟨.builtin .len,_,_⟩,_,_,_,none⟩::_) _ _;refine SW.st (st_len rfl) rfl ?_)|(show SW _ _ _ _ (⟨_,Op.load _ _,_,_,_,none⟩::_) _ _;first|refine SW.st (st_load rfl (hb6.cell rfl)) rfl ?_|refine SW.st (st_loadx hw rfl gN) rfl ?_|refine SW.st (st_load rfl gM) rfl ?_)|(refine SW.st ((st_eqStr rfl rfl).eq (congrArg Value.bool hdx)) rfl ?_)|exact SW.qnil rfl)
                      exact Post.ret1 rfl rfl ⟨_,rfl,hw,rfl⟩
                    · have hdx:=decide_eq_false hx
                      repeat' (first|(first|refine CW.seq ?_|refine CW.region ?_|refine CW.block ?_|refine CW.condfr rfl (by with_reducible rfl) ?_|refine CW.condd_t rfl (by omega) ?_|refine CW.skip ?_|(apply CW.quiet1 mixed;(· kernel_rfl);rotate_left;intro w1 hw1;replace hw:=Ext.trans hw hw1;replace hb1:=hb1.ext hw1;replace hb6:=hb6.ext hw1;replace hN:=hN.ext hw1;replace hS:=hS.ext hw1;clear hw1;rotate_right))|(first|refine Post.seq ?_|refine Post.blk ?_)|refine SW.nil ?_|refine SW.pure rfl rfl ?_|(show SW _ _ _ _ (⟨_,Op.fieldAddr _ _ _,_,_,_,none⟩::_) _ _;refine SW.st (st_field rfl) rfl ?_)|(show SW _ _ _ _ (⟨_,Op.binOp _ _ _ _ _,_,_,_,none⟩::_) _ _;refine SW.st (st_add rfl rfl (by omega) (by omega)) rfl ?_)|(show SW _ _ _ _ (⟨_,Op.indexAddr _ _ _,_,_,_,none⟩::_) _ _;refine SW.st (st_indexN rfl rfl (by assumption) (by omega)) rfl ?_)|(show SW _ _ _ _ (⟨_,Op.call ⟨.builtin .len,_,_⟩,_,_,_,none⟩::_) _ _;refine SW.st (st_len rfl) rfl ?_)|(show SW _ _ _ _ (⟨_,Op.load _ _,_,_,_,none⟩::_) _ _;first|refine SW.st (st_load rfl (hb6.cell rfl)) rfl ?_|refine SW.st (st_loadx hw rfl gN) rfl ?_|refine SW.st (st_load rfl gM) rfl ?_)|(refine SW.st ((st_eqStr rfl rfl).eq (congrArg Value.bool hdx)) rfl ?_)|exact SW.qnil rfl)
                      exact Post.again (i+1) ⟨rfl,rfl,rfl,rfl,rfl,rfl,rfl,trivial⟩ (by omega) ⟨by omega,hw,hb1,hb6,hN,hS,fun m h h'=>by
                        by_cases em:m=i
                        · subst em;exact hx
                        · exact hM m h (by omega)⟩
                  · have hnot:nm∉ac:=fun hm=>by
                      obtain ⟨m,hm1,hm2⟩:=List.getElem_of_mem hm
                      exact hM m hm1 (by omega) hm2
                    repeat' (first|(first|refine CW.seq ?_|refine CW.region ?_|refine CW.condd_f rfl (by omega) ?_|refine CW.exit ?_)|(first|refine Post.seq ?_|refine Post.seq_exit ?_|refine Post.hit ?_|refine Post.again_exit ?_)|refine SW.nil ?_|refine SW.pure rfl rfl ?_|(show SW _ _ _ _ (⟨_,Op.fieldAddr _ _ _,_,_,_,none⟩::_) _ _;refine SW.st (st_field rfl) rfl ?_)|(show SW _ _ _ _ (⟨_,Op.indexAddr _ _ _,_,_,_,none⟩::_) _ _;refine SW.st (st_indexN rfl rfl (by assumption) (by omega)) rfl ?_)|(show SW _ _ _ _ (⟨_,Op.call ⟨.builtin .len,_,_⟩,_,_,_,none⟩::_) _ _;refine SW.st (st_len rfl) rfl ?_)|(show SW _ _ _ _ (⟨_,Op.load _ _,_,_,_,none⟩::_) _ _;first|refine SW.st (st_load rfl (hb6.cell rfl)) rfl ?_|refine SW.st (st_loadx hw rfl gN) rfl ?_))
                    refine SW.build1 rfl rfl rfl rfl rfl fun b w1 hw1 hb hB => ?_
                    (replace hw:=Ext.trans hw hw1;replace hb1:=hb1.ext hw1;replace hb6:=hb6.ext hw1;replace hN:=hN.ext hw1;replace hS:=hS.ext hw1)
                    refine SW.append hN (Blk.sl1 (enc:=encStr) hB) hw.size rfl rfl rfl (by omega) (by omega) fun A3 c3 w2 hN1 hg => ?_
                    replace hw:=ext_grown hw hg (Nat.le_refl _) hN.row_ge
                    replace hb1:=hb1.grown hg (fun e=>hN.ne_blk hb1 rfl e.symm)
                    replace hb6:=hb6.grown hg (fun e=>hN.ne_blk hb6 rfl e.symm)
                    replace hS:=hS.grown hg (hS.ne_own hN rfl)
                    repeat' (first|(refine CW.region ?_)|(first|refine Post.seq ?_|refine Post.blk ?_)|refine SW.nil ?_|refine SW.pure rfl rfl ?_|(show SW _ _ _ _ (⟨_,Op.binOp _ _ _ _ _,_,_,_,none⟩::_) _ _;refine SW.st (st_add rfl rfl (by omega) (by omega)) rfl ?_))
                    exact Post.again (j+1,A3,c3) ⟨rfl,by simp only [hnext,List.length_append];rfl,rfl,rfl,rfl,rfl,trivial⟩ (by simp only;omega) ⟨by simp only;omega,hw,hb1,hb6,by simp only [hnext,List.length_append];exact hN1,hS,go hqn hless hnot⟩
              · have hj0 : 0<j:=by
                  rcases Nat.eq_zero_or_pos j with h|h
                  · exact absurd (fun h'=>by omega) hless
                  · exact h
                have hl0:lessS (s.Caches[k].Names[j-1]'(by omega)) nm=false:=by
                  cases e:lessS (s.Caches[k].Names[j-1]'(by omega)) nm
                  · rfl
                  · exact absurd (fun _=>e) hless
                have gP:=hck.names.one (show j-1<cs[k].Names.n by omega) (u := .string (s.Caches[k].Names[j-1]'(by omega))) rfl
                have hql:(!lessS (s.Caches[k].Names[j-1]'(by omega)) nm)=true:=by rw [hl0];rfl
                rw [hbadN (.inr (.inr ⟨hj0,hl0⟩))]
                repeat' (first|(first|refine CW.seq ?_|refine CW.region ?_|refine CW.block ?_|refine CW.condtr rfl (by with_reducible rfl) ?_|refine CW.condd_t rfl (by omega) ?_|refine CW.skip ?_|refine CW.ret ?_|(apply CW.quiet1 mixed;(· kernel_rfl);rotate_left;intro w1 hw1;replace hw:=Ext.trans hw hw1;replace hb1:=hb1.ext hw1;replace hb6:=hb6.ext hw1;replace hN:=hN.ext hw1;replace hS:=hS.ext hw1;clear hw1;rotate_right))|(first|refine Post.seq ?_|refine Post.seq_ret ?_|refine Post.blk_ret ?_|refine Post.again_ret ?_)|refine SW.nil ?_|(show SW _ _ _ _ (⟨_,_,_,_,_,some _⟩::_) _ _;first|refine SW.want_t rfl rfl (by with_reducible rfl) ?_|refine SW.splitd_t rfl rfl rfl (by omega) ?_|refine SW.want rfl rfl ?_)|refine SW.pure rfl rfl ?_|(show SW _ _ _ _ (⟨_,Op.fieldAddr _ _ _,_,_,_,none⟩::_) _ _;refine SW.st (st_field rfl) rfl ?_)|(show SW _ _ _ _ (⟨_,Op.binOp _ _ _ _ _,_,_,_,none⟩::_) _ _;refine SW.st (st_sub rfl rfl (by omega) (by omega)) rfl ?_)|(show SW _ _ _ _ (⟨_,Op.indexAddr _ _ _,_,_,_,none⟩::_) _ _;first|refine SW.st (st_indexN rfl rfl (by assumption) (by omega)) rfl ?_|refine SW.st (st_indexI (j-1) rfl rfl (by assumption) (by omega) (by omega)) rfl ?_)|(show SW _ _ _ _ (⟨_,Op.call ⟨.builtin .len,_,_⟩,_,_,_,none⟩::_) _ _;refine SW.st (st_len rfl) rfl ?_)|(show SW _ _ _ _ (⟨_,Op.load _ _,_,_,_,none⟩::_) _ _;first|refine SW.st (st_load rfl (hb6.cell rfl)) rfl ?_|refine SW.st (st_loadx hw rfl gN) rfl ?_|refine SW.st (st_loadx hw rfl gP) rfl ?_)|(show SW _ _ _ _ (⟨_,Op.call ⟨.value (.func _),_,_⟩,_,_,_,none⟩::_) _ _;refine SW.qcall rfl rfl (fun w1 hw1=>(cNm _)) ?_)|(refine SW.st ((st_leStr rfl rfl).eq (congrArg Value.bool hql)) rfl ?_)|exact SW.qnil rfl)
                all_goals first|(exfalso;omega)|skip
                exact Post.ret1 rfl rfl ⟨_,rfl,hw,rfl⟩
          · have hNin:NamesIn (namesAhead (s.Caches.take k)) s.Caches[k].Names:=⟨fun i h=>by rw [hacc];exact hJ i h (by omega)⟩
            rw [List.take_of_length_le (show s.Caches[k].Names.length≤j by omega)] at hN ⊢
            rw [← hacc,← namesAhead_take s.Caches k hkl] at hN ⊢
            repeat' (first|(first|refine CW.seq ?_|refine CW.region ?_|refine CW.block ?_|refine CW.condd_f rfl (by omega) ?_|refine CW.exit ?_)|(first|refine Post.seq ?_|refine Post.seq_exit ?_|refine Post.hit ?_|refine Post.again_exit ?_)|refine SW.nil ?_|refine SW.pure rfl rfl ?_|(show SW _ _ _ _ (⟨_,Op.fieldAddr _ _ _,_,_,_,none⟩::_) _ _;refine SW.st (st_field rfl) rfl ?_)|(show SW _ _ _ _ (⟨_,Op.call ⟨.builtin .len,_,_⟩,_,_,_,none⟩::_) _ _;refine SW.st (st_len rfl) rfl ?_)|(show SW _ _ _ _ (⟨_,Op.load _ _,_,_,_,none⟩::_) _ _;refine SW.st (st_load rfl (hb6.cell rfl)) rfl ?_))
            clear hJ
            obtain ⟨nl,hnl⟩ : ∃ nl,namesAhead (s.Caches.take (k+1))=nl:=⟨_,rfl⟩
            rw [hnl] at hN ⊢
            refine CW.loop (fun u:Nat×Option Addr×Nat=>[(1,.pointer (some ⟨b1,0,none⟩)),(3,.slice A1 nl.length c1),(4,.slice u.2.1 (sac++(s.Caches[k].Slabs.take u.1).map fun x=>x.At).length u.2.2),(5,.int .i64 (k:Int)),(6,.pointer (some ⟨b6,0,none⟩)),(10,.int .i64 (u.1:Int))])
              (fun u w'=>u.1≤cs[k].Slabs.n∧Ext w w'∧Blk w' b1 30 (encSys r)∧Blk w' b6 44 (encC cs[k])∧Own w' w.heap.size 9 1 encStr A1 nl.length c1 nl∧Own w' w.heap.size 3 1 encI u.2.1 (sac++(s.Caches[k].Slabs.take u.1).map fun x=>x.At).length u.2.2 (sac++(s.Caches[k].Slabs.take u.1).map fun x=>x.At) ∧
                ∀ (i:Nat) (h:i<s.Caches[k].Slabs.length),i<u.1→s.Caches[k].Slabs[i].At∉sac++(s.Caches[k].Slabs.take i).map fun x=>x.At) (fun u=>cs[k].Slabs.n-u.1) (0,A2,c2)
              ⟨rfl,rfl,by simp;rfl,rfl,rfl,rfl,trivial⟩ ⟨by simp only;omega,hw,hb1,hb6,hN,by simpa using hS,fun i h h'=>by simp only at h';omega⟩ ?_
            clear hw hb1 hN hS hb6
            rintro ⟨j,A2,c2⟩ w' ⟨hj,hw,hb1,hb6,hN,hS,hJ⟩
            simp only at hj hS hJ ⊢
            have hA1:=hck.slabs.base
            by_cases hjn:j<cs[k].Slabs.n
            · have hjl:j<s.Caches[k].Slabs.length:=by omega
              obtain ⟨t,ht⟩ : ∃ t,s.Caches[k].Slabs[j].At=t:=⟨_,rfl⟩
              have gT:=hck.slabs.fld hjn (j:=0) (u := .int .i64 t) (by rw [← ht];rfl)
              have hcnt:=ats_count (nodup_step (l:=s.Caches[k].Slabs.map fun x=>x.At) ok3 j (fun i h h'=>by
                have:=hJ i (by simpa using h) h'
                simpa [List.map_take] using this)) (fun n hn=>by
                rcases List.mem_append.1 hn with hn|hn
                · exact ok4 n hn
                · obtain ⟨x,hx,rfl⟩:=List.mem_map.1 (List.mem_of_mem_take hn)
                  exact hCM.ats hH x hx)
              rw [← List.map_take] at hcnt
              have hnext:(sac++(s.Caches[k].Slabs.take (j+1)).map fun x=>x.At)=(sac++(s.Caches[k].Slabs.take j).map fun x=>x.At)++[t]:=by
                rw [List.take_succ_eq_append_getElem hjl,← ht,List.map_append,List.append_assoc]
                rfl
              have hbadT:t∈(sac++(s.Caches[k].Slabs.take j).map fun x=>x.At)→sysB s=false:=fun h=>sysB_f fun hm=>by
                have h1:=(hm.each k hkl).slabs j hjl
                rw [ht,hsac] at h1
                exact h1 h
              have go:t∉(sac++(s.Caches[k].Slabs.take j).map fun x=>x.At) → ∀ (i:Nat) (h:i<s.Caches[k].Slabs.length),i<j+1→s.Caches[k].Slabs[i].At∉sac++(s.Caches[k].Slabs.take i).map fun x=>x.At:=fun h1 i h h'=>by
                by_cases ei:i=j
                · subst ei;rw [ht];exact h1
                · exact hJ i h (by omega)
              obtain ⟨ac,hac⟩ : ∃ ac,(sac++(s.Caches[k].Slabs.take j).map fun x=>x.At)=ac:=⟨_,rfl⟩
              rw [hac] at hS hcnt hnext hbadT go ⊢
              repeat' (first|(first|refine CW.seq ?_|refine CW.region ?_|refine CW.block ?_|refine CW.condd_t rfl (by omega) ?_|refine CW.skip ?_)|(refine Post.seq ?_)|refine SW.nil ?_|refine SW.pure rfl rfl ?_|(show SW _ _ _ _ (⟨_,Op.fieldAddr _ _ _,_,_,_,none⟩::_) _ _;refine SW.st (st_field rfl) rfl ?_)|(show SW _ _ _ _ (⟨_,Op.call ⟨.builtin .len,_,_⟩,_,_,_,none⟩::_) _ _;refine SW.st (st_len rfl) rfl ?_)|(show SW _ _ _ _ (⟨_,Op.load _ _,_,_,_,none⟩::_) _ _;refine SW.st (st_load rfl (hb6.cell rfl)) rfl ?_))
              refine CW.loop (fun i:Nat=>[(1,.pointer (some ⟨b1,0,none⟩)),(3,.slice A1 nl.length c1),(4,.slice A2 ac.length c2),(5,.int .i64 (k:Int)),(6,.pointer (some ⟨b6,0,none⟩)),(10,.int .i64 (j:Int)),(11,.int .i64 (i:Int))])
                (fun i w'=>i≤ac.length∧Ext w w'∧Blk w' b1 30 (encSys r)∧Blk w' b6 44 (encC cs[k])∧Own w' w.heap.size 9 1 encStr A1 nl.length c1 nl∧Own w' w.heap.size 3 1 encI A2 ac.length c2 ac ∧ ∀ (m:Nat) (h:m<ac.length),m<i→ac[m]≠t) (fun i=>ac.length-i) 0
                ⟨rfl,rfl,rfl,rfl,rfl,rfl,rfl,trivial⟩ ⟨by omega,hw,hb1,hb6,hN,hS,fun m h h'=>by omega⟩ ?_
              clear hw hb1 hN hS hb6
              rintro i w' ⟨hi,hw,hb1,hb6,hN,hS,hM⟩
              have hA3:=hS.sl.base
              by_cases hin:i<ac.length
              · have gM:=hS.sl.one hin (u := .int .i64 ac[i]) rfl
                by_cases hx:ac[i]=t
                · rw [hbadT (hx ▸ List.getElem_mem hin)]
                  repeat' (first|(first|refine CW.seq ?_|refine CW.region ?_|refine CW.block ?_|refine CW.condd_t rfl (by omega) ?_|refine CW.skip ?_|refine CW.ret ?_|(apply CW.quiet1 mixed;(· kernel_rfl);rotate_left;intro w1 hw1;replace hw:=Ext.trans hw hw1;replace hb1:=hb1.ext hw1;replace hb6:=hb6.ext hw1;replace hN:=hN.ext hw1;replace hS:=hS.ext hw1;clear hw1;rotate_right))|(first|refine Post.seq ?_|refine Post.seq_ret ?_|refine Post.blk_ret ?_|refine Post.again_ret ?_)|refine SW.nil ?_|refine SW.pure rfl rfl ?_|(show SW _ _ _ _ (⟨_,Op.fieldAddr _ _ _,_,_,_,none⟩::_) _ _;refine SW.st (st_field rfl) rfl ?_)|(show SW _ _ _ _ (⟨_,Op.indexAddr _ _ _,_,_,_,none⟩::_) _ _;refine SW.st (st_indexN rfl rfl (by assumption) (by omega)) rfl ?_)|(show SW _ _ _ _ (⟨_,Op.call ⟨.builtin .len,_,_⟩,_,_,_,none⟩::_) _ _;refine SW.st (st_len rfl) rfl ?_)|(show SW _ _ _ _ (⟨_,Op.load _ _,_,_,_,none⟩::_) _ _;first|refine SW.st (st_load rfl (hb6.cell rfl)) rfl ?_|refine SW.st (st_loadx hw rfl gT) rfl ?_|refine SW.st (st_load rfl gM) rfl ?_)|exact SW.qnil rfl)
                  all_goals first|(exfalso;omega)|skip
                  exact Post.ret1 rfl rfl ⟨_,rfl,hw,rfl⟩
                · repeat' (first|(first|refine CW.seq ?_|refine CW.region ?_|refine CW.block ?_|refine CW.condd_t rfl (by omega) ?_|refine CW.condd_f rfl (by omega) ?_|refine CW.skip ?_|(apply CW.quiet1 mixed;(· kernel_rfl);rotate_left;intro w1 hw1;replace hw:=Ext.trans hw hw1;replace hb1:=hb1.ext hw1;replace hb6:=hb6.ext hw1;replace hN:=hN.ext hw1;replace hS:=hS.ext hw1;clear hw1;rotate_right))|(first|refine Post.seq ?_|refine Post.blk ?_)|refine SW.nil ?_|refine SW.pure rfl rfl ?_|(show SW _ _ _ _ (⟨_,Op.fieldAddr _ _ _,_,_,_,none⟩::_) _ _;refine SW.st (st_field rfl) rfl ?_)|(show SW _ _ _ _ (⟨_,Op.binOp _ _ _ _ _,_,_,_,none⟩::_) _ _;refine SW.st (st_add rfl rfl (by omega) (by omega)) rfl ?_)|(show SW _ _ _ _ (⟨_,Op.indexAddr _ _ _,_,_,_,none⟩::_) _ _;refine SW.st (st_indexN rfl rfl (by assumption) (by omega)) rfl ?_)|(show SW _ _ _ _ (⟨_,Op.call ⟨.builtin .len,_,_⟩,_,_,_,none⟩::_) _ _;refine SW.st (st_len rfl) rfl ?_)|(show SW _ _ _ _ (⟨_,Op.load _ _,_,_,_,none⟩::_) _ _;first|refine SW.st (st_load rfl (hb6.cell rfl)) rfl ?_|refine SW.st (st_loadx hw rfl gT) rfl ?_|refine SW.st (st_load rfl gM) rfl ?_)|exact SW.qnil rfl)
                  all_goals first|(exfalso;omega)|skip
                  exact Post.again (i+1) ⟨rfl,rfl,rfl,rfl,rfl,rfl,rfl,trivial⟩ (by omega) ⟨by omega,hw,hb1,hb6,hN,hS,fun m h h'=>by
                    by_cases em:m=i
                    · subst em;exact hx
                    · exact hM m h (by omega)⟩
              · have hnot:t∉ac:=fun hm=>by
                  obtain ⟨m,hm1,hm2⟩:=List.getElem_of_mem hm
                  exact hM m hm1 (by omega) hm2
                repeat' (first|(first|refine CW.seq ?_|refine CW.region ?_|refine CW.condd_f rfl (by omega) ?_|refine CW.exit ?_)|(first|refine Post.seq ?_|refine Post.seq_exit ?_|refine Post.hit ?_|refine Post.again_exit ?_)|refine SW.nil ?_|refine SW.pure rfl rfl ?_|(show SW _ _ _ _ (⟨_,Op.fieldAddr _ _ _,_,_,_,none⟩::_) _ _;refine SW.st (st_field rfl) rfl ?_)|(show SW _ _ _ _ (⟨_,Op.indexAddr _ _ _,_,_,_,none⟩::_) _ _;refine SW.st (st_indexN rfl rfl (by assumption) (by omega)) rfl ?_)|(show SW _ _ _ _ (⟨_,Op.call ⟨.builtin .len,_,_⟩,_,_,_,none⟩::_) _ _;refine SW.st (st_len rfl) rfl ?_)|(show SW _ _ _ _ (⟨_,Op.load _ _,_,_,_,none⟩::_) _ _;first|refine SW.st (st_load rfl (hb6.cell rfl)) rfl ?_|refine SW.st (st_loadx hw rfl gT) rfl ?_))
                refine SW.build1 rfl rfl rfl rfl rfl fun b w1 hw1 hb hB => ?_
                (replace hw:=Ext.trans hw hw1;replace hb1:=hb1.ext hw1;replace hb6:=hb6.ext hw1;replace hN:=hN.ext hw1;replace hS:=hS.ext hw1)
                refine SW.append hS (Blk.sl1 (enc:=encI) hB) hw.size rfl rfl rfl (by omega) (by omega) fun A3 c3 w2 hS1 hg => ?_
                replace hw:=ext_grown hw hg (Nat.le_refl _) hS.row_ge
                replace hb1:=hb1.grown hg (fun e=>hS.ne_blk hb1 rfl e.symm)
                replace hb6:=hb6.grown hg (fun e=>hS.ne_blk hb6 rfl e.symm)
                replace hN:=hN.grown hg (hN.ne_own hS rfl)
                repeat' (first|(refine CW.region ?_)|(first|refine Post.seq ?_|refine Post.blk ?_)|refine SW.nil ?_|refine SW.pure rfl rfl ?_|(show SW _ _ _ _ (⟨_,Op.binOp _ _ _ _ _,_,_,_,none⟩::_) _ _;refine SW.st (st_add rfl rfl (by omega) (by omega)) rfl ?_))
                exact Post.again (j+1,A3,c3) ⟨rfl,rfl,by simp only [hnext,List.length_append];rfl,rfl,rfl,rfl,trivial⟩ (by simp only;omega) ⟨by simp only;omega,hw,hb1,hb6,hN,by simp only [hnext,List.length_append];exact hS1,go hnot⟩
            · rw [List.take_of_length_le (show s.Caches[k].Slabs.length≤j by omega),← hsac,← slabsAhead_take s.Caches k hkl] at hS ⊢
              rw [← hnl] at hN ⊢
              repeat' (first|(first|refine CW.seq ?_|refine CW.region ?_|refine CW.condd_f rfl (by omega) ?_|refine CW.exit ?_)|(first|refine Post.seq ?_|refine Post.seq_exit ?_|refine Post.hit ?_|refine Post.blk ?_|refine Post.again_exit ?_)|refine SW.nil ?_|refine SW.pure rfl rfl ?_|(show SW _ _ _ _ (⟨_,Op.fieldAddr _ _ _,_,_,_,none⟩::_) _ _;refine SW.st (st_field rfl) rfl ?_)|(show SW _ _ _ _ (⟨_,Op.binOp _ _ _ _ _,_,_,_,none⟩::_) _ _;refine SW.st (st_add rfl rfl (by omega) (by omega)) rfl ?_)|(show SW _ _ _ _ (⟨_,Op.call ⟨.builtin .len,_,_⟩,_,_,_,none⟩::_) _ _;refine SW.st (st_len rfl) rfl ?_)|(show SW _ _ _ _ (⟨_,Op.load _ _,_,_,_,none⟩::_) _ _;refine SW.st (st_load rfl (hb6.cell rfl)) rfl ?_))
              exact Post.again (k+1,A1,c1,A2,c2) ⟨rfl,rfl,rfl,rfl,trivial⟩ (by simp only;omega) ⟨by simp only;omega,hw,hb1,hN,hS,fun i h h'=>by
                simp only at h'
                by_cases ei:i=k
                · subst ei
                  exact ⟨hCM,hsz,hNin,fun i h=>by rw [hsac];exact hJ i h (by omega)⟩
                · exact hI i h (by omega)⟩
    · rw [sysB_t ⟨g1,hH,g3,fun i h=>hI i h (by omega)⟩]
      repeat' (first|(first|refine CW.seq ?_|refine CW.region ?_|refine CW.condd_f rfl (by omega) ?_|refine CW.ret ?_|refine CW.exit ?_)|(first|refine Post.seq ?_|refine Post.seq_exit ?_|refine Post.hit ?_|refine Post.again_exit ?_)|refine SW.nil ?_|refine SW.pure rfl rfl ?_|(show SW _ _ _ _ (⟨_,Op.fieldAddr _ _ _,_,_,_,none⟩::_) _ _;refine SW.st (st_field rfl) rfl ?_)|(show SW _ _ _ _ (⟨_,Op.call ⟨.builtin .len,_,_⟩,_,_,_,none⟩::_) _ _;refine SW.st (st_len rfl) rfl ?_)|(show SW _ _ _ _ (⟨_,Op.load _ _,_,_,_,none⟩::_) _ _;refine SW.st (st_load rfl (hb1.cell rfl)) rfl ?_))
      exact Post.ret1 rfl rfl ⟨_,rfl,hw,rfl⟩
  · have hF:sysB s=false:=sysB_f fun hm=>hgood ⟨hm.words,by rw [← hq];exact heapB_t hm.heap,hm.most⟩
    rw [hF]
    cases q
    all_goals simp only [true_and,Bool.false_eq_true,false_and,and_false,not_false_eq_true] at hgood
    · rcases (show s.Words.length≠4096∨s.Words.length=4096 by omega) with g|g
      all_goals
        repeat' (first|(first|refine CW.seq ?_|refine CW.region ?_|refine CW.condtr rfl (by with_reducible rfl) ?_|refine CW.ret ?_)|(first|refine Post.seq ?_|refine Post.seq_ret ?_)|refine SW.nil ?_|(show SW _ _ _ _ (⟨_,_,_,_,_,some _⟩::_) _ _;first|refine SW.want_f rfl rfl (by with_reducible rfl) ?_|refine SW.skip_f rfl rfl (by with_reducible rfl) rfl ?_|refine SW.splitn_t rfl rfl rfl (by omega) ?_|refine SW.splitn_f rfl rfl rfl (by omega) ?_|refine SW.skip rfl rfl rfl rfl ?_)|refine SW.pure rfl rfl ?_|(show SW _ _ _ _ (⟨_,Op.fieldAddr _ _ _,_,_,_,none⟩::_) _ _;refine SW.st (st_field rfl) rfl ?_)|(show SW _ _ _ _ (⟨_,Op.call ⟨.builtin .len,_,_⟩,_,_,_,none⟩::_) _ _;refine SW.st (st_len rfl) rfl ?_)|(show SW _ _ _ _ (⟨_,Op.load _ _,_,_,_,none⟩::_) _ _;first|refine SW.st (st_load rfl (hb1.cell rfl)) rfl ?_|refine SW.st (st_loads rfl rfl ((heapIn hb1))) rfl ?_)|(show SW _ _ _ _ (⟨_,Op.call ⟨.value (.func _),_,_⟩,_,_,_,none⟩::_) _ _;(refine SW.call rfl rfl (c1 _ hw) ?_;intro v w1 hw1 hv;subst hv;replace hw:=Ext.trans hw hw1;replace hb1:=hb1.ext hw1;clear hw1)))
        all_goals first|(exfalso;omega)|skip
        exact Post.ret1 rfl rfl ⟨_,rfl,hw,rfl⟩
    · rcases (show s.Words.length≠4096∨(s.Words.length=4096∧20<s.Caches.length) by omega) with g|g
      all_goals
        repeat' (first|(first|refine CW.seq ?_|refine CW.region ?_|refine CW.condtr rfl (by with_reducible rfl) ?_|refine CW.condd_t rfl (by omega) ?_|refine CW.ret ?_)|(first|refine Post.seq ?_|refine Post.seq_ret ?_)|refine SW.nil ?_|(show SW _ _ _ _ (⟨_,_,_,_,_,some _⟩::_) _ _;first|refine SW.want_f rfl rfl (by with_reducible rfl) ?_|refine SW.skip_f rfl rfl (by with_reducible rfl) rfl ?_|refine SW.splitn_t rfl rfl rfl (by omega) ?_|refine SW.splitn_f rfl rfl rfl (by omega) ?_|refine SW.want rfl rfl ?_)|refine SW.pure rfl rfl ?_|(show SW _ _ _ _ (⟨_,Op.fieldAddr _ _ _,_,_,_,none⟩::_) _ _;refine SW.st (st_field rfl) rfl ?_)|(show SW _ _ _ _ (⟨_,Op.call ⟨.builtin .len,_,_⟩,_,_,_,none⟩::_) _ _;refine SW.st (st_len rfl) rfl ?_)|(show SW _ _ _ _ (⟨_,Op.load _ _,_,_,_,none⟩::_) _ _;first|refine SW.st (st_load rfl (hb1.cell rfl)) rfl ?_|refine SW.st (st_loads rfl rfl ((heapIn hb1))) rfl ?_)|(show SW _ _ _ _ (⟨_,Op.call ⟨.value (.func _),_,_⟩,_,_,_,none⟩::_) _ _;(refine SW.call rfl rfl (c1 _ hw) ?_;intro v w1 hw1 hv;subst hv;replace hw:=Ext.trans hw hw1;replace hb1:=hb1.ext hw1;clear hw1)))
        all_goals first|(exfalso;omega)|skip
        exact Post.ret1 rfl rfl ⟨_,rfl,hw,rfl⟩
open Go.RowKit
theorem KSystem.good.fine {s:KSystem} (h:s.good) : s.fine :=
 ⟨h.small,fun z hz=>⟨(h.heap.zones z hz).1,(h.heap.zones z hz).2.1⟩,fun c hc x hx=>(h.caches c hc).slabs x hx,fun c hc n hn=>(h.caches c hc).names n hn⟩
open Go.RowKit
theorem IndexString_ans (A:Option Addr) (n c:Nat) (l:List ByteArray) (x:ByteArray) (w:World) (hl:Sl w 1 encStr A n l) (hn:n≤9223372036854775807) :
  Ans Tryz.prog 97 [.slice A n c,.string x] w fun v _ => ∃ i:Int,v = .int .i64 i∧decide (0≤i)=hasS l x:=by
 refine ans_of Tryz.func97 rfl Tryz.ntmps97 rfl ?_
 have hw:=Ext.refl w
 have hA:=hl.base
 have hll:=hl.len
 repeat' (first|(first|refine CW.seq ?_|refine CW.region ?_|refine CW.block ?_)|(refine Post.seq ?_)|refine SW.nil ?_|refine SW.pure rfl rfl ?_|(show SW _ _ _ _ (⟨_,Op.call ⟨.builtin .len,_,_⟩,_,_,_,none⟩::_) _ _;refine SW.st (st_len rfl) rfl ?_))
 refine CW.loop (fun k:Nat=>[(0,.slice A n c),(1,.string x),(7,.int .i64 (n:Int)),(8,.int .i64 (k:Int))]) (fun k w'=>k≤n∧Ext w w' ∧ ∀ (i:Nat) (h:i<l.length),i<k→l[i]≠x)
  (fun k=>n-k) 0 ⟨rfl,rfl,rfl,rfl,trivial⟩ ⟨by omega,hw,fun i h hi=>by omega⟩ ?_
 clear hw
 rintro k w' ⟨hk,hw,hI⟩
 by_cases hkn:k<n
 ·by_cases hx:x=l[k]
  ·repeat' (first|(first|refine CW.seq ?_|refine CW.region ?_|refine CW.block ?_|refine CW.condtr rfl (by with_reducible rfl) ?_|refine CW.condd_t rfl (by omega) ?_|refine CW.skip ?_|refine CW.ret ?_)|(first|refine Post.seq ?_|refine Post.seq_ret ?_|refine Post.blk_ret ?_|refine Post.again_ret ?_)|refine SW.nil ?_|refine SW.pure rfl rfl ?_|(show SW _ _ _ _ (⟨_,Op.indexAddr _ _ _,_,_,_,none⟩::_) _ _;refine SW.st (st_indexN rfl rfl (by assumption) (by omega)) rfl ?_)|(show SW _ _ _ _ (⟨_,Op.load _ _,_,_,_,none⟩::_) _ _;refine SW.st (st_loadx hw rfl (hl.one hkn rfl)) rfl ?_)|(refine SW.st ((st_eqStr rfl rfl).eq (congrArg Value.bool (decide_eq_true hx))) rfl ?_))
   refine Post.ret1 rfl rfl ⟨_,rfl,hw,_,rfl,?_⟩
   rw [hasS_iff.2 (hx ▸ List.getElem_mem (hl.lt hkn))]
   simp
  ·repeat' (first|(first|refine CW.seq ?_|refine CW.region ?_|refine CW.block ?_|refine CW.condfr rfl (by with_reducible rfl) ?_|refine CW.condd_t rfl (by omega) ?_|refine CW.skip ?_)|(first|refine Post.seq ?_|refine Post.blk ?_)|refine SW.nil ?_|refine SW.pure rfl rfl ?_|(show SW _ _ _ _ (⟨_,Op.binOp _ _ _ _ _,_,_,_,none⟩::_) _ _;refine SW.st (st_add rfl rfl (by omega) (by omega)) rfl ?_)|(show SW _ _ _ _ (⟨_,Op.indexAddr _ _ _,_,_,_,none⟩::_) _ _;refine SW.st (st_indexN rfl rfl (by assumption) (by omega)) rfl ?_)|(show SW _ _ _ _ (⟨_,Op.load _ _,_,_,_,none⟩::_) _ _;refine SW.st (st_loadx hw rfl (hl.one hkn rfl)) rfl ?_)|(refine SW.st ((st_eqStr rfl rfl).eq (congrArg Value.bool (decide_eq_false hx))) rfl ?_))
   refine Post.again (k+1) ⟨rfl,rfl,rfl,rfl,trivial⟩ (by omega) ⟨by omega,hw,fun i h' hi => ?_⟩
   by_cases hik:i=k
   ·subst hik
    exact fun e=>hx e.symm
   ·exact hI i h' (by omega)
 ·repeat' (first|(first|refine CW.seq ?_|refine CW.region ?_|refine CW.condd_f rfl (by omega) ?_|refine CW.ret ?_|refine CW.exit ?_)|(first|refine Post.seq ?_|refine Post.seq_exit ?_|refine Post.hit ?_|refine Post.again_exit ?_)|refine SW.nil ?_|refine SW.pure rfl rfl ?_)
  refine Post.ret1 rfl rfl ⟨_,rfl,hw,_,rfl,?_⟩
  have hx:hasS l x=false:=by
   cases e:hasS l x
   ·rfl
   ·obtain ⟨i,hi,e⟩:=List.getElem_of_mem (hasS_iff.1 e)
    exact absurd e (hI i hi (by omega))
  rw [hx]
  simp
theorem ContainsString_ans (A:Option Addr) (n c:Nat) (l:List ByteArray) (x:ByteArray) (w:World) (hl:Sl w 1 encStr A n l) (hn:n≤9223372036854775807) :
  Ans Tryz.prog 61 [.slice A n c,.string x] w fun v _=>v = .bool (hasS l x):=by
 refine ans_of Tryz.func61 rfl Tryz.ntmps61 rfl ?_
 have hw:=Ext.refl w
 repeat' (first|(first|refine CW.seq ?_|refine CW.region ?_)|(refine Post.seq ?_)|refine SW.nil ?_|refine SW.pure rfl rfl ?_)
 refine SW.call rfl rfl (IndexString_ans _ _ _ _ _ _ (hl.ext hw) hn) fun v w1 hw1 hv => ?_
 obtain ⟨i,rfl,hi⟩:=hv
 replace hw:=Ext.trans hw hw1
 repeat' (first|(refine CW.ret ?_)|(refine Post.seq ?_)|refine SW.nil ?_|refine SW.pure rfl rfl ?_)
 exact Post.ret1 rfl rfl ⟨_,rfl,hw,by rw [hi]⟩
theorem idxOf_congr {α β : Type} {p : α → Bool} {q : β → Bool} {l:List α} {m:List β} (hl:l.length=m.length) (h:∀ (k:Nat) (h1:k<l.length) (h2:k<m.length),p l[k]=q m[k]) : idxOf p l=idxOf q m∧l.any p=m.any q:=by
 have e:l.map p=m.map q:=List.ext_getElem (by simp [hl]) fun k h1 h2=>by simpa using h k (by simpa using h1) (by simpa using h2)
 have a1:l.any p=m.any q:=by
  have x1:(l.map p).any id=l.any p:=by rw [List.any_map];rfl
  have x2:(m.map q).any id=m.any q:=by rw [List.any_map];rfl
  rw [← x1,← x2,e]
 have a2:l.findIdx p=m.findIdx q:=by
  have x1:(l.map p).findIdx id=l.findIdx p:=by rw [List.findIdx_map];rfl
  have x2:(m.map q).findIdx id=m.findIdx q:=by rw [List.findIdx_map];rfl
  rw [← x1,← x2,e]
 unfold idxOf
 rw [a1,a2]
 exact ⟨rfl,rfl⟩
theorem SlStr_uniq {w:World} {A:Option Addr} {n:Nat} {l l':List ByteArray} (h:Sl w 1 encStr A n l) (h':Sl w 1 encStr A n l') : l=l':=by
 have e1:=h.len
 have e2:=h'.len
 refine List.ext_getElem (by omega) fun k h1 h2 => ?_
 have a:=h.one (i:=k) (by omega) (u := .string l[k]) rfl
 have b:=h'.one (i:=k) (by omega) (u := .string l'[k]) rfl
 rw [a] at b
 simpa using b
theorem namedP_ex (w:World) (n:ByteArray) : ∃ p:CRow→Bool,∀ x c,RdC w x c→p x=hasN n c:=by
 classical
 refine ⟨fun x=>decide (∃ c,RdC w x c∧hasN n c=true),fun x c h => ?_⟩
 cases e:hasN n c
 ·refine decide_eq_false ?_
  rintro ⟨c',h',e'⟩
  unfold hasN at e e'
  rw [SlStr_uniq h'.names h.names,e] at e'
  cases e'
 ·exact decide_eq_true ⟨c,h,e⟩
theorem namedF_ans (x:CRow) (c:KCache) (b3:Nat) (n:ByteArray) (w:World) (h3:Blk w b3 9 [.string n]) (hx:RdC w x c) (hn:x.Names.n≤9223372036854775807) :
  Ans Tryz.prog 60 ([.agg (encC x).toArray]++[.pointer (some ⟨b3,0,none⟩)]) w fun v _=>v = .bool (hasN n c):=by
 refine ans_of Tryz.func60 rfl Tryz.ntmps60 rfl ?_
 refine CW.seq (CW.region (SW.box rfl rfl fun b1 w1 hw hb1b hb1 => ?_))
 replace h3:=h3.ext hw
 have h3c:=h3.cell (i:=0) (v := .string n) rfl
 rw [add_zero] at h3c
 repeat' (first|(first|refine CW.seq ?_|refine CW.region ?_|refine CW.ret ?_)|(refine Post.seq ?_)|refine SW.nil ?_|refine SW.pure rfl rfl ?_|(show SW _ _ _ _ (⟨_,Op.fieldAddr _ _ _,_,_,_,none⟩::_) _ _;refine SW.st (st_field rfl) rfl ?_)|(show SW _ _ _ _ (⟨_,Op.load _ _,_,_,_,none⟩::_) _ _;first|refine SW.st (st_load rfl (hb1.cell (i:=0) (v := .slice x.Names.A x.Names.n x.Names.c) rfl)) rfl ?_|refine SW.st (st_load rfl h3c) rfl ?_)|(show SW _ _ _ _ (⟨_,Op.call ⟨.value (.func _),_,_⟩,_,_,_,none⟩::_) _ _;(refine SW.call rfl rfl (ContainsString_ans _ _ _ _ _ _ (hx.names.ext hw) hn) ?_;intro v w1 hw1 hv;subst hv;replace hw:=Ext.trans hw hw1;replace hb1:=hb1.ext hw1;clear hw1)))
 exact Post.ret1 rfl rfl ⟨_,rfl,hw,rfl⟩
theorem named_ans (r:SRow) (s:KSystem) (n:ByteArray) (w:World) (hr:RdS w r s) (hs:s.small) :
  Ans Tryz.prog 37 [.agg (encSys r).toArray,.string n] w fun v _=>v = .tuple #[.int .i64 (idxOf (hasN n) s.Caches),.bool (s.Caches.any (hasN n))]:=by
 refine ans_of Tryz.func37 rfl Tryz.ntmps37 rfl ?_
 obtain ⟨cs,hc⟩:=hr.caches
 obtain ⟨z1,z2⟩:=hc.len
 have m3:=hs.caches
 obtain ⟨p,hp⟩:=namedP_ex w n
 have hcong:=idxOf_congr (p:=p) (q:=hasN n) (l:=cs) (m:=s.Caches) (by omega) fun k h1 h2=>hp _ _ (hc.each.get k h1 h2)
 refine CW.seq (CW.region (SW.box rfl rfl fun b2 w1 hw hb2b hb2 => ?_))
 refine SW.box1 rfl rfl rfl fun b3 w2 hw2 hb3b hb3 => ?_
 (replace hw:=Ext.trans hw hw2;replace hb2:=hb2.ext hw2)
 repeat' (first|(first|refine CW.seq ?_|refine CW.region ?_)|(refine Post.seq ?_)|refine SW.nil ?_|refine SW.pure rfl rfl ?_|(show SW _ _ _ _ (⟨_,Op.fieldAddr _ _ _,_,_,_,none⟩::_) _ _;refine SW.st (st_field rfl) rfl ?_)|(show SW _ _ _ _ (⟨_,Op.load _ _,_,_,_,none⟩::_) _ _;refine SW.st (st_load rfl (hb2.cell (i:=6) (v := .slice r.Caches.A r.Caches.n r.Caches.c) rfl)) rfl ?_)|(refine SW.st (st_func (vs:=[.pointer (some ⟨b3,0,none⟩)]) rfl) rfl ?_))
 refine SW.call rfl rfl (IndexFuncCRow_ans _ _ _ _ _ (hc.row.ext hw) _ [.pointer (some ⟨b3,0,none⟩)] p (fun x => .agg (encC x).toArray) (fun x=>rfl) (fun x hx w1 hx1=>by
  obtain ⟨k,hk,rfl⟩:=List.getElem_of_mem hx
  have hk':k<s.Caches.length:=by omega
  have hck:=hc.each.get k hk hk'
  have q1:=(hs.each _ (List.getElem_mem hk')).names
  have q2:=hck.names.len
  rw [hp _ _ hck]
  exact namedF_ans _ _ b3 n w1 (hb3.ext hx1) (hck.ext (Ext.trans hw hx1)) (by omega)) (by omega)) fun v w4 hw4 hv => ?_
 subst hv
 rw [hcong.1]
 replace hw:=Ext.trans hw hw4
 have hge:=idxOf_ge (hasN n) s.Caches
 repeat' (first|(first|refine CW.seq ?_|refine CW.region ?_|refine CW.ret ?_)|(refine Post.seq ?_)|refine SW.nil ?_|refine SW.pure rfl rfl ?_)
 all_goals exact Post.ret2 rfl rfl rfl ⟨_,rfl,hw,by rw [hge]⟩
theorem cacheOf_ans (r:SRow) (s:KSystem) (n:ByteArray) (w:World) (hr:RdS w r s) (hs:s.small) :
  Ans Tryz.prog 20 [.agg (encSys r).toArray,.string n] w fun v _=>v = .int .i64 (idxOf (hasN n) s.Caches):=by
 refine ans_of Tryz.func20 rfl Tryz.ntmps20 rfl ?_
 refine CW.seq (CW.region (SW.box rfl rfl fun b2 w1 hw hb2b hb2 => ?_))
 obtain ⟨cs,hc⟩:=hr.caches
 obtain ⟨z1,z2⟩:=hc.len
 have m3:=hs.caches
 repeat' (first|(first|refine CW.seq ?_|refine CW.region ?_|refine CW.block ?_)|(refine Post.seq ?_)|refine SW.nil ?_|refine SW.pure rfl rfl ?_)
 refine CW.loop (fun k:Nat=>[(1,.string n),(2,.pointer (some ⟨b2,0,none⟩)),(5,.int .i64 (k:Int))])
  (fun k w'=>k≤r.Caches.n∧Ext w w'∧Blk w' b2 30 (encSys r) ∧ ∀ (j:Nat) (hj:j<s.Caches.length),j<k→hasN n s.Caches[j]=false) (fun k=>r.Caches.n-k) 0
  ⟨rfl,rfl,rfl,trivial⟩ ⟨by omega,hw,hb2,fun j hj h=>by omega⟩ ?_
 clear hw hb2
 rintro i w' ⟨hk,hw,hb2,hI⟩
 have hA:=hc.row.base
 by_cases hin:i<r.Caches.n
 ·have hic:i<cs.length:=by omega
  have hil:i<s.Caches.length:=by omega
  have hck:=hc.each.get i hic hil
  have sm:=(hs.each _ (List.getElem_mem hil)).names
  have q1:=hck.names.len
  have g0:=hc.row.fld hin (j:=0) (u := .slice cs[i].Names.A cs[i].Names.n cs[i].Names.c) rfl
  repeat' (first|(first|refine CW.seq ?_|refine CW.region ?_|refine CW.block ?_|refine CW.condd_t rfl (by omega) ?_|refine CW.skip ?_)|(refine Post.seq ?_)|refine SW.nil ?_|refine SW.pure rfl rfl ?_|(show SW _ _ _ _ (⟨_,Op.fieldAddr _ _ _,_,_,_,none⟩::_) _ _;refine SW.st (st_field rfl) rfl ?_)|(show SW _ _ _ _ (⟨_,Op.call ⟨.builtin .len,_,_⟩,_,_,_,none⟩::_) _ _;refine SW.st (st_len rfl) rfl ?_)|(show SW _ _ _ _ (⟨_,Op.load _ _,_,_,_,none⟩::_) _ _;refine SW.st (st_load rfl (hb2.cell (i:=6) (v := .slice r.Caches.A r.Caches.n r.Caches.c) rfl)) rfl ?_))
  refine CW.loop (fun k:Nat=>[(1,.string n),(2,.pointer (some ⟨b2,0,none⟩)),(5,.int .i64 (i:Int)),(6,.int .i64 (k:Int))])
   (fun k w'=>k≤cs[i].Names.n∧Ext w w'∧Blk w' b2 30 (encSys r) ∧ ∀ (j:Nat) (hj:j<s.Caches[i].Names.length),j<k→s.Caches[i].Names[j]≠n) (fun k=>cs[i].Names.n-k) 0
   ⟨rfl,rfl,rfl,rfl,trivial⟩ ⟨by omega,hw,hb2,fun j hj h=>by omega⟩ ?_
  clear hw hb2
  rintro k w' ⟨hk,hw,hb2,hJ⟩
  have hA1:=hck.names.base
  by_cases hkn:k<cs[i].Names.n
  ·have hkl:k<s.Caches[i].Names.length:=by omega
   by_cases he:s.Caches[i].Names[k]=n
   ·have hh:hasN n s.Caches[i]=true:=hasS_iff.2 (he ▸ List.getElem_mem hkl)
    repeat' (first|(first|refine CW.seq ?_|refine CW.region ?_|refine CW.block ?_|refine CW.condtr rfl (by with_reducible rfl) ?_|refine CW.condd_t rfl (by omega) ?_|refine CW.skip ?_|refine CW.ret ?_)|(first|refine Post.seq ?_|refine Post.seq_ret ?_|refine Post.blk_ret ?_|refine Post.again_ret ?_)|refine SW.nil ?_|refine SW.pure rfl rfl ?_|(show SW _ _ _ _ (⟨_,Op.fieldAddr _ _ _,_,_,_,none⟩::_) _ _;refine SW.st (st_field rfl) rfl ?_)|(show SW _ _ _ _ (⟨_,Op.indexAddr _ _ _,_,_,_,none⟩::_) _ _;refine SW.st (st_indexN rfl rfl (by assumption) (by omega)) rfl ?_)|(show SW _ _ _ _ (⟨_,Op.call ⟨.builtin .len,_,_⟩,_,_,_,none⟩::_) _ _;refine SW.st (st_len rfl) rfl ?_)|(show SW _ _ _ _ (⟨_,Op.load _ _,_,_,_,none⟩::_) _ _;first|refine SW.st (st_load rfl (hb2.cell (i:=6) (v := .slice r.Caches.A r.Caches.n r.Caches.c) rfl)) rfl ?_|refine SW.st (st_loadx hw rfl g0) rfl ?_|refine SW.st (st_loadx hw rfl (hck.names.one hkn rfl)) rfl ?_)|(refine SW.st ((st_eqStr rfl rfl).eq (congrArg Value.bool (decide_eq_true he))) rfl ?_))
    exact Post.ret1 rfl rfl ⟨_,rfl,hw,by rw [idxOf_hit hil hh hI]⟩
   ·repeat' (first|(first|refine CW.seq ?_|refine CW.region ?_|refine CW.block ?_|refine CW.condfr rfl (by with_reducible rfl) ?_|refine CW.condd_t rfl (by omega) ?_|refine CW.skip ?_)|(first|refine Post.seq ?_|refine Post.blk ?_)|refine SW.nil ?_|refine SW.pure rfl rfl ?_|(show SW _ _ _ _ (⟨_,Op.fieldAddr _ _ _,_,_,_,none⟩::_) _ _;refine SW.st (st_field rfl) rfl ?_)|(show SW _ _ _ _ (⟨_,Op.binOp _ _ _ _ _,_,_,_,none⟩::_) _ _;refine SW.st (st_add rfl rfl (by omega) (by omega)) rfl ?_)|(show SW _ _ _ _ (⟨_,Op.indexAddr _ _ _,_,_,_,none⟩::_) _ _;refine SW.st (st_indexN rfl rfl (by assumption) (by omega)) rfl ?_)|(show SW _ _ _ _ (⟨_,Op.call ⟨.builtin .len,_,_⟩,_,_,_,none⟩::_) _ _;refine SW.st (st_len rfl) rfl ?_)|(show SW _ _ _ _ (⟨_,Op.load _ _,_,_,_,none⟩::_) _ _;first|refine SW.st (st_load rfl (hb2.cell (i:=6) (v := .slice r.Caches.A r.Caches.n r.Caches.c) rfl)) rfl ?_|refine SW.st (st_loadx hw rfl g0) rfl ?_|refine SW.st (st_loadx hw rfl (hck.names.one hkn rfl)) rfl ?_)|(refine SW.st ((st_eqStr rfl rfl).eq (congrArg Value.bool (decide_eq_false he))) rfl ?_))
    exact Post.again (k+1) ⟨rfl,rfl,rfl,rfl,trivial⟩ (by omega) ⟨by omega,hw,hb2,fun j hj h=>by
     by_cases e:j=k
     ·subst e;exact he
     ·exact hJ j hj (by omega)⟩
  ·have hh:hasN n s.Caches[i]=false:=by
    cases e:hasN n s.Caches[i]
    ·rfl
    ·obtain ⟨j,hj,e⟩:=List.getElem_of_mem (hasS_iff.1 e)
     exact absurd e (hJ j hj (by omega))
   repeat' (first|(first|refine CW.seq ?_|refine CW.region ?_|refine CW.condd_f rfl (by omega) ?_|refine CW.exit ?_)|(first|refine Post.seq ?_|refine Post.seq_exit ?_|refine Post.hit ?_|refine Post.blk ?_|refine Post.again_exit ?_)|refine SW.nil ?_|refine SW.pure rfl rfl ?_|(show SW _ _ _ _ (⟨_,Op.fieldAddr _ _ _,_,_,_,none⟩::_) _ _;refine SW.st (st_field rfl) rfl ?_)|(show SW _ _ _ _ (⟨_,Op.binOp _ _ _ _ _,_,_,_,none⟩::_) _ _;refine SW.st (st_add rfl rfl (by omega) (by omega)) rfl ?_)|(show SW _ _ _ _ (⟨_,Op.indexAddr _ _ _,_,_,_,none⟩::_) _ _;refine SW.st (st_indexN rfl rfl (by assumption) (by omega)) rfl ?_)|(show SW _ _ _ _ (⟨_,Op.call ⟨.builtin .len,_,_⟩,_,_,_,none⟩::_) _ _;refine SW.st (st_len rfl) rfl ?_)|(show SW _ _ _ _ (⟨_,Op.load _ _,_,_,_,none⟩::_) _ _;first|refine SW.st (st_load rfl (hb2.cell (i:=6) (v := .slice r.Caches.A r.Caches.n r.Caches.c) rfl)) rfl ?_|refine SW.st (st_loadx hw rfl g0) rfl ?_))
   exact Post.again (i+1) ⟨rfl,rfl,rfl,trivial⟩ (by omega) ⟨by omega,hw,hb2,fun j hj h=>by
    by_cases e:j=i
    ·subst e;exact hh
    ·exact hI j hj (by omega)⟩
 ·repeat' (first|(first|refine CW.seq ?_|refine CW.region ?_|refine CW.condd_f rfl (by omega) ?_|refine CW.ret ?_|refine CW.exit ?_)|(first|refine Post.seq ?_|refine Post.seq_exit ?_|refine Post.hit ?_|refine Post.again_exit ?_)|refine SW.nil ?_|refine SW.pure rfl rfl ?_|(show SW _ _ _ _ (⟨_,Op.fieldAddr _ _ _,_,_,_,none⟩::_) _ _;refine SW.st (st_field rfl) rfl ?_)|(show SW _ _ _ _ (⟨_,Op.call ⟨.builtin .len,_,_⟩,_,_,_,none⟩::_) _ _;refine SW.st (st_len rfl) rfl ?_)|(show SW _ _ _ _ (⟨_,Op.load _ _,_,_,_,none⟩::_) _ _;refine SW.st (st_load rfl (hb2.cell (i:=6) (v := .slice r.Caches.A r.Caches.n r.Caches.c) rfl)) rfl ?_))
  exact Post.ret1 rfl rfl ⟨_,rfl,hw,by rw [(idxOf_none (fun j hj=>hI j hj (by omega))).1]⟩
open Go.RowKit
structure RestH (w:World) (lo:Nat) (m li lv:Sli) (ls:List LRow) (h:Heap) : Prop where
 mins:Own w lo 3 1 encI m.A m.n m.c h.Mins
 live:Own w lo 94 3 encBk lv.A lv.n lv.c h.Live
 lists:OwnLs w lo li ls h.Lists
section
variable {w w':World} {lo t:Nat} {m li lv:Sli} {ls:List LRow} {h:Heap}
theorem OwnH.split {r:HRow} (a:OwnH w lo r h) {z0 z1:Zone} (hz:h.Zones=[z0,z1]) : ∃ g c u0 u1 ls,r.Zones=⟨some ⟨g,0,none⟩,2,c⟩∧ZsOwn w lo g c u0 u1 (z0,z1)∧RestH w lo r.Mins r.Lists r.Live ls h:=by
 obtain ⟨zs,hzs⟩:=a.zones
 obtain ⟨ls,hls⟩:=a.lists
 have l0:=hzs.each.len
 rw [hz] at l0
 obtain ⟨u0,u1,rfl⟩:=two_of (show zs.length=2 from l0)
 have l1:=hzs.row.len
 have h0:=hzs.each.get 0 (by simp) (by simp [hz])
 have h1:=hzs.each.get 1 (by simp) (by simp [hz])
 simp only [hz] at h0 h1
 have hc : 0<r.Zones.c:=by have:=hzs.row.le;simp at l1;omega
 obtain ⟨g,rest,hA,hlo,_⟩:=hzs.row.opened hc
 refine ⟨g,r.Zones.c,u0,u1,ls,?_,⟨?_,h0,h1,hlo,hc⟩,⟨a.mins,a.live,hls⟩⟩
 ·rw [← hA]
  have:(2:Nat)=r.Zones.n:=l1
  rw [this]
 ·have:=hzs.row
  rw [hA,← l1] at this
  exact this
end
section
variable {w0 w w':World} {g b k t:Nat} {cs:List Value}
end
end Go.Proofs.YtigikedbffjeiaaGreat
