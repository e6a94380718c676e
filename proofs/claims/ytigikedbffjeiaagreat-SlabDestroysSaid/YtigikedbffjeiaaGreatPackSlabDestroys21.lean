/-
  Texts of the claim SlabDestroys, part 21: what its theorem leans on.
-/
import Derived.Test.YtigikedbffjeiaaGreatPackSlabDestroys19
import Derived.Test.YtigikedbffjeiaaGreatPackSlabDestroys18
import Derived.Test.YtigikedbffjeiaaGreatPackSlabDestroys20
import Derived.Test.YtigikedbffjeiaaGreatPackSlabDestroys4
set_option linter.unusedVariables false
set_option linter.unusedSimpArgs false
namespace Go.Proofs.YtigikedbffjeiaaGreat
open Go.RowKit
set_option maxHeartbeats 8000000 in
theorem SMay_ans (r:SRow) (s:KSystem) (w:World) (hr:RdS w r s) (hf:s.fine) :
    Ans Tryz.prog 39 [.agg (encSys r).toArray] w fun v _=>v = .bool (sysB s):=by
  refine ans_of Tryz.func39 rfl Tryz.ntmps39 rfl ?_
  refine CW.seq (CW.region (SW.box rfl rfl fun b1 w1 hw hb1b hb1 => ?_))
  obtain ⟨cs,hc⟩:=hr.caches
  obtain ⟨z1,z2⟩:=hc.len
  have wl:=hr.words.len
  have hs:=hf.small
  have m3:=hs.caches
  obtain ⟨q,hq⟩ : ∃ q,heapB s.Heap=q:=⟨_,rfl⟩
  have c1:∀ w',Ext w w'→Ans Tryz.prog 66 [.agg (encH r.Heap).toArray] w' fun v _=>v = .bool q:=fun w' hx=>by
    have:=HMay_ans r.Heap s.Heap w' (hr.heap.ext hx) hs.heap hf.zones
    rwa [hq] at this
  by_cases hgood:s.Words.length=4096∧q=true∧s.Caches.length≤20
  · obtain ⟨g1,g2,g3⟩:=hgood
    subst g2
    have hH:=heapB_iff.1 hq
    repeat' (first|(first|refine CW.seq ?_|refine CW.region ?_|refine CW.block ?_|refine CW.condd_f rfl (by omega) ?_|refine CW.skip ?_)|(refine Post.seq ?_)|refine SW.nil ?_|(show SW _ _ _ _ (⟨_,_,_,_,_,some _⟩::_) _ _;first|refine SW.want_f rfl rfl (by with_reducible rfl) ?_|refine SW.splitn_f rfl rfl rfl (by omega) ?_|refine SW.want rfl rfl ?_)|refine SW.pure rfl rfl ?_|(show SW _ _ _ _ (⟨_,Op.fieldAddr _ _ _,_,_,_,none⟩::_) _ _;refine SW.st (st_field rfl) rfl ?_)|(show SW _ _ _ _ (⟨_,Op.call ⟨.builtin .len,_,_⟩,_,_,_,none⟩::_) _ _;refine SW.st (st_len rfl) rfl ?_)|(show SW _ _ _ _ (⟨_,Op.load _ _,_,_,_,none⟩::_) _ _;first|refine SW.st (st_load rfl (hb1.cell rfl)) rfl ?_|refine SW.st (st_loads rfl rfl ((heapIn hb1))) rfl ?_)|(show SW _ _ _ _ (⟨_,Op.call ⟨.value (.func _),_,_⟩,_,_,_,none⟩::_) _ _;(refine SW.call rfl rfl (c1 _ hw) ?_;intro v w1 hw1 hv;subst hv;replace hw:=Ext.trans hw hw1;replace hb1:=hb1.ext hw1;clear hw1)))
    all_goals first|(exfalso;omega)|skip
    clear c1
    refine CW.loop (fun u:Nat×Option Addr×Nat×Option Addr×Nat=>[(1,.pointer (some ⟨b1,0,none⟩)),(3,.slice u.2.1 (namesAhead (s.Caches.take u.1)).length u.2.2.1),(4,.slice u.2.2.2.1 (slabsAhead (s.Caches.take u.1)).length u.2.2.2.2),(5,.int .i64 (u.1:Int))])
      (fun u w'=>u.1≤r.Caches.n∧Ext w w'∧Blk w' b1 30 (encSys r)∧Own w' w.heap.size 9 1 encStr u.2.1 (namesAhead (s.Caches.take u.1)).length u.2.2.1 (namesAhead (s.Caches.take u.1))∧Own w' w.heap.size 3 1 encI u.2.2.2.1 (slabsAhead (s.Caches.take u.1)).length u.2.2.2.2 (slabsAhead (s.Caches.take u.1)) ∧
        ∀ (i:Nat) (h:i<s.Caches.length),i<u.1→CacheIn s i h) (fun u=>r.Caches.n-u.1) (0,none,0,none,0)
      ⟨rfl,by simp [namesAhead];rfl,by simp [slabsAhead];rfl,rfl,trivial⟩ ⟨by simp only;omega,hw,hb1,Own.nil_ _ _ _ _ _ _,Own.nil_ _ _ _ _ _ _,fun i h h'=>by simp only at h';omega⟩ ?_
    clear hw hb1
    rintro ⟨k,A1,c1,A2,c2⟩ w' ⟨hk,hw,hb1,hN,hS,hI⟩
    simp only at hk hN hS hI ⊢
    have hA:=hc.row.base
    by_cases hkn:k<r.Caches.n
    · have hkc:k<cs.length:=by omega
      have hkl:k<s.Caches.length:=by omega
      have hck:=hc.each.get k hkc hkl
      have sm:=hs.each _ (List.getElem_mem hkl)
      have fN:=hf.names _ (List.getElem_mem hkl)
      have q1:=hck.names.len
      have q2:=hck.slabs.len
      have q4:=sm.names
      have q5:=sm.slabs
      obtain ⟨⟨ok1,ok2⟩,ok3,ok4⟩:=ahead_ok hH k (by omega) hI
      repeat' (first|(first|refine CW.seq ?_|refine CW.region ?_|refine CW.block ?_|refine CW.condd_t rfl (by omega) ?_|refine CW.skip ?_)|(refine Post.seq ?_)|refine SW.nil ?_|refine SW.pure rfl rfl ?_|(show SW _ _ _ _ (⟨_,Op.fieldAddr _ _ _,_,_,_,none⟩::_) _ _;refine SW.st (st_field rfl) rfl ?_)|(show SW _ _ _ _ (⟨_,Op.indexAddr _ _ _,_,_,_,none⟩::_) _ _;refine SW.st (st_indexN rfl rfl (by assumption) (by omega)) rfl ?_)|(show SW _ _ _ _ (⟨_,Op.call ⟨.builtin .len,_,_⟩,_,_,_,none⟩::_) _ _;refine SW.st (st_len rfl) rfl ?_)|(show SW _ _ _ _ (⟨_,Op.load _ _,_,_,_,none⟩::_) _ _;first|refine SW.st (st_load rfl (hb1.cell rfl)) rfl ?_|refine SW.st (st_loadsx hw rfl rfl ((hc.row.all hkn))) rfl ?_))
      refine SW.alloc rfl fun b6 w1 hw1 hb6b hb6 => ?_
      skip
      refine SW.storeAgg hb6 rfl rfl rfl rfl (one_c _) fun w2 hb6' hg => ?_
      have hXX:=hw1.own hb6b hg
      have hb6w:w.heap.size≤b6:=Nat.le_trans hw.size hb6b
      replace hw:=Ext.trans hw hXX
      replace hb1:=hb1.ext hXX
      replace hN:=hN.ext hXX
      replace hS:=hS.ext hXX
      replace hb6:=hb6'
      clear hb6' hw1 hg hXX
      obtain ⟨qc,hqc⟩ : ∃ qc,cacheB s s.Caches[k]=qc:=⟨_,rfl⟩
      have cC:∀ w',Ext w w'→Ans Tryz.prog 67 [.agg (encSys r).toArray,.agg (encC cs[k]).toArray] w' fun v _=>v = .bool qc:=fun w' hx=>by
        have:=CacheMay_ans r s cs[k] s.Caches[k] w' (hr.ext hx) (hck.ext hx) hs sm hH
        rwa [hqc] at this
      cases qc
      · have hF:sysB s=false:=sysB_f fun hm=>by
          have:=cacheB_t (hm.each k hkl).may
          rw [hqc] at this
          cases this
        rw [hF]
        repeat' (first|(first|refine CW.seq ?_|refine CW.region ?_|refine CW.condt rfl ?_|refine CW.ret ?_)|(first|refine Post.seq ?_|refine Post.seq_ret ?_|refine Post.blk_ret ?_|refine Post.again_ret ?_)|refine SW.nil ?_|refine SW.pure rfl rfl ?_|(show SW _ _ _ _ (⟨_,Op.load _ _,_,_,_,none⟩::_) _ _;first|refine SW.st (st_loads rfl rfl ((fun _ _=>hb1.cell))) rfl ?_|refine SW.st (st_loads rfl rfl ((fun _ _=>hb6.cell))) rfl ?_)|(show SW _ _ _ _ (⟨_,Op.call ⟨.value (.func _),_,_⟩,_,_,_,none⟩::_) _ _;(refine SW.call rfl rfl (cC _ hw) ?_;intro v w1 hw1 hv;subst hv;replace hw:=Ext.trans hw hw1;replace hb1:=hb1.ext hw1;replace hb6:=hb6.ext hw1;replace hN:=hN.ext hw1;replace hS:=hS.ext hw1;clear hw1)))
        exact Post.ret1 rfl rfl ⟨_,rfl,hw,rfl⟩
      · have hCM:=cacheB_iff.1 hqc
        repeat' (first|(first|refine CW.seq ?_|refine CW.region ?_|refine CW.block ?_|refine CW.condf rfl ?_|refine CW.skip ?_)|(refine Post.seq ?_)|refine SW.nil ?_|refine SW.pure rfl rfl ?_|(show SW _ _ _ _ (⟨_,Op.load _ _,_,_,_,none⟩::_) _ _;first|refine SW.st (st_loads rfl rfl ((fun _ _=>hb1.cell))) rfl ?_|refine SW.st (st_loads rfl rfl ((fun _ _=>hb6.cell))) rfl ?_)|(show SW _ _ _ _ (⟨_,Op.call ⟨.value (.func _),_,_⟩,_,_,_,none⟩::_) _ _;(refine SW.call rfl rfl (cC _ hw) ?_;intro v w1 hw1 hv;subst hv;replace hw:=Ext.trans hw hw1;replace hb1:=hb1.ext hw1;replace hb6:=hb6.ext hw1;replace hN:=hN.ext hw1;replace hS:=hS.ext hw1;clear hw1)))
        clear cC
        obtain ⟨acc,hacc⟩ : ∃ acc,namesAhead (s.Caches.take k)=acc:=⟨_,rfl⟩
        rw [hacc] at hN ok1 ok2 ⊢
        obtain ⟨sac,hsac⟩ : ∃ sac,slabsAhead (s.Caches.take k)=sac:=⟨_,rfl⟩
        rw [hsac] at hS ok3 ok4 ⊢
        refine CW.loop (fun j:Nat=>[(1,.pointer (some ⟨b1,0,none⟩)),(3,.slice A1 acc.length c1),(4,.slice A2 sac.length c2),(5,.int .i64 (k:Int)),(6,.pointer (some ⟨b6,0,none⟩)),(7,.int .i64 (j:Int))])
          (fun j w'=>j≤k∧Ext w w'∧Blk w' b1 30 (encSys r)∧Blk w' b6 44 (encC cs[k])∧Own w' w.heap.size 9 1 encStr A1 acc.length c1 acc∧Own w' w.heap.size 3 1 encI A2 sac.length c2 sac ∧ ∀ (i:Nat) (h:i<k),i<j→(s.Caches[i]'(by omega)).Size≠s.Caches[k].Size) (fun j=>k-j) 0
          ⟨rfl,rfl,rfl,rfl,rfl,rfl,trivial⟩ ⟨by omega,hw,hb1,hb6,hN,hS,fun i h h'=>by omega⟩ ?_
        clear hw hb1 hN hS hb6
        rintro j w' ⟨hj,hw,hb1,hb6,hN,hS,hZ⟩
        by_cases hjk:j<k
        · have gZ:=hc.row.fld (show j<r.Caches.n by omega) (j:=1) (u := .int .i64 (cs[j]'(by omega)).Size) rfl
          have e1:=(hc.each.get j (by omega) (by omega)).size
          have e2:=hck.size
          by_cases hx:(s.Caches[j]'(by omega)).Size=s.Caches[k].Size
          · rw [sysB_f fun hm=>(hm.each k hkl).size j hjk hx]
            repeat' (first|(first|refine CW.seq ?_|refine CW.region ?_|refine CW.block ?_|refine CW.condd_t rfl (by omega) ?_|refine CW.skip ?_|refine CW.ret ?_|(apply CW.quiet1 mixed;(· kernel_rfl);rotate_left;intro w1 hw1;replace hw:=Ext.trans hw hw1;replace hb1:=hb1.ext hw1;replace hb6:=hb6.ext hw1;replace hN:=hN.ext hw1;replace hS:=hS.ext hw1;clear hw1;rotate_right))|(first|refine Post.seq ?_|refine Post.seq_ret ?_|refine Post.blk_ret ?_|refine Post.again_ret ?_)|refine SW.nil ?_|refine SW.pure rfl rfl ?_|(show SW _ _ _ _ (⟨_,Op.fieldAddr _ _ _,_,_,_,none⟩::_) _ _;refine SW.st (st_field rfl) rfl ?_)|(show SW _ _ _ _ (⟨_,Op.indexAddr _ _ _,_,_,_,none⟩::_) _ _;refine SW.st (st_indexN rfl rfl (by assumption) (by omega)) rfl ?_)|(show SW _ _ _ _ (⟨_,Op.load _ _,_,_,_,none⟩::_) _ _;first|refine SW.st (st_load rfl (hb1.cell rfl)) rfl ?_|refine SW.st (st_load rfl (hb6.cell rfl)) rfl ?_|refine SW.st (st_loadx hw rfl gZ) rfl ?_)|exact SW.qnil rfl)
            all_goals first|(exfalso;omega)|skip
            exact Post.ret1 rfl rfl ⟨_,rfl,hw,rfl⟩
          · repeat' (first|(first|refine CW.seq ?_|refine CW.region ?_|refine CW.block ?_|refine CW.condd_t rfl (by omega) ?_|refine CW.condd_f rfl (by omega) ?_|refine CW.skip ?_|(apply CW.quiet1 mixed;(· kernel_rfl);rotate_left;intro w1 hw1;replace hw:=Ext.trans hw hw1;replace hb1:=hb1.ext hw1;replace hb6:=hb6.ext hw1;replace hN:=hN.ext hw1;replace hS:=hS.ext hw1;clear hw1;rotate_right))|(first|refine Post.seq ?_|refine Post.blk ?_)|refine SW.nil ?_|refine SW.pure rfl rfl ?_|(show SW _ _ _ _ (⟨_,Op.fieldAddr _ _ _,_,_,_,none⟩::_) _ _;refine SW.st (st_field rfl) rfl ?_)|(show SW _ _ _ _ (⟨_,Op.binOp _ _ _ _ _,_,_,_,none⟩::_) _ _;refine SW.st (st_add rfl rfl (by omega) (by omega)) rfl ?_)|(show SW _ _ _ _ (⟨_,Op.indexAddr _ _ _,_,_,_,none⟩::_) _ _;refine SW.st (st_indexN rfl rfl (by assumption) (by omega)) rfl ?_)|(show SW _ _ _ _ (⟨_,Op.load _ _,_,_,_,none⟩::_) _ _;first|refine SW.st (st_load rfl (hb1.cell rfl)) rfl ?_|refine SW.st (st_load rfl (hb6.cell rfl)) rfl ?_|refine SW.st (st_loadx hw rfl gZ) rfl ?_)|exact SW.qnil rfl)
            all_goals first|(exfalso;omega)|skip
            exact Post.again (j+1) ⟨rfl,rfl,rfl,rfl,rfl,rfl,trivial⟩ (by omega) ⟨by omega,hw,hb1,hb6,hN,hS,fun i h h'=>by
              by_cases ei:i=j
              · subst ei;exact hx
              · exact hZ i h (by omega)⟩
        · have hsz:∀ (i:Nat) (h:i<k),(s.Caches[i]'(by omega)).Size≠s.Caches[k].Size:=fun i h=>hZ i h (by omega)
          repeat' (first|(first|refine CW.seq ?_|refine CW.region ?_|refine CW.block ?_|refine CW.condd_f rfl (by omega) ?_|refine CW.exit ?_)|(first|refine Post.seq ?_|refine Post.seq_exit ?_|refine Post.hit ?_|refine Post.again_exit ?_)|refine SW.nil ?_|refine SW.pure rfl rfl ?_)
          clear hZ
          refine CW.loop (fun u:Nat×Option Addr×Nat=>[(1,.pointer (some ⟨b1,0,none⟩)),(3,.slice u.2.1 (acc++s.Caches[k].Names.take u.1).length u.2.2),(4,.slice A2 sac.length c2),(5,.int .i64 (k:Int)),(6,.pointer (some ⟨b6,0,none⟩)),(8,.int .i64 (u.1:Int))])
            (fun u w'=>u.1≤cs[k].Names.n∧Ext w w'∧Blk w' b1 30 (encSys r)∧Blk w' b6 44 (encC cs[k])∧Own w' w.heap.size 9 1 encStr u.2.1 (acc++s.Caches[k].Names.take u.1).length u.2.2 (acc++s.Caches[k].Names.take u.1)∧Own w' w.heap.size 3 1 encI A2 sac.length c2 sac ∧
              ∀ (i:Nat) (h:i<s.Caches[k].Names.length),i<u.1→nameB s.Caches[k].Names[i]=true∧s.Caches[k].Names[i]∉acc++s.Caches[k].Names.take i∧(0<i→lessS (s.Caches[k].Names[i-1]'(by omega)) s.Caches[k].Names[i]=true)) (fun u=>cs[k].Names.n-u.1) (0,A1,c1)
            ⟨rfl,by simp;rfl,rfl,rfl,rfl,rfl,trivial⟩ ⟨by simp only;omega,hw,hb1,hb6,by simpa using hN,hS,fun i h h'=>by simp only at h';omega⟩ ?_
          clear hw hb1 hN hS hb6
          rintro ⟨j,A1,c1⟩ w' ⟨hj,hw,hb1,hb6,hN,hS,hJ⟩
          simp only at hj hN hJ ⊢
          have hA1:=hck.names.base
          by_cases hjn:j<cs[k].Names.n
          · have hjl:j<s.Caches[k].Names.length:=by omega
            obtain ⟨nm,hnm⟩ : ∃ nm,s.Caches[k].Names[j]=nm:=⟨_,rfl⟩
            have gN:=hck.names.one hjn (u := .string nm) (by rw [← hnm];rfl)
            have fnm:nm.size≤140737488351232:=by rw [← hnm];exact fN _ (List.getElem_mem hjl)
            obtain ⟨qn,hqn⟩ : ∃ qn,nameB nm=qn:=⟨_,rfl⟩
            have cNm:∀ w',Ans Tryz.prog 68 [.string nm] w' fun v _=>v = .bool qn:=fun w'=>by
              have:=nameMay_ans nm w' fnm
              rwa [hqn] at this
            have hcnt:=names_count (nodup_step (l:=s.Caches[k].Names) ok1 j (fun i h h'=>(hJ i h h').2.1)) (fun n hn=>by
              rcases List.mem_append.1 hn with hn|hn
              · exact ok2 n hn
              · obtain ⟨i,hi,rfl⟩:=List.mem_take_iff_getElem.1 hn
                exact (hJ i (by omega) (by omega)).1)
            have hnext:acc++s.Caches[k].Names.take (j+1)=(acc++s.Caches[k].Names.take j)++[nm]:=by rw [List.take_succ_eq_append_getElem hjl,hnm];simp
            have hbadN:(qn=false∨nm∈acc++s.Caches[k].Names.take j ∨ ∃ hj0 : 0<j,lessS (s.Caches[k].Names[j-1]'(by omega)) nm=false)→sysB s=false:=fun h=>sysB_f fun hm=>by
              have h1:=(hm.each k hkl).names.each j hjl
              rw [hnm,hacc] at h1
              rcases h with h|h|⟨hj0,h⟩
              · rw [hqn,h] at h1;exact absurd h1.1 (by simp)
              · exact h1.2.1 h
              · rw [h1.2.2 hj0] at h;cases h
            have go:nameB nm=true→(0<j→lessS (s.Caches[k].Names[j-1]'(by omega)) nm=true)→nm∉acc++s.Caches[k].Names.take j → ∀ (i:Nat) (h:i<s.Caches[k].Names.length),i<j+1→nameB s.Caches[k].Names[i]=true∧s.Caches[k].Names[i]∉acc++s.Caches[k].Names.take i∧(0<i→lessS (s.Caches[k].Names[i-1]'(by omega)) s.Caches[k].Names[i]=true):=fun h1 h2 h3 i h h'=>by
              by_cases ei:i=j
              · subst ei
                rw [hnm]
                exact ⟨h1,h3,h2⟩
              · exact hJ i h (by omega)
            obtain ⟨ac,hac⟩ : ∃ ac,acc++s.Caches[k].Names.take j=ac:=⟨_,rfl⟩
            rw [hac] at hN hcnt hnext hbadN go ⊢
            cases qn
            · rw [hbadN (.inl rfl)]
              repeat' (first|(first|refine CW.seq ?_|refine CW.region ?_|refine CW.block ?_|refine CW.condtr rfl (by with_reducible rfl) ?_|refine CW.condd_t rfl (by omega) ?_|refine CW.skip ?_|refine CW.ret ?_|(apply CW.quiet1 mixed;(· kernel_rfl);rotate_left;intro w1 hw1;replace hw:=Ext.trans hw hw1;replace hb1:=hb1.ext hw1;replace hb6:=hb6.ext hw1;replace hN:=hN.ext hw1;replace hS:=hS.ext hw1;clear hw1;rotate_right))|(first|refine Post.seq ?_|refine Post.seq_ret ?_|refine Post.blk_ret ?_|refine Post.again_ret ?_)|refine SW.nil ?_|(show SW _ _ _ _ (⟨_,_,_,_,_,some _⟩::_) _ _;first|refine SW.skip_u rfl rfl (by with_reducible rfl) rfl ?_|refine SW.skip rfl rfl rfl rfl ?_)|refine SW.pure rfl rfl ?_|(show SW _ _ _ _ (⟨_,Op.fieldAddr _ _ _,_,_,_,none⟩::_) _ _;refine SW.st (st_field rfl) rfl ?_)|(show SW _ _ _ _ (⟨_,Op.indexAddr _ _ _,_,_,_,none⟩::_) _ _;refine SW.st (st_indexN rfl rfl (by assumption) (by omega)) rfl ?_)|(show SW _ _ _ _ (⟨_,Op.call ⟨.builtin .len,_,_⟩,_,_,_,none⟩::_) _ _;refine SW.st (st_len rfl) rfl ?_)|(show SW _ _ _ _ (⟨_,Op.load _ _,_,_,_,none⟩::_) _ _;first|refine SW.st (st_load rfl (hb6.cell rfl)) rfl ?_|refine SW.st (st_loadx hw rfl gN) rfl ?_)|(show SW _ _ _ _ (⟨_,Op.call ⟨.value (.func _),_,_⟩,_,_,_,none⟩::_) _ _;refine SW.qcall rfl rfl (fun w1 hw1=>(cNm _)) ?_)|exact SW.qnil rfl)
              exact Post.ret1 rfl rfl ⟨_,rfl,hw,rfl⟩
            · by_cases hless : 0<j→lessS (s.Caches[k].Names[j-1]'(by omega)) nm=true
              · rcases Nat.eq_zero_or_pos j with hj0|hj0
                all_goals
                  first
                  | (have gP:=hck.names.one (show j-1<cs[k].Names.n by omega) (u := .string (s.Caches[k].Names[j-1]'(by omega))) rfl
                     have hql:(!lessS (s.Caches[k].Names[j-1]'(by omega)) nm)=false:=by rw [hless hj0];rfl)
                  | skip
                all_goals
                  repeat' (first|(first|refine CW.seq ?_|refine CW.region ?_|refine CW.block ?_|refine CW.condd_t rfl (by omega) ?_|refine CW.skip ?_)|(refine Post.seq ?_)|refine SW.nil ?_|refine SW.pure rfl rfl ?_|(show SW _ _ _ _ (⟨_,Op.fieldAddr _ _ _,_,_,_,none⟩::_) _ _;refine SW.st (st_field rfl) rfl ?_)|(show SW _ _ _ _ (⟨_,Op.call ⟨.builtin .len,_,_⟩,_,_,_,none⟩::_) _ _;refine SW.st (st_len rfl) rfl ?_)|(show SW _ _ _ _ (⟨_,Op.load _ _,_,_,_,none⟩::_) _ _;refine SW.st (st_load rfl (hb6.cell rfl)) rfl ?_))
                  (apply CW.quiet1 mixed;(· kernel_rfl);rotate_left;intro w1 hw1;replace hw:=Ext.trans hw hw1;replace hb1:=hb1.ext hw1;replace hb6:=hb6.ext hw1;replace hN:=hN.ext hw1;replace hS:=hS.ext hw1;clear hw1;rotate_right)
                  repeat' (first|(first|refine CW.seq ?_|refine CW.region ?_|refine CW.block ?_|refine CW.condfr rfl (by with_reducible rfl) ?_|refine CW.skip ?_)|(refine Post.seq ?_)|refine SW.nil ?_|(show SW _ _ _ _ (⟨_,_,_,_,_,some _⟩::_) _ _;first|refine SW.want_t rfl rfl (by with_reducible rfl) ?_|refine SW.skip_t rfl rfl (by with_reducible rfl) rfl ?_|refine SW.splitd_t rfl rfl rfl (by omega) ?_|refine SW.splitd_f rfl rfl rfl (by omega) ?_|refine SW.want rfl rfl ?_)|refine SW.pure rfl rfl ?_|(show SW _ _ _ _ (⟨_,Op.fieldAddr _ _ _,_,_,_,none⟩::_) _ _;refine SW.st (st_field rfl) rfl ?_)|(show SW _ _ _ _ (⟨_,Op.binOp _ _ _ _ _,_,_,_,none⟩::_) _ _;refine SW.st (st_sub rfl rfl (by omega) (by omega)) rfl ?_)|(show SW _ _ _ _ (⟨_,Op.indexAddr _ _ _,_,_,_,none⟩::_) _ _;first|refine SW.st (st_indexN rfl rfl (by assumption) (by omega)) rfl ?_|refine SW.st (st_indexI (j-1) rfl rfl (by assumption) (by omega) (by omega)) rfl ?_)|(show SW _ _ _ _ (⟨_,Op.load _ _,_,_,_,none⟩::_) _ _;first|refine SW.st (st_load rfl (hb6.cell rfl)) rfl ?_|refine SW.st (st_loadx hw rfl gN) rfl ?_|refine SW.st (st_loadx hw rfl gP) rfl ?_)|(show SW _ _ _ _ (⟨_,Op.call ⟨.value (.func _),_,_⟩,_,_,_,none⟩::_) _ _;refine SW.qcall rfl rfl (fun w1 hw1=>(cNm _)) ?_)|(refine SW.st ((st_leStr rfl rfl).eq (congrArg Value.bool hql)) rfl ?_)|exact SW.qnil rfl)
                  all_goals first|(exfalso;omega)|skip
                  refine CW.loop (fun i:Nat=>[(1,.pointer (some ⟨b1,0,none⟩)),(3,.slice A1 ac.length c1),(4,.slice A2 sac.length c2),(5,.int .i64 (k:Int)),(6,.pointer (some ⟨b6,0,none⟩)),(8,.int .i64 (j:Int)),(9,.int .i64 (i:Int))])
                    (fun i w'=>i≤ac.length∧Ext w w'∧Blk w' b1 30 (encSys r)∧Blk w' b6 44 (encC cs[k])∧Own w' w.heap.size 9 1 encStr A1 ac.length c1 ac∧Own w' w.heap.size 3 1 encI A2 sac.length c2 sac ∧ ∀ (m:Nat) (h:m<ac.length),m<i→ac[m]≠nm) (fun i=>ac.length-i) 0
                    ⟨rfl,rfl,rfl,rfl,rfl,rfl,rfl,trivial⟩ ⟨by omega,hw,hb1,hb6,hN,hS,fun m h h'=>by omega⟩ ?_
                  clear hw hb1 hN hS hb6
                  rintro i w' ⟨hi,hw,hb1,hb6,hN,hS,hM⟩
                  have hA3:=hN.sl.base
                  by_cases hin:i<ac.length
                  · have gM:=hN.sl.one hin (u := .string ac[i]) rfl
                    by_cases hx:ac[i]=nm
                    · have hdx:=decide_eq_true hx
                      rw [hbadN (.inr (.inl (hx ▸ List.getElem_mem hin)))]
                      repeat' (first|(first|refine CW.seq ?_|refine CW.region ?_|refine CW.block ?_|refine CW.condtr rfl (by with_reducible rfl) ?_|refine CW.condd_t rfl (by omega) ?_|refine CW.skip ?_|refine CW.ret ?_|(apply CW.quiet1 mixed;(· kernel_rfl);rotate_left;intro w1 hw1;replace hw:=Ext.trans hw hw1;replace hb1:=hb1.ext hw1;replace hb6:=hb6.ext hw1;replace hN:=hN.ext hw1;replace hS:=hS.ext hw1;clear hw1;rotate_right))|(first|refine Post.seq ?_|refine Post.seq_ret ?_|refine Post.blk_ret ?_|refine Post.again_ret ?_)|refine SW.nil ?_|refine SW.pure rfl rfl ?_|(show SW _ _ _ _ (⟨_,Op.fieldAddr _ _ _,_,_,_,none⟩::_) _ _;refine SW.st (st_field rfl) rfl ?_)|(show SW _ _ _ _ (⟨_,Op.indexAddr _ _ _,_,_,_,none⟩::_) _ _;refine SW.st (st_indexN rfl rfl (by assumption) (by omega)) rfl ?_)|(show SW _ _ _ _ (⟨_,Op.call ⟨.builtin .len,_,_⟩,_,_,_,none⟩::_) _ _;refine SW.st (st_len rfl) rfl ?_)|(show SW _ _ _ _ (⟨_,Op.load _ _,_,_,_,none⟩::_) _ _;first|refine SW.st (st_load rfl (hb6.cell rfl)) rfl ?_|refine SW.st (st_loadx hw rfl gN) rfl ?_|refine SW.st (st_load rfl gM) rfl ?_)|(refine SW.st ((st_eqStr rfl rfl).eq (congrArg Value.bool hdx)) rfl ?_)|exact SW.qnil rfl)
                      exact Post.ret1 rfl rfl ⟨_,rfl,hw,rfl⟩
                    · have hdx:=decide_eq_false hx
                      repeat' (first|(first|refine CW.seq ?_|refine CW.region ?_|refine CW.block ?_|refine CW.condfr rfl (by with_reducible rfl) ?_|refine CW.condd_t rfl (by omega) ?_|refine CW.skip ?_|(apply CW.quiet1 mixed;(· kernel_rfl);rotate_left;intro w1 hw1;replace hw:=Ext.trans hw hw1;replace hb1:=hb1.ext hw1;replace hb6:=hb6.ext hw1;replace hN:=hN.ext hw1;replace hS:=hS.ext hw1;clear hw1;rotate_right))|(first|refine Post.seq ?_|refine Post.blk ?_)|refine SW.nil ?_|refine SW.pure rfl rfl ?_|(show SW _ _ _ _ (⟨_,Op.fieldAddr _ _ _,_,_,_,none⟩::_) _ _;refine SW.st (st_field rfl) rfl ?_)|(show SW _ _ _ _ (⟨_,Op.binOp _ _ _ _ _,_,_,_,none⟩::_) _ _;refine SW.st (st_add rfl rfl (by omega) (by omega)) rfl ?_)|(show SW _ _ _ _ (⟨_,Op.indexAddr _ _ _,_,_,_,none⟩::_) _ _;refine SW.st (st_indexN rfl rfl (by assumption) (by omega)) rfl ?_)|(show SW _ _ _ _ (⟨_,Op.call ⟨.builtin .len,_,_⟩,_,_,_,none⟩::_) _ _;refine SW.st (st_len rfl) rfl ?_)|(show SW _ _ _ _ (⟨_,Op.load _ _,_,_,_,none⟩::_) _ _;first|refine SW.st (st_load rfl (hb6.cell rfl)) rfl ?_|refine SW.st (st_loadx hw rfl gN) rfl ?_|refine SW.st (st_load rfl gM) rfl ?_)|(refine SW.st ((st_eqStr rfl rfl).eq (congrArg Value.bool hdx)) rfl ?_)|exact SW.qnil rfl)
                      exact Post.again (i+1) ⟨rfl,rfl,rfl,rfl,rfl,rfl,rfl,trivial⟩ (by omega) ⟨by omega,hw,hb1,hb6,hN,hS,fun m h h'=>by
                        by_cases em:m=i
                        · subst em;exact hx
                        · exact hM m h (by omega)⟩
                  · have hnot:nm∉ac:=fun hm=>by
                      obtain ⟨m,hm1,hm2⟩:=List.getElem_of_mem hm
                      exact hM m hm1 (by omega) hm2
                    repeat' (first|(first|refine CW.seq ?_|refine CW.region ?_|refine CW.condd_f rfl (by omega) ?_|refine CW.exit ?_)|(first|refine Post.seq ?_|refine Post.seq_exit ?_|refine Post.hit ?_|refine Post.again_exit ?_)|refine SW.nil ?_|refine SW.pure rfl rfl ?_|(show SW _ _ _ _ (⟨_,Op.fieldAddr _ _ _,_,_,_,none⟩::_) _ _;refine SW.st (st_field rfl) rfl ?_)|(show SW _ _ _ _ (⟨_,Op.indexAddr _ _ _,_,_,_,none⟩::_) _ _;refine SW.st (st_indexN rfl rfl (by assumption) (by omega)) rfl ?_)|(show SW _ _ _ _ (⟨_,Op.call ⟨.builtin .len,_,_⟩,_,_,_,none⟩::_) _ _;refine SW.st (st_len rfl) rfl ?_)|(show SW _ _ _ _ (⟨_,Op.load _ _,_,_,_,none⟩::_) _ _;first|refine SW.st (st_load rfl (hb6.cell rfl)) rfl ?_|refine SW.st (st_loadx hw rfl gN) rfl ?_))
                    refine SW.build1 rfl rfl rfl rfl rfl fun b w1 hw1 hb hB => ?_
                    (replace hw:=Ext.trans hw hw1;replace hb1:=hb1.ext hw1;replace hb6:=hb6.ext hw1;replace hN:=hN.ext hw1;replace hS:=hS.ext hw1)
                    refine SW.append hN (Blk.sl1 (enc:=encStr) hB) hw.size rfl rfl rfl (by omega) (by omega) fun A3 c3 w2 hN1 hg => ?_
                    replace hw:=ext_grown hw hg (Nat.le_refl _) hN.row_ge
                    replace hb1:=hb1.grown hg (fun e=>hN.ne_blk hb1 rfl e.symm)
                    replace hb6:=hb6.grown hg (fun e=>hN.ne_blk hb6 rfl e.symm)
                    replace hS:=hS.grown hg (hS.ne_own hN rfl)
                    repeat' (first|(refine CW.region ?_)|(first|refine Post.seq ?_|refine Post.blk ?_)|refine SW.nil ?_|refine SW.pure rfl rfl ?_|(show SW _ _ _ _ (⟨_,Op.binOp _ _ _ _ _,_,_,_,none⟩::_) _ _;refine SW.st (st_add rfl rfl (by omega) (by omega)) rfl ?_))
                    exact Post.again (j+1,A3,c3) ⟨rfl,by simp only [hnext,List.length_append];rfl,rfl,rfl,rfl,rfl,trivial⟩ (by simp only;omega) ⟨by simp only;omega,hw,hb1,hb6,by simp only [hnext,List.length_append];exact hN1,hS,go hqn hless hnot⟩
              · have hj0 : 0<j:=by
                  rcases Nat.eq_zero_or_pos j with h|h
                  · exact absurd (fun h'=>by omega) hless
                  · exact h
                have hl0:lessS (s.Caches[k].Names[j-1]'(by omega)) nm=false:=by
                  cases e:lessS (s.Caches[k].Names[j-1]'(by omega)) nm
                  · rfl
                  · exact absurd (fun _=>e) hless
                have gP:=hck.names.one (show j-1<cs[k].Names.n by omega) (u := .string (s.Caches[k].Names[j-1]'(by omega))) rfl
                have hql:(!lessS (s.Caches[k].Names[j-1]'(by omega)) nm)=true:=by rw [hl0];rfl
                rw [hbadN (.inr (.inr ⟨hj0,hl0⟩))]
                repeat' (first|(first|refine CW.seq ?_|refine CW.region ?_|refine CW.block ?_|refine CW.condtr rfl (by with_reducible rfl) ?_|refine CW.condd_t rfl (by omega) ?_|refine CW.skip ?_|refine CW.ret ?_|(apply CW.quiet1 mixed;(· kernel_rfl);rotate_left;intro w1 hw1;replace hw:=Ext.trans hw hw1;replace hb1:=hb1.ext hw1;replace hb6:=hb6.ext hw1;replace hN:=hN.ext hw1;replace hS:=hS.ext hw1;clear hw1;rotate_right))|(first|refine Post.seq ?_|refine Post.seq_ret ?_|refine Post.blk_ret ?_|refine Post.again_ret ?_)|refine SW.nil ?_|(show SW _ _ _ _ (⟨_,_,_,_,_,some _⟩::_) _ _;first|refine SW.want_t rfl rfl (by with_reducible rfl) ?_|refine SW.splitd_t rfl rfl rfl (by omega) ?_|refine SW.want rfl rfl ?_)|refine SW.pure rfl rfl ?_|(show SW _ _ _ _ (⟨_,Op.fieldAddr _ _ _,_,_,_,none⟩::_) _ _;refine SW.st (st_field rfl) rfl ?_)|(show SW _ _ _ _ (⟨_,Op.binOp _ _ _ _ _,_,_,_,none⟩::_) _ _;refine SW.st (st_sub rfl rfl (by omega) (by omega)) rfl ?_)|(show SW _ _ _ _ (⟨_,Op.indexAddr _ _ _,_,_,_,none⟩::_) _ _;first|refine SW.st (st_indexN rfl rfl (by assumption) (by omega)) rfl ?_|refine SW.st (st_indexI (j-1) rfl rfl (by assumption) (by omega) (by omega)) rfl ?_)|(show SW _ _ _ _ (⟨_,Op.call ⟨.builtin .len,_,_⟩,_,_,_,none⟩::_) _ _;refine SW.st (st_len rfl) rfl ?_)|(show SW _ _ _ _ (⟨_,Op.load _ _,_,_,_,none⟩::_) _ _;first|refine SW.st (st_load rfl (hb6.cell rfl)) rfl ?_|refine SW.st (st_loadx hw rfl gN) rfl ?_|refine SW.st (st_loadx hw rfl gP) rfl ?_)|(show SW _ _ _ _ (⟨_,Op.call ⟨.value (.func _),_,_⟩,_,_,_,none⟩::_) _ _;refine SW.qcall rfl rfl (fun w1 hw1=>(cNm _)) ?_)|(refine SW.st ((st_leStr rfl rfl).eq (congrArg Value.bool hql)) rfl ?_)|exact SW.qnil rfl)
                all_goals first|(exfalso;omega)|skip
                exact Post.ret1 rfl rfl ⟨_,rfl,hw,rfl⟩
          · have hNin:NamesIn (namesAhead (s.Caches.take k)) s.Caches[k].Names:=⟨fun i h=>by rw [hacc];exact hJ i h (by omega)⟩
            rw [List.take_of_length_le (show s.Caches[k].Names.length≤j by omega)] at hN ⊢
            rw [← hacc,← namesAhead_take s.Caches k hkl] at hN ⊢
            repeat' (first|(first|refine CW.seq ?_|refine CW.region ?_|refine CW.block ?_|refine CW.condd_f rfl (by omega) ?_|refine CW.exit ?_)|(first|refine Post.seq ?_|refine Post.seq_exit ?_|refine Post.hit ?_|refine Post.again_exit ?_)|refine SW.nil ?_|refine SW.pure rfl rfl ?_|(show SW _ _ _ _ (⟨_,Op.fieldAddr _ _ _,_,_,_,none⟩::_) _ _;refine SW.st (st_field rfl) rfl ?_)|(show SW _ _ _ _ (⟨_,Op.call ⟨.builtin .len,_,_⟩,_,_,_,none⟩::_) _ _;refine SW.st (st_len rfl) rfl ?_)|(show SW _ _ _ _ (⟨_,Op.load _ _,_,_,_,none⟩::_) _ _;refine SW.st (st_load rfl (hb6.cell rfl)) rfl ?_))
            clear hJ
            obtain ⟨nl,hnl⟩ : ∃ nl,namesAhead (s.Caches.take (k+1))=nl:=⟨_,rfl⟩
            rw [hnl] at hN ⊢
            refine CW.loop (fun u:Nat×Option Addr×Nat=>[(1,.pointer (some ⟨b1,0,none⟩)),(3,.slice A1 nl.length c1),(4,.slice u.2.1 (sac++(s.Caches[k].Slabs.take u.1).map fun x=>x.At).length u.2.2),(5,.int .i64 (k:Int)),(6,.pointer (some ⟨b6,0,none⟩)),(10,.int .i64 (u.1:Int))])
              (fun u w'=>u.1≤cs[k].Slabs.n∧Ext w w'∧Blk w' b1 30 (encSys r)∧Blk w' b6 44 (encC cs[k])∧Own w' w.heap.size 9 1 encStr A1 nl.length c1 nl∧Own w' w.heap.size 3 1 encI u.2.1 (sac++(s.Caches[k].Slabs.take u.1).map fun x=>x.At).length u.2.2 (sac++(s.Caches[k].Slabs.take u.1).map fun x=>x.At) ∧
                ∀ (i:Nat) (h:i<s.Caches[k].Slabs.length),i<u.1→s.Caches[k].Slabs[i].At∉sac++(s.Caches[k].Slabs.take i).map fun x=>x.At) (fun u=>cs[k].Slabs.n-u.1) (0,A2,c2)
              ⟨rfl,rfl,by simp;rfl,rfl,rfl,rfl,trivial⟩ ⟨by simp only;omega,hw,hb1,hb6,hN,by simpa using hS,fun i h h'=>by simp only at h';omega⟩ ?_
            clear hw hb1 hN hS hb6
            rintro ⟨j,A2,c2⟩ w' ⟨hj,hw,hb1,hb6,hN,hS,hJ⟩
            simp only at hj hS hJ ⊢
            have hA1:=hck.slabs.base
            by_cases hjn:j<cs[k].Slabs.n
            · have hjl:j<s.Caches[k].Slabs.length:=by omega
              obtain ⟨t,ht⟩ : ∃ t,s.Caches[k].Slabs[j].At=t:=⟨_,rfl⟩
              have gT:=hck.slabs.fld hjn (j:=0) (u := .int .i64 t) (by rw [← ht];rfl)
              have hcnt:=ats_count (nodup_step (l:=s.Caches[k].Slabs.map fun x=>x.At) ok3 j (fun i h h'=>by
                have:=hJ i (by simpa using h) h'
                simpa [List.map_take] using this)) (fun n hn=>by
                rcases List.mem_append.1 hn with hn|hn
                · exact ok4 n hn
                · obtain ⟨x,hx,rfl⟩:=List.mem_map.1 (List.mem_of_mem_take hn)
                  exact hCM.ats hH x hx)
              rw [← List.map_take] at hcnt
              have hnext:(sac++(s.Caches[k].Slabs.take (j+1)).map fun x=>x.At)=(sac++(s.Caches[k].Slabs.take j).map fun x=>x.At)++[t]:=by
                rw [List.take_succ_eq_append_getElem hjl,← ht,List.map_append,List.append_assoc]
                rfl
              have hbadT:t∈(sac++(s.Caches[k].Slabs.take j).map fun x=>x.At)→sysB s=false:=fun h=>sysB_f fun hm=>by
                have h1:=(hm.each k hkl).slabs j hjl
                rw [ht,hsac] at h1
                exact h1 h
              have go:t∉(sac++(s.Caches[k].Slabs.take j).map fun x=>x.At) → ∀ (i:Nat) (h:i<s.Caches[k].Slabs.length),i<j+1→s.Caches[k].Slabs[i].At∉sac++(s.Caches[k].Slabs.take i).map fun x=>x.At:=fun h1 i h h'=>by
                by_cases ei:i=j
                · subst ei;rw [ht];exact h1
                · exact hJ i h (by omega)
              obtain ⟨ac,hac⟩ : ∃ ac,(sac++(s.Caches[k].Slabs.take j).map fun x=>x.At)=ac:=⟨_,rfl⟩
              rw [hac] at hS hcnt hnext hbadT go ⊢
              repeat' (first|(first|refine CW.seq ?_|refine CW.region ?_|refine CW.block ?_|refine CW.condd_t rfl (by omega) ?_|refine CW.skip ?_)|(refine Post.seq ?_)|refine SW.nil ?_|refine SW.pure rfl rfl ?_|(show SW _ _ _ _ (⟨_,Op.fieldAddr _ _ _,_,_,_,none⟩::_) _ _;refine SW.st (st_field rfl) rfl ?_)|(show SW _ _ _ _ (⟨_,Op.call ⟨.builtin .len,_,_⟩,_,_,_,none⟩::_) _ _;refine SW.st (st_len rfl) rfl ?_)|(show SW _ _ _ _ (⟨_,Op.load _ _,_,_,_,none⟩::_) _ _;refine SW.st (st_load rfl (hb6.cell rfl)) rfl ?_))
              refine CW.loop (fun i:Nat=>[(1,.pointer (some ⟨b1,0,none⟩)),(3,.slice A1 nl.length c1),(4,.slice A2 ac.length c2),(5,.int .i64 (k:Int)),(6,.pointer (some ⟨b6,0,none⟩)),(10,.int .i64 (j:Int)),(11,.int .i64 (i:Int))])
                (fun i w'=>i≤ac.length∧Ext w w'∧Blk w' b1 30 (encSys r)∧Blk w' b6 44 (encC cs[k])∧Own w' w.heap.size 9 1 encStr A1 nl.length c1 nl∧Own w' w.heap.size 3 1 encI A2 ac.length c2 ac ∧ ∀ (m:Nat) (h:m<ac.length),m<i→ac[m]≠t) (fun i=>ac.length-i) 0
                ⟨rfl,rfl,rfl,rfl,rfl,rfl,rfl,trivial⟩ ⟨by omega,hw,hb1,hb6,hN,hS,fun m h h'=>by omega⟩ ?_
              clear hw hb1 hN hS hb6
              rintro i w' ⟨hi,hw,hb1,hb6,hN,hS,hM⟩
              have hA3:=hS.sl.base
              by_cases hin:i<ac.length
              · have gM:=hS.sl.one hin (u := .int .i64 ac[i]) rfl
                by_cases hx:ac[i]=t
                · rw [hbadT (hx ▸ List.getElem_mem hin)]
                  repeat' (first|(first|refine CW.seq ?_|refine CW.region ?_|refine CW.block ?_|refine CW.condd_t rfl (by omega) ?_|refine CW.skip ?_|refine CW.ret ?_|(apply CW.quiet1 mixed;(· kernel_rfl);rotate_left;intro w1 hw1;replace hw:=Ext.trans hw hw1;replace hb1:=hb1.ext hw1;replace hb6:=hb6.ext hw1;replace hN:=hN.ext hw1;replace hS:=hS.ext hw1;clear hw1;rotate_right))|(first|refine Post.seq ?_|refine Post.seq_ret ?_|refine Post.blk_ret ?_|refine Post.again_ret ?_)|refine SW.nil ?_|refine SW.pure rfl rfl ?_|(show SW _ _ _ _ (⟨_,Op.fieldAddr _ _ _,_,_,_,none⟩::_) _ _;refine SW.st (st_field rfl) rfl ?_)|(show SW _ _ _ _ (⟨_,Op.indexAddr _ _ _,_,_,_,none⟩::_) _ _;refine SW.st (st_indexN rfl rfl (by assumption) (by omega)) rfl ?_)|(show SW _ _ _ _ (⟨_,Op.call ⟨.builtin .len,_,_⟩,_,_,_,none⟩::_) _ _;refine SW.st (st_len rfl) rfl ?_)|(show SW _ _ _ _ (⟨_,Op.load _ _,_,_,_,none⟩::_) _ _;first|refine SW.st (st_load rfl (hb6.cell rfl)) rfl ?_|refine SW.st (st_loadx hw rfl gT) rfl ?_|refine SW.st (st_load rfl gM) rfl ?_)|exact SW.qnil rfl)
                  all_goals first|(exfalso;omega)|skip
                  exact Post.ret1 rfl rfl ⟨_,rfl,hw,rfl⟩
                · repeat' (first|(first|refine CW.seq ?_|refine CW.region ?_|refine CW.block ?_|refine CW.condd_t rfl (by omega) ?_|refine CW.condd_f rfl (by omega) ?_|refine CW.skip ?_|(apply CW.quiet1 mixed;(· kernel_rfl);rotate_left;intro w1 hw1;replace hw:=Ext.trans hw hw1;replace hb1:=hb1.ext hw1;replace hb6:=hb6.ext hw1;replace hN:=hN.ext hw1;replace hS:=hS.ext hw1;clear hw1;rotate_right))|(first|refine Post.seq ?_|refine Post.blk ?_)|refine SW.nil ?_|refine SW.pure rfl rfl ?_|(show SW _ _ _ _ (⟨_,Op.fieldAddr _ _ _,_,_,_,none⟩::_) _ _;refine SW.st (st_field rfl) rfl ?_)|(show SW _ _ _ _ (⟨_,Op.binOp _ _ _ _ _,_,_,_,none⟩::_) _ _;refine SW.st (st_add rfl rfl (by omega) (by omega)) rfl ?_)|(show SW _ _ _ _ (⟨_,Op.indexAddr _ _ _,_,_,_,none⟩::_) _ _;refine SW.st (st_indexN rfl rfl (by assumption) (by omega)) rfl ?_)|(show SW _ _ _ _ (⟨_,Op.call ⟨.builtin .len,_,_⟩,_,_,_,none⟩::_) _ _;refine SW.st (st_len rfl) rfl ?_)|(show SW _ _ _ _ (⟨_,Op.load _ _,_,_,_,none⟩::_) _ _;first|refine SW.st (st_load rfl (hb6.cell rfl)) rfl ?_|refine SW.st (st_loadx hw rfl gT) rfl ?_|refine SW.st (st_load rfl gM) rfl ?_)|exact SW.qnil rfl)
                  all_goals first|(exfalso;omega)|skip
                  exact Post.again (i+1) ⟨rfl,rfl,rfl,rfl,rfl,rfl,rfl,trivial⟩ (by omega) ⟨by omega,hw,hb1,hb6,hN,hS,fun m h h'=>by
                    by_cases em:m=i
                    · subst em;exact hx
                    · exact hM m h (by omega)⟩
              · have hnot:t∉ac:=fun hm=>by
                  obtain ⟨m,hm1,hm2⟩:=List.getElem_of_mem hm
                  exact hM m hm1 (by omega) hm2
                repeat' (first|(first|refine CW.seq ?_|refine CW.region ?_|refine CW.condd_f rfl (by omega) ?_|refine CW.exit ?_)|(first|refine Post.seq ?_|refine Post.seq_exit ?_|refine Post.hit ?_|refine Post.again_exit ?_)|refine SW.nil ?_|refine SW.pure rfl rfl ?_|(show SW _ _ _ _ (⟨_,Op.fieldAddr _ _ _,_,_,_,none⟩::_) _ _;refine SW.st (st_field rfl) rfl ?_)|(show SW _ _ _ _ (⟨_,Op.indexAddr _ _ _,_,_,_,none⟩::_) _ _;refine SW.st (st_indexN rfl rfl (by assumption) (by omega)) rfl ?_)|(show SW _ _ _ _ (⟨_,Op.call ⟨.builtin .len,_,_⟩,_,_,_,none⟩::_) _ _;refine SW.st (st_len rfl) rfl ?_)|(show SW _ _ _ _ (⟨_,Op.load _ _,_,_,_,none⟩::_) _ _;first|refine SW.st (st_load rfl (hb6.cell rfl)) rfl ?_|refine SW.st (st_loadx hw rfl gT) rfl ?_))
                refine SW.build1 rfl rfl rfl rfl rfl fun b w1 hw1 hb hB => ?_
                (replace hw:=Ext.trans hw hw1;replace hb1:=hb1.ext hw1;replace hb6:=hb6.ext hw1;replace hN:=hN.ext hw1;replace hS:=hS.ext hw1)
                refine SW.append hS (Blk.sl1 (enc:=encI) hB) hw.size rfl rfl rfl (by omega) (by omega) fun A3 c3 w2 hS1 hg => ?_
                replace hw:=ext_grown hw hg (Nat.le_refl _) hS.row_ge
                replace hb1:=hb1.grown hg (fun e=>hS.ne_blk hb1 rfl e.symm)
                replace hb6:=hb6.grown hg (fun e=>hS.ne_blk hb6 rfl e.symm)
                replace hN:=hN.grown hg (hN.ne_own hS rfl)
                repeat' (first|(refine CW.region ?_)|(first|refine Post.seq ?_|refine Post.blk ?_)|refine SW.nil ?_|refine SW.pure rfl rfl ?_|(show SW _ _ _ _ (⟨_,Op.binOp _ _ _ _ _,_,_,_,none⟩::_) _ _;refine SW.st (st_add rfl rfl (by omega) (by omega)) rfl ?_))
                exact Post.again (j+1,A3,c3) ⟨rfl,rfl,by simp only [hnext,List.length_append];rfl,rfl,rfl,rfl,trivial⟩ (by simp only;omega) ⟨by simp only;omega,hw,hb1,hb6,hN,by simp only [hnext,List.length_append];exact hS1,go hnot⟩
            · rw [List.take_of_length_le (show s.Caches[k].Slabs.length≤j by omega),← hsac,← slabsAhead_take s.Caches k hkl] at hS ⊢
              rw [← hnl] at hN ⊢
              repeat' (first|(first|refine CW.seq ?_|refine CW.region ?_|refine CW.condd_f rfl (by omega) ?_|refine CW.exit ?_)|(first|refine Post.seq ?_|refine Post.seq_exit ?_|refine Post.hit ?_|refine Post.blk ?_|refine Post.again_exit ?_)|refine SW.nil ?_|refine SW.pure rfl rfl ?_|(show SW _ _ _ _ (⟨_,Op.fieldAddr _ _ _,_,_,_,none⟩::_) _ _;refine SW.st (st_field rfl) rfl ?_)|(show SW _ _ _ _ (⟨_,Op.binOp _ _ _ _ _,_,_,_,none⟩::_) _ _;refine SW.st (st_add rfl rfl (by omega) (by omega)) rfl ?_)|(show SW _ _ _ _ (⟨_,Op.call ⟨.builtin .len,_,_⟩,_,_,_,none⟩::_) _ _;refine SW.st (st_len rfl) rfl ?_)|(show SW _ _ _ _ (⟨_,Op.load _ _,_,_,_,none⟩::_) _ _;refine SW.st (st_load rfl (hb6.cell rfl)) rfl ?_))
              exact Post.again (k+1,A1,c1,A2,c2) ⟨rfl,rfl,rfl,rfl,trivial⟩ (by simp only;omega) ⟨by simp only;omega,hw,hb1,hN,hS,fun i h h'=>by
                simp only at h'
                by_cases ei:i=k
                · subst ei
                  exact ⟨hCM,hsz,hNin,fun i h=>by rw [hsac];exact hJ i h (by omega)⟩
                · exact hI i h (by omega)⟩
    · rw [sysB_t ⟨g1,hH,g3,fun i h=>hI i h (by omega)⟩]
      repeat' (first|(first|refine CW.seq ?_|refine CW.region ?_|refine CW.condd_f rfl (by omega) ?_|refine CW.ret ?_|refine CW.exit ?_)|(first|refine Post.seq ?_|refine Post.seq_exit ?_|refine Post.hit ?_|refine Post.again_exit ?_)|refine SW.nil ?_|refine SW.pure rfl rfl ?_|(show SW _ _ _ _ (⟨_,Op.fieldAddr _ _ _,_,_,_,none⟩::_) _ _;refine SW.st (st_field rfl) rfl ?_)|(show SW _ _ _ _ (⟨_,Op.call ⟨.builtin .len,_,_⟩,_,_,_,none⟩::_) _ _;refine SW.st (st_len rfl) rfl ?_)|(show SW _ _ _ _ (⟨_,Op.load _ _,_,_,_,none⟩::_) _ _;refine SW.st (st_load rfl (hb1.cell rfl)) rfl ?_))
      exact Post.ret1 rfl rfl ⟨_,rfl,hw,rfl⟩
  · have hF:sysB s=false:=sysB_f fun hm=>hgood ⟨hm.words,by rw [← hq];exact heapB_t hm.heap,hm.most⟩
    rw [hF]
    cases q
    all_goals simp only [true_and,Bool.false_eq_true,false_and,and_false,not_false_eq_true] at hgood
    · rcases (show s.Words.length≠4096∨s.Words.length=4096 by omega) with g|g
      all_goals
        repeat' (first|(first|refine CW.seq ?_|refine CW.region ?_|refine CW.condtr rfl (by with_reducible rfl) ?_|refine CW.ret ?_)|(first|refine Post.seq ?_|refine Post.seq_ret ?_)|refine SW.nil ?_|(show SW _ _ _ _ (⟨_,_,_,_,_,some _⟩::_) _ _;first|refine SW.want_f rfl rfl (by with_reducible rfl) ?_|refine SW.skip_f rfl rfl (by with_reducible rfl) rfl ?_|refine SW.splitn_t rfl rfl rfl (by omega) ?_|refine SW.splitn_f rfl rfl rfl (by omega) ?_|refine SW.skip rfl rfl rfl rfl ?_)|refine SW.pure rfl rfl ?_|(show SW _ _ _ _ (⟨_,Op.fieldAddr _ _ _,_,_,_,none⟩::_) _ _;refine SW.st (st_field rfl) rfl ?_)|(show SW _ _ _ _ (⟨_,Op.call ⟨.builtin .len,_,_⟩,_,_,_,none⟩::_) _ _;refine SW.st (st_len rfl) rfl ?_)|(show SW _ _ _ _ (⟨_,Op.load _ _,_,_,_,none⟩::_) _ _;first|refine SW.st (st_load rfl (hb1.cell rfl)) rfl ?_|refine SW.st (st_loads rfl rfl ((heapIn hb1))) rfl ?_)|(show SW _ _ _ _ (⟨_,Op.call ⟨.value (.func _),_,_⟩,_,_,_,none⟩::_) _ _;(refine SW.call rfl rfl (c1 _ hw) ?_;intro v w1 hw1 hv;subst hv;replace hw:=Ext.trans hw hw1;replace hb1:=hb1.ext hw1;clear hw1)))
        all_goals first|(exfalso;omega)|skip
        exact Post.ret1 rfl rfl ⟨_,rfl,hw,rfl⟩
    · rcases (show s.Words.length≠4096∨(s.Words.length=4096∧20<s.Caches.length) by omega) with g|g
      all_goals
        repeat' (first|(first|refine CW.seq ?_|refine CW.region ?_|refine CW.condtr rfl (by with_reducible rfl) ?_|refine CW.condd_t rfl (by omega) ?_|refine CW.ret ?_)|(first|refine Post.seq ?_|refine Post.seq_ret ?_)|refine SW.nil ?_|(show SW _ _ _ _ (⟨_,_,_,_,_,some _⟩::_) _ _;first|refine SW.want_f rfl rfl (by with_reducible rfl) ?_|refine SW.skip_f rfl rfl (by with_reducible rfl) rfl ?_|refine SW.splitn_t rfl rfl rfl (by omega) ?_|refine SW.splitn_f rfl rfl rfl (by omega) ?_|refine SW.want rfl rfl ?_)|refine SW.pure rfl rfl ?_|(show SW _ _ _ _ (⟨_,Op.fieldAddr _ _ _,_,_,_,none⟩::_) _ _;refine SW.st (st_field rfl) rfl ?_)|(show SW _ _ _ _ (⟨_,Op.call ⟨.builtin .len,_,_⟩,_,_,_,none⟩::_) _ _;refine SW.st (st_len rfl) rfl ?_)|(show SW _ _ _ _ (⟨_,Op.load _ _,_,_,_,none⟩::_) _ _;first|refine SW.st (st_load rfl (hb1.cell rfl)) rfl ?_|refine SW.st (st_loads rfl rfl ((heapIn hb1))) rfl ?_)|(show SW _ _ _ _ (⟨_,Op.call ⟨.value (.func _),_,_⟩,_,_,_,none⟩::_) _ _;(refine SW.call rfl rfl (c1 _ hw) ?_;intro v w1 hw1 hv;subst hv;replace hw:=Ext.trans hw hw1;replace hb1:=hb1.ext hw1;clear hw1)))
        all_goals first|(exfalso;omega)|skip
        exact Post.ret1 rfl rfl ⟨_,rfl,hw,rfl⟩
open Go.RowKit
theorem KSystem.good.fine {s:KSystem} (h:s.good) : s.fine :=
 ⟨h.small,fun z hz=>⟨(h.heap.zones z hz).1,(h.heap.zones z hz).2.1⟩,fun c hc x hx=>(h.caches c hc).slabs x hx,fun c hc n hn=>(h.caches c hc).names n hn⟩
end Go.Proofs.YtigikedbffjeiaaGreat
