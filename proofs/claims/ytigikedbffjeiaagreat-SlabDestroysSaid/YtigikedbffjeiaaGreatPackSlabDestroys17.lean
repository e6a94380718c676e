/-
  Texts of the claim SlabDestroys, part 17: what its theorem leans on.
-/
import Derived.Test.YtigikedbffjeiaaGreatPackSlabDestroys16
import Derived.Test.YtigikedbffjeiaaGreatPackSlabDestroys9
import Derived.Test.YtigikedbffjeiaaGreatPackSlabDestroys15
import Derived.Test.YtigikedbffjeiaaGreatPackSlabDestroys1
import Derived.Maps.OwnSet
set_option linter.unusedVariables false
set_option linter.unusedSimpArgs false
namespace Go.Proofs.YtigikedbffjeiaaGreat
open Go.RowKit
theorem slabCmp_ans (x:Block) (a:Int) (w:World) : Ans Tryz.prog 93 ([.agg (encBk x).toArray,.int .i64 a]++[]) w fun v _=>v = .int .i64 (IntKind.i64.wrap (x.At-a)):=by
  refine ans_of Tryz.func93 rfl Tryz.ntmps93 rfl ?_
  refine CW.seq (CW.region (SW.box rfl rfl fun b1 w1 hw hb1b hb1 => ?_))
  repeat' (first|(first|refine CW.seq ?_|refine CW.region ?_|refine CW.ret ?_)|(refine Post.seq ?_)|refine SW.nil ?_|refine SW.pure rfl rfl ?_|(show SW _ _ _ _ (⟨_,Op.fieldAddr _ _ _,_,_,_,none⟩::_) _ _;refine SW.st (st_field rfl) rfl ?_)|(show SW _ _ _ _ (⟨_,Op.load _ _,_,_,_,none⟩::_) _ _;refine SW.st (st_load rfl (hb1.cell rfl)) rfl ?_)|(refine SW.st (st_subw rfl rfl) rfl ?_))
  exact Post.ret1 rfl rfl ⟨_,rfl,hw,rfl⟩
theorem binSlab_ans (A:Option Addr) (n c:Nat) (l:List Block) (a:Int) (w:World) (hl:Sl w 3 encBk A n l) (hu:l.Pairwise fun x y=>x.At<y.At) (hb:∀ b∈l,0≤b.At∧b.At≤255) (hn:n≤1000000000000000000) (ha : -9223372036854775808≤a∧a≤9223372036854775807) :
    Ans Tryz.prog 92 [.slice A n c,.int .i64 a,.func (.func 93) #[] #[]] w fun v _=>LiveOut l a v:=by
  by_cases hin : -1000000≤a∧a≤1000000
  · refine (BinaryBlock_ans _ _ _ _ a _ hl _ (fun x hx w' _=>by
      have:=slabCmp_ans x a w'
      have h:=hb x hx
      rwa [wrap_in (by omega) (by omega)] at this) hu hn).mono fun v w2 hw2 hv => ?_
    subst hv
    exact ⟨fun h=>by rw [h],fun h=>⟨lbOf l a,by rw [h]⟩⟩
  · have hf:foundA l a=false:=by
      unfold foundA
      split
      · rename_i h
        have:=hb _ (List.getElem_mem h)
        exact decide_eq_false (by omega)
      · rfl
    refine (BinaryNone_ans _ _ _ _ a _ hl _ (fun x=>IntKind.i64.wrap (x.At-a)) (fun x hx w' _=>slabCmp_ans x a w') (fun x hx h0=>by
      have h:=hb x hx
      have:=wrap_zero (by omega) (by omega) h0
      omega) hn).mono fun v w2 hw2 hv => ?_
    obtain ⟨i,rfl⟩:=hv
    exact ⟨fun h=>absurd (hf.symm.trans h) (by simp),fun _=>⟨i,rfl⟩⟩
theorem findF_ans (x:Slab) (b3:Nat) (t:Int) (w:World) (h3:Blk w b3 3 [.int .i64 t]) :
    Ans Tryz.prog 120 ([.agg (encSb x).toArray]++[.pointer (some ⟨b3,0,none⟩)]) w fun v _=>v = .bool (atB t x):=by
  refine ans_of Tryz.func120 rfl Tryz.ntmps120 rfl ?_
  refine CW.seq (CW.region (SW.box rfl rfl fun b1 w1 hw hb1b hb1 => ?_))
  replace h3:=h3.ext hw
  have h3c:=h3.cell (i:=0) (v := .int .i64 t) rfl
  rw [add_zero] at h3c
  repeat' (first|(first|refine CW.seq ?_|refine CW.region ?_|refine CW.ret ?_)|(refine Post.seq ?_)|refine SW.nil ?_|refine SW.pure rfl rfl ?_|(show SW _ _ _ _ (⟨_,Op.fieldAddr _ _ _,_,_,_,none⟩::_) _ _;refine SW.st (st_field rfl) rfl ?_)|(show SW _ _ _ _ (⟨_,Op.load _ _,_,_,_,none⟩::_) _ _;first|refine SW.st (st_load rfl (hb1.cell rfl)) rfl ?_|refine SW.st (st_load rfl h3c) rfl ?_))
  exact Post.ret1 rfl rfl ⟨_,rfl,hw,rfl⟩
theorem find_ans (q:CRow) (l:List Slab) (t:Int) (w:World) (hl:Sl w 3 encSb q.Slabs.A q.Slabs.n l) (hn:q.Slabs.n≤9223372036854775807) :
    Ans Tryz.prog 94 [.agg (encC q).toArray,.int .i64 t] w fun v _=>v = .int .i64 (idxOf (atB t) l):=by
  refine ans_of Tryz.func94 rfl Tryz.ntmps94 rfl ?_
  refine CW.seq (CW.region (SW.box rfl rfl fun b2 w1 hw hb2b hb2 => ?_))
  refine SW.box1 rfl rfl rfl fun b3 w2 hw2 hb3b hb3 => ?_
  (replace hw:=Ext.trans hw hw2;replace hb2:=hb2.ext hw2)
  repeat' (first|(first|refine CW.seq ?_|refine CW.region ?_)|(refine Post.seq ?_)|refine SW.nil ?_|refine SW.pure rfl rfl ?_|(show SW _ _ _ _ (⟨_,Op.fieldAddr _ _ _,_,_,_,none⟩::_) _ _;refine SW.st (st_field rfl) rfl ?_)|(show SW _ _ _ _ (⟨_,Op.load _ _,_,_,_,none⟩::_) _ _;refine SW.st (st_load rfl (hb2.cell (i:=4) (v := .slice q.Slabs.A q.Slabs.n q.Slabs.c) rfl)) rfl ?_)|(refine SW.st (st_func (vs:=[.pointer (some ⟨b3,0,none⟩)]) rfl) rfl ?_))
  refine SW.call rfl rfl (IndexFuncSlab_ans _ _ _ _ _ (hl.ext hw) _ [.pointer (some ⟨b3,0,none⟩)] (atB t) (fun x => .agg (encSb x).toArray) (fun x=>rfl) (fun x _ w1 hx1=>findF_ans x b3 t w1 (hb3.ext hx1)) hn) fun v w4 hw4 hv => ?_
  subst hv
  replace hw:=Ext.trans hw hw4
  repeat' (first|(refine CW.ret ?_)|(refine Post.seq ?_)|refine SW.nil ?_|refine SW.pure rfl rfl ?_)
  exact Post.ret1 rfl rfl ⟨_,rfl,hw,rfl⟩
theorem layout_nf {x:Int} {w:World} {f:FuncId} {o n e:Int} (h:Ans Tryz.prog f [.int .i64 x] w fun v _=>v=layoutV x) (hE:layoutF x=(o,n,e)) : Ans Tryz.prog f [.int .i64 x] w fun v _=>v = .tuple #[.int .i64 o,.int .i64 n,.int .i64 e]:=by
  refine h.mono fun v w' _ hv => ?_
  rw [hv,layoutV,hE]
set_option maxHeartbeats 4000000 in
theorem cache_ans (r:SRow) (s:KSystem) (q:CRow) (c:KCache) (w:World) (hr:RdS w r s) (hq:RdC w q c) (hs:s.small) (hcs:c.small) (hH:HeapMay s.Heap) (hat:∀ x∈c.Slabs,-9223372036854775808≤x.At∧x.At≤9223372036854775807) :
    Ans Tryz.prog 55 [.agg (encSys r).toArray,.agg (encC q).toArray] w fun v _=>v = .bool (cacheB s c):=by
  refine ans_of Tryz.func55 rfl Tryz.ntmps55 rfl ?_
  refine CW.seq (CW.region (SW.box rfl rfl fun b2 w1 hw hb2b hb2 => ?_))
  refine SW.box rfl rfl fun b3 w2 hw2 hb3b hb3 => ?_
  (replace hw:=Ext.trans hw hw2;replace hb2:=hb2.ext hw2)
  obtain ⟨o,n,e,hE⟩ : ∃ o n e,layoutF c.Size=(o,n,e):=⟨_,_,_,rfl⟩
  have eS:=hq.size
  have eP:=hq.per
  have eO:=hq.order
  have n1:=hq.names.len
  have n2:=hq.slabs.len
  have n3:=hq.active.len
  have m1:=hcs.names
  have m2:=hcs.slabs
  have m3:=hcs.active
  have eC:=hr.heap.cpus
  have wl:=hr.words.len
  have m4:=hs.words
  have hll:=hr.heap.live.len
  have m5:=hs.heap.live
  have hcap:=hq.cap
  have cL:∀ w',Ans Tryz.prog 91 [.int .i64 q.Size] w' fun v _=>v = .tuple #[.int .i64 o,.int .i64 n,.int .i64 e]:=fun w'=>layout_nf (Layout_ans q.Size w') (by rw [eS];exact hE)
  rcases (show ¬ (e=0∧c.Order=o∧c.Per=n∧0<c.Names.length∧(c.Active.length:Int)=s.Heap.Cpus)∨(e=0∧c.Order=o∧c.Per=n∧0<c.Names.length∧(c.Active.length:Int)=s.Heap.Cpus) by omega) with hbad|⟨h1,h2,h3,h4,h5⟩
  · have hF:cacheB s c=false:=cacheB_f fun hm=>hbad (by
      have:=hm.lay
      rw [hE] at this
      simp only [Prod.mk.injEq] at this
      exact ⟨this.2.2,this.1.symm,this.2.1.symm,hm.names,hm.active⟩)
    rw [hF]
    rcases (show e≠0∨(e=0∧c.Order≠o)∨(e=0∧c.Order=o∧c.Per≠n)∨(e=0∧c.Order=o∧c.Per=n∧c.Names.length=0)∨(e=0∧c.Order=o∧c.Per=n∧0<c.Names.length∧(c.Active.length:Int)≠s.Heap.Cpus) by omega) with g|g|g|g|g
    all_goals
      repeat' (first|(first|refine CW.seq ?_|refine CW.region ?_|refine CW.condtr rfl (by with_reducible rfl) ?_|refine CW.condn_t rfl (by omega) ?_|refine CW.ret ?_)|(first|refine Post.seq ?_|refine Post.seq_ret ?_)|refine SW.nil ?_|(show SW _ _ _ _ (⟨_,_,_,_,_,some _⟩::_) _ _;first|refine SW.want_f rfl rfl (by with_reducible rfl) ?_|refine SW.skip_f rfl rfl (by with_reducible rfl) rfl ?_|refine SW.splitd_t rfl rfl rfl (by omega) ?_|refine SW.splitd_f rfl rfl rfl (by omega) ?_|refine SW.splitn_t rfl rfl rfl (by omega) ?_|refine SW.splitn_f rfl rfl rfl (by omega) ?_)|refine SW.pure rfl rfl ?_|(show SW _ _ _ _ (⟨_,Op.fieldAddr _ _ _,_,_,_,none⟩::_) _ _;refine SW.st (st_field rfl) rfl ?_)|(show SW _ _ _ _ (⟨_,Op.call ⟨.builtin .len,_,_⟩,_,_,_,none⟩::_) _ _;refine SW.st (st_len rfl) rfl ?_)|(show SW _ _ _ _ (⟨_,Op.load _ _,_,_,_,none⟩::_) _ _;first|refine SW.st (st_load rfl (hb3.cell rfl)) rfl ?_|refine SW.st (st_load rfl (hb2.cell (i:=3) (v := .int .i64 r.Heap.Cpus) rfl)) rfl ?_)|(show SW _ _ _ _ (⟨_,Op.call ⟨.value (.func _),_,_⟩,_,_,_,none⟩::_) _ _;(refine SW.call rfl rfl (cL _) ?_;intro v w1 hw1 hv;subst hv;replace hw:=Ext.trans hw hw1;replace hb2:=hb2.ext hw1;replace hb3:=hb3.ext hw1;clear hw1)))
      all_goals first|(exfalso;omega)|skip
      exact Post.ret1 rfl rfl ⟨_,rfl,hw,rfl⟩
  · subst h1
    have hlay:layoutF c.Size=(c.Order,c.Per,0):=by rw [hE,h2,h3]
    obtain ⟨l1,l2,l3⟩:=layoutF_ok hE
    have hlt:=live_lt hH.live
    have hLb:∀ b∈s.Heap.Live,0≤b.At∧b.At≤255:=fun b hb=>by
      obtain ⟨i,hi,rfl⟩:=List.getElem_of_mem hb
      exact (hH.live.each i hi).2.1
    repeat' (first|(first|refine CW.seq ?_|refine CW.region ?_|refine CW.block ?_|refine CW.condn_f rfl (by omega) ?_|refine CW.skip ?_)|(refine Post.seq ?_)|refine SW.nil ?_|(show SW _ _ _ _ (⟨_,_,_,_,_,some _⟩::_) _ _;first|refine SW.want_f rfl rfl (by with_reducible rfl) ?_|refine SW.splitd_f rfl rfl rfl (by omega) ?_|refine SW.splitn_f rfl rfl rfl (by omega) ?_)|refine SW.pure rfl rfl ?_|(show SW _ _ _ _ (⟨_,Op.fieldAddr _ _ _,_,_,_,none⟩::_) _ _;refine SW.st (st_field rfl) rfl ?_)|(show SW _ _ _ _ (⟨_,Op.call ⟨.builtin .len,_,_⟩,_,_,_,none⟩::_) _ _;refine SW.st (st_len rfl) rfl ?_)|(show SW _ _ _ _ (⟨_,Op.load _ _,_,_,_,none⟩::_) _ _;first|refine SW.st (st_load rfl (hb3.cell rfl)) rfl ?_|refine SW.st (st_load rfl (hb2.cell (i:=3) (v := .int .i64 r.Heap.Cpus) rfl)) rfl ?_)|(show SW _ _ _ _ (⟨_,Op.call ⟨.value (.func _),_,_⟩,_,_,_,none⟩::_) _ _;(refine SW.call rfl rfl (cL _) ?_;intro v w1 hw1 hv;subst hv;replace hw:=Ext.trans hw hw1;replace hb2:=hb2.ext hw1;replace hb3:=hb3.ext hw1;clear hw1)))
    all_goals first|(exfalso;omega)|skip
    clear cL
    refine CW.loop (fun k:Nat=>[(2,.pointer (some ⟨b2,0,none⟩)),(3,.pointer (some ⟨b3,0,none⟩)),(5,.int .i64 o),(53,.slice q.Slabs.A q.Slabs.n q.Slabs.c),(54,.int .i64 (q.Slabs.n:Int)),(55,.int .i64 (k:Int))])
      (fun k w'=>k≤q.Slabs.n∧Ext w w'∧Blk w' b2 30 (encSys r)∧Blk w' b3 44 (encC q) ∧ ∀ (i:Nat) (h:i<c.Slabs.length),i<k→SlabMay s c i h) (fun k=>q.Slabs.n-k) 0
      ⟨rfl,rfl,rfl,rfl,rfl,rfl,trivial⟩ ⟨by omega,hw,hb2,hb3,fun i h h'=>by omega⟩ ?_
    clear hw hb2 hb3
    rintro k w' ⟨hk,hw,hb2,hb3,hI⟩
    have hA:=hq.slabs.base
    by_cases hkn:k<q.Slabs.n
    · have hkl:k<c.Slabs.length:=by omega
      repeat' (first|(first|refine CW.seq ?_|refine CW.region ?_|refine CW.block ?_|refine CW.condd_t rfl (by omega) ?_|refine CW.skip ?_)|(refine Post.seq ?_)|refine SW.nil ?_|refine SW.pure rfl rfl ?_|(show SW _ _ _ _ (⟨_,Op.indexAddr _ _ _,_,_,_,none⟩::_) _ _;refine SW.st (st_indexN rfl rfl (by assumption) (by omega)) rfl ?_)|(show SW _ _ _ _ (⟨_,Op.load _ _,_,_,_,none⟩::_) _ _;refine SW.st (st_loadsx hw rfl rfl ((hq.slabs.all hkn))) rfl ?_))
      refine SW.alloc rfl fun b9 w1 hw1 hb9b hb9 => ?_
      repeat' (refine SW.pure rfl rfl ?_)
      refine SW.storeAgg hb9 rfl rfl rfl rfl (Enc.one (enc:=encSb) _) fun w2 hb9' hg => ?_
      have hXX:=hw1.own hb9b hg
      have hb9w:w.heap.size≤b9:=Nat.le_trans hw.size hb9b
      replace hw:=Ext.trans hw hXX
      replace hb2:=hb2.ext hXX
      replace hb3:=hb3.ext hXX
      replace hb9:=hb9'
      clear hb9' hw1 hg hXX
      repeat' (first|(first|refine CW.seq ?_|refine CW.region ?_)|(refine Post.seq ?_)|refine SW.nil ?_|(show SW _ _ _ _ (⟨_,Op.fieldAddr _ _ _,_,_,_,none⟩::_) _ _;refine SW.st (st_field rfl) rfl ?_)|(show SW _ _ _ _ (⟨_,Op.load _ _,_,_,_,none⟩::_) _ _;first|refine SW.st (st_load rfl (hb2.cell (i:=5) (v := .slice r.Heap.Live.A r.Heap.Live.n r.Heap.Live.c) rfl)) rfl ?_|refine SW.st (st_load rfl (hb9.cell rfl)) rfl ?_))
      refine SW.call rfl rfl (binSlab_ans _ _ _ _ _ _ (hr.heap.live.ext hw) hlt hLb (by omega) (hat _ (List.getElem_mem hkl))) fun v w4 hw4 hv => ?_
      (replace hw:=Ext.trans hw hw4;replace hb2:=hb2.ext hw4;replace hb3:=hb3.ext hw4;replace hb9:=hb9.ext hw4)
      cases hfo:foundA s.Heap.Live c.Slabs[k].At
      · obtain ⟨j,rfl⟩:=hv.2 hfo
        have hF:cacheB s c=false:=cacheB_f fun hm=>by
          have:=(hm.slabs k hkl).live
          rw [ordA_f hfo] at this
          omega
        rw [hF]
        repeat' (first|(first|refine CW.seq ?_|refine CW.region ?_|refine CW.condtr rfl (by with_reducible rfl) ?_|refine CW.ret ?_|(apply CW.quiet1 mixed;(· kernel_rfl);rotate_left;intro w1 hw1;replace hw:=Ext.trans hw hw1;replace hb2:=hb2.ext hw1;replace hb3:=hb3.ext hw1;replace hb9:=hb9.ext hw1;clear hw1;rotate_right))|(first|refine Post.seq ?_|refine Post.seq_ret ?_|refine Post.blk_ret ?_|refine Post.again_ret ?_)|refine SW.nil ?_|(show SW _ _ _ _ (⟨_,_,_,_,_,some _⟩::_) _ _;first|refine SW.skip_f rfl rfl (by with_reducible rfl) rfl ?_|refine SW.skip_u rfl rfl (by with_reducible rfl) rfl ?_|refine SW.skip rfl rfl rfl rfl ?_)|refine SW.pure rfl rfl ?_|exact SW.qnil rfl)
        exact Post.ret1 rfl rfl ⟨_,rfl,hw,rfl⟩
      · have hv':=hv.1 hfo
        subst hv'
        obtain ⟨hm0,hma⟩:=found_at hfo
        have eord:=ordA_t hfo hm0
        obtain ⟨m,em⟩ : ∃ m,lbOf s.Heap.Live c.Slabs[k].At=m:=⟨_,rfl⟩
        simp only [em] at hm0 hma eord hv ⊢
        have hmn:m<r.Heap.Live.n:=by omega
        have hAL:=hr.heap.live.base
        have gO:=hr.heap.live.fld hmn (j:=1) (u := .int .i64 s.Heap.Live[m].Order) rfl
        have ht : 0≤c.Slabs[k].At∧c.Slabs[k].At≤255:=by
          have:=hLb _ (List.getElem_mem hm0)
          omega
        have hS : 1≤q.Size∧q.Size≤64:=by omega
        have hP : 1≤q.Per∧q.Per≤64:=by omega
        by_cases hord:s.Heap.Live[m].Order=o
        · by_cases hnx : 0<k→(c.Slabs[k-1]'(by omega)).At<c.Slabs[k].At
          · rcases Nat.eq_zero_or_pos k with hk0|hk0
            all_goals
              first
              | (have gP:=hq.slabs.fld (show k-1<q.Slabs.n by omega) (j:=0) (u := .int .i64 (c.Slabs[k-1]'(by omega)).At) rfl
                 have hlt':=hnx hk0)
              | skip
            all_goals
              repeat' (first|(first|refine CW.seq ?_|refine CW.region ?_|refine CW.condfr rfl (by with_reducible rfl) ?_|refine CW.condd_f rfl (by omega) ?_|refine CW.skip ?_|(apply CW.quiet1 mixed;(· kernel_rfl);rotate_left;intro w1 hw1;replace hw:=Ext.trans hw hw1;replace hb2:=hb2.ext hw1;replace hb3:=hb3.ext hw1;replace hb9:=hb9.ext hw1;clear hw1;rotate_right))|(refine Post.seq ?_)|refine SW.nil ?_|(show SW _ _ _ _ (⟨_,_,_,_,_,some _⟩::_) _ _;first|refine SW.want_t rfl rfl (by with_reducible rfl) ?_|refine SW.want_f rfl rfl (by with_reducible rfl) ?_|refine SW.skip_t rfl rfl (by with_reducible rfl) rfl ?_|refine SW.splitd_t rfl rfl rfl (by omega) ?_|refine SW.splitd_f rfl rfl rfl (by omega) ?_|refine SW.splitn_f rfl rfl rfl (by omega) ?_|refine SW.want rfl rfl ?_)|refine SW.pure rfl rfl ?_|(show SW _ _ _ _ (⟨_,Op.fieldAddr _ _ _,_,_,_,none⟩::_) _ _;refine SW.st (st_field rfl) rfl ?_)|(show SW _ _ _ _ (⟨_,Op.binOp _ _ _ _ _,_,_,_,none⟩::_) _ _;refine SW.st (st_sub rfl rfl (by omega) (by omega)) rfl ?_)|(show SW _ _ _ _ (⟨_,Op.indexAddr _ _ _,_,_,_,none⟩::_) _ _;first|refine SW.st (st_indexN rfl rfl (by assumption) (by omega)) rfl ?_|refine SW.st (st_indexI (k-1) rfl rfl (by assumption) (by omega) (by omega)) rfl ?_)|(show SW _ _ _ _ (⟨_,Op.load _ _,_,_,_,none⟩::_) _ _;first|refine SW.st (st_load rfl (hb2.cell (i:=5) (v := .slice r.Heap.Live.A r.Heap.Live.n r.Heap.Live.c) rfl)) rfl ?_|refine SW.st (st_loadx hw rfl gO) rfl ?_|refine SW.st (st_loadx hw rfl gP) rfl ?_|refine SW.st (st_load rfl (hb3.cell rfl)) rfl ?_|refine SW.st (st_load rfl (hb9.cell rfl)) rfl ?_|refine SW.st (st_loads rfl rfl ((fun _ _=>hb2.cell))) rfl ?_|refine SW.st (st_loads rfl rfl ((fun _ _=>hb3.cell))) rfl ?_|refine SW.st (st_loads rfl rfl ((fun _ _=>hb9.cell))) rfl ?_)|exact SW.qnil rfl)
              all_goals first|(exfalso;omega)|skip
              refine SW.call rfl rfl (chain_ans r q c.Slabs[k] s.Words _ (hr.words.ext hw) (by omega) hS hP ht) fun v w5 hw5 hv5 => ?_
              (replace hw:=Ext.trans hw hw5;replace hb2:=hb2.ext hw5;replace hb3:=hb3.ext hw5)
              rw [eS,eP] at hv5
              rcases hv5 with ⟨out,A5,c5,hC,rfl,_,_⟩|⟨hno,rfl⟩
              · repeat' (first|(first|refine CW.seq ?_|refine CW.region ?_|refine CW.condf rfl ?_|refine CW.skip ?_)|(first|refine Post.seq ?_|refine Post.blk ?_)|refine SW.nil ?_|refine SW.pure rfl rfl ?_|(show SW _ _ _ _ (⟨_,Op.binOp _ _ _ _ _,_,_,_,none⟩::_) _ _;refine SW.st (st_add rfl rfl (by omega) (by omega)) rfl ?_))
                exact Post.again (k+1) ⟨rfl,rfl,rfl,rfl,rfl,rfl,trivial⟩ (by omega) ⟨by omega,hw,hb2,hb3,fun i h h'=>by
                  by_cases ei:i=k
                  · subst ei;exact ⟨by omega,hnx,⟨out,hC⟩⟩
                  · exact hI i h (by omega)⟩
              · rw [cacheB_f fun hm=>(hm.slabs k hkl).chain.elim hno]
                repeat' (first|(first|refine CW.seq ?_|refine CW.region ?_|refine CW.condt rfl ?_|refine CW.ret ?_)|(first|refine Post.seq ?_|refine Post.seq_ret ?_|refine Post.blk_ret ?_|refine Post.again_ret ?_)|refine SW.nil ?_|refine SW.pure rfl rfl ?_)
                exact Post.ret1 rfl rfl ⟨_,rfl,hw,rfl⟩
          · have hk0 : 0<k:=by
              rcases Nat.eq_zero_or_pos k with h|h
              · exact absurd (fun h'=>by omega) hnx
              · exact h
            have hge : ¬ (c.Slabs[k-1]'(by omega)).At<c.Slabs[k].At:=fun h=>hnx fun _=>h
            have gP:=hq.slabs.fld (show k-1<q.Slabs.n by omega) (j:=0) (u := .int .i64 (c.Slabs[k-1]'(by omega)).At) rfl
            rw [cacheB_f fun hm=>hge ((hm.slabs k hkl).next hk0)]
            repeat' (first|(first|refine CW.seq ?_|refine CW.region ?_|refine CW.condd_t rfl (by omega) ?_|refine CW.ret ?_|(apply CW.quiet1 mixed;(· kernel_rfl);rotate_left;intro w1 hw1;replace hw:=Ext.trans hw hw1;replace hb2:=hb2.ext hw1;replace hb3:=hb3.ext hw1;replace hb9:=hb9.ext hw1;clear hw1;rotate_right))|(first|refine Post.seq ?_|refine Post.seq_ret ?_|refine Post.blk_ret ?_|refine Post.again_ret ?_)|refine SW.nil ?_|(show SW _ _ _ _ (⟨_,_,_,_,_,some _⟩::_) _ _;first|refine SW.want_t rfl rfl (by with_reducible rfl) ?_|refine SW.want_f rfl rfl (by with_reducible rfl) ?_|refine SW.splitd_t rfl rfl rfl (by omega) ?_|refine SW.splitn_f rfl rfl rfl (by omega) ?_|refine SW.want rfl rfl ?_)|refine SW.pure rfl rfl ?_|(show SW _ _ _ _ (⟨_,Op.fieldAddr _ _ _,_,_,_,none⟩::_) _ _;refine SW.st (st_field rfl) rfl ?_)|(show SW _ _ _ _ (⟨_,Op.binOp _ _ _ _ _,_,_,_,none⟩::_) _ _;refine SW.st (st_sub rfl rfl (by omega) (by omega)) rfl ?_)|(show SW _ _ _ _ (⟨_,Op.indexAddr _ _ _,_,_,_,none⟩::_) _ _;first|refine SW.st (st_indexN rfl rfl (by assumption) (by omega)) rfl ?_|refine SW.st (st_indexI (k-1) rfl rfl (by assumption) (by omega) (by omega)) rfl ?_)|(show SW _ _ _ _ (⟨_,Op.load _ _,_,_,_,none⟩::_) _ _;first|refine SW.st (st_load rfl (hb2.cell (i:=5) (v := .slice r.Heap.Live.A r.Heap.Live.n r.Heap.Live.c) rfl)) rfl ?_|refine SW.st (st_loadx hw rfl gO) rfl ?_|refine SW.st (st_loadx hw rfl gP) rfl ?_|refine SW.st (st_load rfl (hb3.cell rfl)) rfl ?_|refine SW.st (st_load rfl (hb9.cell rfl)) rfl ?_)|exact SW.qnil rfl)
            all_goals first|(exfalso;omega)|skip
            exact Post.ret1 rfl rfl ⟨_,rfl,hw,rfl⟩
        · rw [cacheB_f fun hm=>hord (by have:=(hm.slabs k hkl).live;omega)]
          repeat' (first|(first|refine CW.seq ?_|refine CW.region ?_|refine CW.condtr rfl (by with_reducible rfl) ?_|refine CW.ret ?_|(apply CW.quiet1 mixed;(· kernel_rfl);rotate_left;intro w1 hw1;replace hw:=Ext.trans hw hw1;replace hb2:=hb2.ext hw1;replace hb3:=hb3.ext hw1;replace hb9:=hb9.ext hw1;clear hw1;rotate_right))|(first|refine Post.seq ?_|refine Post.seq_ret ?_|refine Post.blk_ret ?_|refine Post.again_ret ?_)|refine SW.nil ?_|(show SW _ _ _ _ (⟨_,_,_,_,_,some _⟩::_) _ _;first|refine SW.skip_f rfl rfl (by with_reducible rfl) rfl ?_|refine SW.skip_u rfl rfl (by with_reducible rfl) rfl ?_|refine SW.splitn_t rfl rfl rfl (by omega) ?_|refine SW.want rfl rfl ?_)|refine SW.pure rfl rfl ?_|(show SW _ _ _ _ (⟨_,Op.fieldAddr _ _ _,_,_,_,none⟩::_) _ _;refine SW.st (st_field rfl) rfl ?_)|(show SW _ _ _ _ (⟨_,Op.indexAddr _ _ _,_,_,_,none⟩::_) _ _;refine SW.st (st_indexN rfl rfl (by assumption) (by omega)) rfl ?_)|(show SW _ _ _ _ (⟨_,Op.load _ _,_,_,_,none⟩::_) _ _;first|refine SW.st (st_load rfl (hb2.cell (i:=5) (v := .slice r.Heap.Live.A r.Heap.Live.n r.Heap.Live.c) rfl)) rfl ?_|refine SW.st (st_loadx hw rfl gO) rfl ?_)|exact SW.qnil rfl)
          all_goals first|(exfalso;omega)|skip
          exact Post.ret1 rfl rfl ⟨_,rfl,hw,rfl⟩
    · have hall:∀ (i:Nat) (h:i<c.Slabs.length),SlabMay s c i h:=fun i h=>hI i h (by omega)
      repeat' (first|(first|refine CW.seq ?_|refine CW.region ?_|refine CW.block ?_|refine CW.condd_f rfl (by omega) ?_|refine CW.exit ?_)|(first|refine Post.seq ?_|refine Post.seq_exit ?_|refine Post.hit ?_|refine Post.again_exit ?_)|refine SW.nil ?_|refine SW.pure rfl rfl ?_|(show SW _ _ _ _ (⟨_,Op.fieldAddr _ _ _,_,_,_,none⟩::_) _ _;refine SW.st (st_field rfl) rfl ?_)|(show SW _ _ _ _ (⟨_,Op.call ⟨.builtin .len,_,_⟩,_,_,_,none⟩::_) _ _;refine SW.st (st_len rfl) rfl ?_)|(show SW _ _ _ _ (⟨_,Op.load _ _,_,_,_,none⟩::_) _ _;refine SW.st (st_load rfl (hb3.cell (i:=5) (v := .slice q.Active.A q.Active.n q.Active.c) rfl)) rfl ?_))
      clear hI hkn hk hA
      refine CW.loop (fun k:Nat=>[(3,.pointer (some ⟨b3,0,none⟩)),(109,.slice q.Active.A q.Active.n q.Active.c),(110,.int .i64 (q.Active.n:Int)),(111,.int .i64 (k:Int))])
        (fun k w'=>k≤q.Active.n∧Ext w w'∧Blk w' b3 44 (encC q) ∧ ∀ (i:Nat) (h:i<c.Active.length),i<k→ActMay c i h) (fun k=>q.Active.n-k) 0
        ⟨rfl,rfl,rfl,rfl,trivial⟩ ⟨by omega,hw,hb3,fun i h h'=>by omega⟩ ?_
      clear hw hb3 hb2
      rintro k w' ⟨hk,hw,hb3,hI⟩
      have hA:=hq.active.base
      by_cases hkn:k<q.Active.n
      · have hkl:k<c.Active.length:=by omega
        obtain ⟨a,ea⟩ : ∃ a,c.Active[k]=a:=⟨_,rfl⟩
        have gA:=hq.active.one hkn (u := .int .i64 a) (by rw [← ea];rfl)
        by_cases ha:a = -1
        · repeat' (first|(first|refine CW.seq ?_|refine CW.region ?_|refine CW.block ?_|refine CW.condd_t rfl (by omega) ?_|refine CW.skip ?_|refine CW.exit ?_)|(first|refine Post.seq ?_|refine Post.seq_exit ?_|refine Post.hit ?_)|refine SW.nil ?_|refine SW.pure rfl rfl ?_|(show SW _ _ _ _ (⟨_,Op.binOp _ _ _ _ _,_,_,_,none⟩::_) _ _;refine SW.st (st_add rfl rfl (by omega) (by omega)) rfl ?_)|(show SW _ _ _ _ (⟨_,Op.indexAddr _ _ _,_,_,_,none⟩::_) _ _;refine SW.st (st_indexN rfl rfl (by assumption) (by omega)) rfl ?_)|(show SW _ _ _ _ (⟨_,Op.load _ _,_,_,_,none⟩::_) _ _;refine SW.st (st_loadx hw rfl gA) rfl ?_))
          exact Post.again (k+1) ⟨rfl,rfl,rfl,rfl,trivial⟩ (by omega) ⟨by omega,hw,hb3,fun i h h'=>by
            by_cases ei:i=k
            · subst ei;exact .inl (by omega)
            · exact hI i h (by omega)⟩
        · have cN:∀ w',Ext w w'→Ans Tryz.prog 45 [.slice q.Active.A k q.Active.c,.int .i64 a] w' fun v _=>v = .bool (decide (a∈c.Active.take k)):=fun w' hx=>ContainsInt_ans _ _ _ _ _ _ ((hq.active.ext hx).pre (show k≤q.Active.n by omega)) (by omega)
          obtain ⟨z,hz⟩ : ∃ z,idxOf (atB a) c.Slabs=z:=⟨_,rfl⟩
          have hzi:=idxOf_ge (atB a) c.Slabs
          rw [hz] at hzi
          have cF:∀ w',Ext w w'→Ans Tryz.prog 94 [.agg (encC q).toArray,.int .i64 a] w' fun v _=>v = .int .i64 z:=fun w' hx=>by
            have:=find_ans q c.Slabs a w' (hq.slabs.ext hx) (by omega)
            rwa [hz] at this
          have hbadA:(a∈c.Active.take k ∨ ¬ 0≤z)→cacheB s c=false:=fun h=>cacheB_f fun hm=>by
            rcases hm.acts k hkl with g|⟨g1,g2⟩
            · omega
            · rw [ea] at g1 g2
              rcases h with h|h
              · exact g1 h
              · rw [g2] at hzi
                exact h (of_decide_eq_true hzi)
          by_cases hmem:a∈c.Active.take k
          · rw [decide_eq_true hmem] at cN
            rw [hbadA (.inl hmem)]
            repeat' (first|(first|refine CW.seq ?_|refine CW.region ?_|refine CW.block ?_|refine CW.condtr rfl (by with_reducible rfl) ?_|refine CW.condd_t rfl (by omega) ?_|refine CW.condd_f rfl (by omega) ?_|refine CW.skip ?_|refine CW.ret ?_)|(first|refine Post.seq ?_|refine Post.seq_ret ?_|refine Post.blk_ret ?_|refine Post.again_ret ?_)|refine SW.nil ?_|(show SW _ _ _ _ (⟨_,_,_,_,_,some _⟩::_) _ _;refine SW.skip_f rfl rfl (by with_reducible rfl) rfl ?_)|refine SW.pure rfl rfl ?_|(show SW _ _ _ _ (⟨_,Op.fieldAddr _ _ _,_,_,_,none⟩::_) _ _;refine SW.st (st_field rfl) rfl ?_)|(show SW _ _ _ _ (⟨_,Op.indexAddr _ _ _,_,_,_,none⟩::_) _ _;refine SW.st (st_indexN rfl rfl (by assumption) (by omega)) rfl ?_)|(show SW _ _ _ _ (⟨_,Op.load _ _,_,_,_,none⟩::_) _ _;first|refine SW.st (st_loadx hw rfl gA) rfl ?_|refine SW.st (st_load rfl (hb3.cell (i:=5) (v := .slice q.Active.A q.Active.n q.Active.c) rfl)) rfl ?_)|(show SW _ _ _ _ (⟨_,Op.call ⟨.value (.func _),_,_⟩,_,_,_,none⟩::_) _ _;(refine SW.call rfl rfl (cN _ hw) ?_;intro v w1 hw1 hv;subst hv;replace hw:=Ext.trans hw hw1;replace hb3:=hb3.ext hw1;clear hw1))|(refine SW.st (st_sliceHi (k:=k) rfl rfl (by omega)) rfl ?_))
            all_goals first|(exfalso;omega)|skip
            exact Post.ret1 rfl rfl ⟨_,rfl,hw,rfl⟩
          · rw [decide_eq_false hmem] at cN
            by_cases hz0 : 0≤z
            · repeat' (first|(first|refine CW.seq ?_|refine CW.region ?_|refine CW.block ?_|refine CW.condd_t rfl (by omega) ?_|refine CW.condd_f rfl (by omega) ?_|refine CW.skip ?_)|(first|refine Post.seq ?_|refine Post.blk ?_)|refine SW.nil ?_|(show SW _ _ _ _ (⟨_,_,_,_,_,some _⟩::_) _ _;refine SW.want_f rfl rfl (by with_reducible rfl) ?_)|refine SW.pure rfl rfl ?_|(show SW _ _ _ _ (⟨_,Op.fieldAddr _ _ _,_,_,_,none⟩::_) _ _;refine SW.st (st_field rfl) rfl ?_)|(show SW _ _ _ _ (⟨_,Op.binOp _ _ _ _ _,_,_,_,none⟩::_) _ _;refine SW.st (st_add rfl rfl (by omega) (by omega)) rfl ?_)|(show SW _ _ _ _ (⟨_,Op.indexAddr _ _ _,_,_,_,none⟩::_) _ _;refine SW.st (st_indexN rfl rfl (by assumption) (by omega)) rfl ?_)|(show SW _ _ _ _ (⟨_,Op.load _ _,_,_,_,none⟩::_) _ _;first|refine SW.st (st_loadx hw rfl gA) rfl ?_|refine SW.st (st_load rfl (hb3.cell (i:=5) (v := .slice q.Active.A q.Active.n q.Active.c) rfl)) rfl ?_|refine SW.st (st_loads rfl rfl ((fun _ _=>hb3.cell))) rfl ?_)|(show SW _ _ _ _ (⟨_,Op.call ⟨.value (.func _),_,_⟩,_,_,_,none⟩::_) _ _;first|(refine SW.call rfl rfl (cN _ hw) ?_;intro v w1 hw1 hv;subst hv;replace hw:=Ext.trans hw hw1;replace hb3:=hb3.ext hw1;clear hw1)|(refine SW.call rfl rfl (cF _ hw) ?_;intro v w1 hw1 hv;subst hv;replace hw:=Ext.trans hw hw1;replace hb3:=hb3.ext hw1;clear hw1))|(refine SW.st (st_sliceHi (k:=k) rfl rfl (by omega)) rfl ?_))
              all_goals first|(exfalso;omega)|skip
              exact Post.again (k+1) ⟨rfl,rfl,rfl,rfl,trivial⟩ (by omega) ⟨by omega,hw,hb3,fun i h h'=>by
                by_cases ei:i=k
                · subst ei
                  exact .inr ⟨by rw [ea];exact hmem,by rw [ea,← hzi];exact decide_eq_true hz0⟩
                · exact hI i h (by omega)⟩
            · rw [hbadA (.inr hz0)]
              repeat' (first|(first|refine CW.seq ?_|refine CW.region ?_|refine CW.block ?_|refine CW.condd_t rfl (by omega) ?_|refine CW.condd_f rfl (by omega) ?_|refine CW.skip ?_|refine CW.ret ?_)|(first|refine Post.seq ?_|refine Post.seq_ret ?_|refine Post.blk_ret ?_|refine Post.again_ret ?_)|refine SW.nil ?_|(show SW _ _ _ _ (⟨_,_,_,_,_,some _⟩::_) _ _;refine SW.want_f rfl rfl (by with_reducible rfl) ?_)|refine SW.pure rfl rfl ?_|(show SW _ _ _ _ (⟨_,Op.fieldAddr _ _ _,_,_,_,none⟩::_) _ _;refine SW.st (st_field rfl) rfl ?_)|(show SW _ _ _ _ (⟨_,Op.indexAddr _ _ _,_,_,_,none⟩::_) _ _;refine SW.st (st_indexN rfl rfl (by assumption) (by omega)) rfl ?_)|(show SW _ _ _ _ (⟨_,Op.load _ _,_,_,_,none⟩::_) _ _;first|refine SW.st (st_loadx hw rfl gA) rfl ?_|refine SW.st (st_load rfl (hb3.cell (i:=5) (v := .slice q.Active.A q.Active.n q.Active.c) rfl)) rfl ?_|refine SW.st (st_loads rfl rfl ((fun _ _=>hb3.cell))) rfl ?_)|(show SW _ _ _ _ (⟨_,Op.call ⟨.value (.func _),_,_⟩,_,_,_,none⟩::_) _ _;first|(refine SW.call rfl rfl (cN _ hw) ?_;intro v w1 hw1 hv;subst hv;replace hw:=Ext.trans hw hw1;replace hb3:=hb3.ext hw1;clear hw1)|(refine SW.call rfl rfl (cF _ hw) ?_;intro v w1 hw1 hv;subst hv;replace hw:=Ext.trans hw hw1;replace hb3:=hb3.ext hw1;clear hw1))|(refine SW.st (st_sliceHi (k:=k) rfl rfl (by omega)) rfl ?_))
              all_goals first|(exfalso;omega)|skip
              exact Post.ret1 rfl rfl ⟨_,rfl,hw,rfl⟩
      · rw [cacheB_t ⟨hlay,h4,h5,hall,fun i h=>hI i h (by omega)⟩]
        repeat' (first|(first|refine CW.seq ?_|refine CW.region ?_|refine CW.condd_f rfl (by omega) ?_|refine CW.ret ?_|refine CW.exit ?_)|(first|refine Post.seq ?_|refine Post.seq_exit ?_|refine Post.hit ?_|refine Post.again_exit ?_)|refine SW.nil ?_|refine SW.pure rfl rfl ?_)
        exact Post.ret1 rfl rfl ⟨_,rfl,hw,rfl⟩
open Go.RowKit Go.Maps
structure BMap (w:World) (P:Program) (k e:TypeId) (b:Nat) (keys:List Lit) : Prop where
 own:w.ownsMap (H:=Unit) P k (plainElem P e) b keys.length (setOf (.lit (.bool true)) keys)
 ok:∀ x∈keys,WideAt.IsKeyLit x
theorem BMap.ext {w w':World} {P:Program} {k e:TypeId} {b:Nat} {keys:List Lit} (h:BMap w P k e b keys) (hx:Ext w w') : BMap w' P k e b keys:=⟨h.own.kept (row:=none) ⟨hx.os,hx.tape,hx.output,hx.size,fun i hi _=>hx.block i hi⟩ (by simp),h.ok⟩
theorem BMap.grown {w w':World} {P:Program} {k e:TypeId} {b:Nat} {keys:List Lit} {row:Option Nat} (h:BMap w P k e b keys) (hg:w.grownBy w' row) (hne:some b≠row) : BMap w' P k e b keys:=⟨h.own.kept hg hne,h.ok⟩
theorem BMap.lt {w:World} {P:Program} {k e:TypeId} {b:Nat} {keys:List Lit} (h:BMap w P k e b keys) : b<w.heap.size:=h.own.lt
theorem atKey_fold (u z:DataW Unit) (k:Lit) : ∀ (acc:List Lit) (m:DataW Unit),IsMap m→(∀ x∈acc,WideAt.IsKeyLit x)→(acc.foldl (fun m x=>m.put x u) m).atKey k z=if acc.any (fun x=>x.sameKey k) then u else m.atKey k z
 | [],m,_,_=>by simp
 | x::r,m,hm,h=>by
  rw [List.foldl_cons,atKey_fold u z k r (m.put x u) (hm.put x u) (fun y hy=>h y (by simp [hy])),List.any_cons]
  by_cases e:k=x
  ·subst e
   rw [atKey_put_same hm (h k (by simp)),WideAt.sameKey_self (h k (by simp))]
   simp
  ·rw [atKey_put_other e,sameKey_ne (fun e'=>e e'.symm)]
   simp
theorem atKey_set (k:Lit) (acc:List Lit) (h:∀ x∈acc,WideAt.IsKeyLit x) : (setOf (.lit (.bool true)) acc:DataW Unit).atKey k (.lit (.bool false)) = .lit (.bool (acc.any fun x=>x.sameKey k)):=by
 rw [setOf,atKey_fold _ _ k acc _ isMap_empty h]
 cases acc.any fun x=>x.sameKey k<;>rfl
section
variable {P:Program} {n:Nat} {ops:Array Oper} {Q:Exit→Act→World→Prop} {rest:List Oper} {L:Env} {w:World} {T:TypeId} {pos:String} {af:Array Edge}
theorem SW.makeMap {d:Nat} {t:TypeId} (k e:TypeId) (hn:Nat.blt d n=true) (h:∀ b w',Ext w w'→w.heap.size≤b→BMap w' P k e b []→SW P n ops (.eff Q) rest ((d,.map (some b))::L) w') :
  SW P n ops (.eff Q) (⟨some d,.makeMap t none,T,pos,af,none⟩::rest) L w :=
 ⟨fun a ha=>by
  simp only [swp,wpList,Region.wanted,if_true]
  refine .inl ?_
  unfold Oper.wp
  have:(execOp a.eval ⟨some d,.makeMap t none,T,pos,af,none⟩).run P w = .ok (.value (.map (some w.heap.size))) (w.alloc (.map #[] 0)):=by
   simp [execOp,run_makeMap]
  rw [this,Oper.upon_value]
  exact (h _ _ (Ext.alloc w _) (Nat.le_refl _) ⟨World.ownsMap_made w P k _,fun x hx=>by simp at hx⟩).out _ (ha.put hn _)⟩
theorem st_lookupB {d:Option Nat} {g:Option (Nat×Bool)} {t k e:TypeId} {b:Nat} {keys:List Lit} {m x:Operand} {key:Value} {kl:Lit} (hB:BMap w P k e b keys) (K:Keyed P k) (ht:P.underlying t=some (.map k e)) (he:P.underlying e=some .bool) (hz:∀ w,(zeroValue e).run P w = .ok (.bool false) w)
  (hm:opv L m=some (.map (some b))) (hx:opv L x=some key) (hkey:Go.keyOf P k key=some kl) : St P ⟨d,.lookup t m x false,T,pos,af,g⟩ L w (.bool (keys.any fun y=>y.sameKey kl)) :=
 ⟨fun n a ha w' hxt=>by
  have hB':=hB.ext hxt
  obtain ⟨v,ps,hrun,hv⟩:=hB'.own.lookup K ht (hz w') (plainElem_bool he false) hkey
  rw [atKey_set _ _ hB.ok] at hv
  have hvb:v = .bool (keys.any fun y=>y.sameKey kl):=by
   unfold plainElem at hv
   rw [he] at hv
   cases v<;>simp at hv
   rw [hv.1]
  subst hvb
  simp [execOp,ha.eval hm,ha.eval hx,hrun]⟩
theorem SW.mapPut {t k e:TypeId} {b:Nat} {keys:List Lit} {m x y:Operand} {key:Value} {kl:Lit} (hB:BMap w P k e b keys) (K:Keyed P k) (ht:P.underlying t=some (.map k e)) (he:P.underlying e=some .bool) (hroom:keys.length<maxLen)
  (hm:opv L m=some (.map (some b))) (hx:opv L x=some key) (hy:opv L y=some (.bool true)) (hkey:Go.keyOf P k key=some kl) (hk:WideAt.IsKeyLit kl)
  (h:∀ w',BMap w' P k e b (keys++[kl])→w.grownBy w' (some b)→SW P n ops (.eff Q) rest L w') : SW P n ops (.eff Q) (⟨none,.mapUpdate t m x y,T,pos,af,none⟩::rest) L w :=
 ⟨fun a ha=>by
  obtain ⟨w',hrun,r1,r2⟩:=hB.own.update K ht hroom hkey (plainElem_bool he true)
  simp only [swp,wpList,Region.wanted,if_true]
  refine .inl ?_
  unfold Oper.wp
  have:(execOp a.eval ⟨none,.mapUpdate t m x y,T,pos,af,none⟩).run P w = .ok .skip w':=by
   simp [execOp,ha.eval hm,ha.eval hx,ha.eval hy,hrun]
  rw [this,Oper.upon_skip]
  refine (h w' ⟨?_,fun z hz => ?_⟩ r2).out _ ha
  ·rw [setOf_snoc]
   simpa using r1
  ·rcases List.mem_append.1 hz with hz|hz
   ·exact hB.ok z hz
   ·simp at hz;subst hz;exact hk⟩
end
end Go.Proofs.YtigikedbffjeiaaGreat
