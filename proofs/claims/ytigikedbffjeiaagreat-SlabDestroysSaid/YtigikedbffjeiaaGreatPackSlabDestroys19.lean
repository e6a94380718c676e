/-
  Texts of the claim SlabDestroys, part 19: what its theorem leans on.
-/
import Derived.Test.YtigikedbffjeiaaGreatPackSlabDestroys17
set_option linter.unusedVariables false
set_option linter.unusedSimpArgs false
namespace Go.Proofs.YtigikedbffjeiaaGreat
open Go.RowKit
theorem liveOrder_ans (r:HRow) (l:List Block) (a:Int) (w:World) (hl:Sl w 3 encBk r.Live.A r.Live.n l) (hu:l.Pairwise fun x y=>x.At<y.At) (hn:r.Live.n≤1000000000000000000) :
    Ans Tryz.prog 106 [.agg (encH r).toArray,.int .i64 a] w fun v _=>v = .int .i64 (ordA l a):=by
  refine ans_of Tryz.func106 rfl Tryz.ntmps106 rfl ?_
  refine CW.seq (CW.region (SW.box rfl rfl fun b2 w1 hw hb2b hb2 => ?_))
  have hll:=hl.len
  repeat' (first|(first|refine CW.seq ?_|refine CW.region ?_|refine CW.block ?_)|(refine Post.seq ?_)|refine SW.nil ?_|refine SW.pure rfl rfl ?_)
  refine CW.loop (fun k:Nat=>[(1,.int .i64 a),(2,.pointer (some ⟨b2,0,none⟩)),(5,.int .i64 (k:Int))]) (fun k w'=>k≤r.Live.n∧Ext w w'∧Blk w' b2 27 (encH r) ∧ ∀ (i:Nat) (h:i<l.length),i<k→l[i].At≠a) (fun k=>r.Live.n-k) 0
    ⟨rfl,rfl,rfl,trivial⟩ ⟨by omega,hw,hb2,fun i h h'=>by omega⟩ ?_
  clear hw hb2
  rintro k w' ⟨hk,hw,hb2,hI⟩
  have hA:=hl.base
  by_cases hkn:k<r.Live.n
  · have hkl:k<l.length:=by omega
    have g0:=hl.fld hkn (j:=0) (u := .int .i64 l[k].At) rfl
    have g1:=hl.fld hkn (j:=1) (u := .int .i64 l[k].Order) rfl
    by_cases hx:l[k].At=a
    · obtain ⟨e1,e2⟩:=found_uniq hu hkl hx
      have e3:=ordA_t e2 (by omega)
      simp only [e1] at e3
      rw [e3]
      repeat' (first|(first|refine CW.seq ?_|refine CW.region ?_|refine CW.block ?_|refine CW.condd_t rfl (by omega) ?_|refine CW.skip ?_|refine CW.ret ?_)|(first|refine Post.seq ?_|refine Post.seq_ret ?_|refine Post.blk_ret ?_|refine Post.again_ret ?_)|refine SW.nil ?_|refine SW.pure rfl rfl ?_|(show SW _ _ _ _ (⟨_,Op.fieldAddr _ _ _,_,_,_,none⟩::_) _ _;refine SW.st (st_field rfl) rfl ?_)|(show SW _ _ _ _ (⟨_,Op.indexAddr _ _ _,_,_,_,none⟩::_) _ _;refine SW.st (st_indexN rfl rfl (by assumption) (by omega)) rfl ?_)|(show SW _ _ _ _ (⟨_,Op.call ⟨.builtin .len,_,_⟩,_,_,_,none⟩::_) _ _;refine SW.st (st_len rfl) rfl ?_)|(show SW _ _ _ _ (⟨_,Op.load _ _,_,_,_,none⟩::_) _ _;first|refine SW.st (st_load rfl (hb2.cell (i:=4) (v := .slice r.Live.A r.Live.n r.Live.c) rfl)) rfl ?_|refine SW.st (st_loadx hw rfl g0) rfl ?_|refine SW.st (st_loadx hw rfl g1) rfl ?_))
      exact Post.ret1 rfl rfl ⟨_,rfl,hw,rfl⟩
    · repeat' (first|(first|refine CW.seq ?_|refine CW.region ?_|refine CW.block ?_|refine CW.condd_t rfl (by omega) ?_|refine CW.condd_f rfl (by omega) ?_|refine CW.skip ?_)|(first|refine Post.seq ?_|refine Post.blk ?_)|refine SW.nil ?_|refine SW.pure rfl rfl ?_|(show SW _ _ _ _ (⟨_,Op.fieldAddr _ _ _,_,_,_,none⟩::_) _ _;refine SW.st (st_field rfl) rfl ?_)|(show SW _ _ _ _ (⟨_,Op.binOp _ _ _ _ _,_,_,_,none⟩::_) _ _;refine SW.st (st_add rfl rfl (by omega) (by omega)) rfl ?_)|(show SW _ _ _ _ (⟨_,Op.indexAddr _ _ _,_,_,_,none⟩::_) _ _;refine SW.st (st_indexN rfl rfl (by assumption) (by omega)) rfl ?_)|(show SW _ _ _ _ (⟨_,Op.call ⟨.builtin .len,_,_⟩,_,_,_,none⟩::_) _ _;refine SW.st (st_len rfl) rfl ?_)|(show SW _ _ _ _ (⟨_,Op.load _ _,_,_,_,none⟩::_) _ _;first|refine SW.st (st_load rfl (hb2.cell (i:=4) (v := .slice r.Live.A r.Live.n r.Live.c) rfl)) rfl ?_|refine SW.st (st_loadx hw rfl g0) rfl ?_))
      exact Post.again (k+1) ⟨rfl,rfl,rfl,trivial⟩ (by omega) ⟨by omega,hw,hb2,fun i h h'=>by
        by_cases e:i=k
        · subst e;exact hx
        · exact hI i h (by omega)⟩
  · rw [ordA_f (found_none fun i h=>hI i h (by omega))]
    repeat' (first|(first|refine CW.seq ?_|refine CW.region ?_|refine CW.condd_f rfl (by omega) ?_|refine CW.ret ?_|refine CW.exit ?_)|(first|refine Post.seq ?_|refine Post.seq_exit ?_|refine Post.hit ?_|refine Post.again_exit ?_)|refine SW.nil ?_|refine SW.pure rfl rfl ?_|(show SW _ _ _ _ (⟨_,Op.fieldAddr _ _ _,_,_,_,none⟩::_) _ _;refine SW.st (st_field rfl) rfl ?_)|(show SW _ _ _ _ (⟨_,Op.call ⟨.builtin .len,_,_⟩,_,_,_,none⟩::_) _ _;refine SW.st (st_len rfl) rfl ?_)|(show SW _ _ _ _ (⟨_,Op.load _ _,_,_,_,none⟩::_) _ _;refine SW.st (st_load rfl (hb2.cell (i:=4) (v := .slice r.Live.A r.Live.n r.Live.c) rfl)) rfl ?_))
    exact Post.ret1 rfl rfl ⟨_,rfl,hw,rfl⟩
theorem slabAt_ans (q:CRow) (l:List Slab) (t:Int) (w:World) (hl:Sl w 3 encSb q.Slabs.A q.Slabs.n l) (hn:q.Slabs.n≤1000000000000000000) :
    Ans Tryz.prog 107 [.agg (encC q).toArray,.int .i64 t] w fun v _=>v = .int .i64 (idxOf (atB t) l):=by
  refine ans_of Tryz.func107 rfl Tryz.ntmps107 rfl ?_
  refine CW.seq (CW.region (SW.box rfl rfl fun b2 w1 hw hb2b hb2 => ?_))
  have hll:=hl.len
  repeat' (first|(first|refine CW.seq ?_|refine CW.region ?_|refine CW.block ?_)|(refine Post.seq ?_)|refine SW.nil ?_|refine SW.pure rfl rfl ?_)
  refine CW.loop (fun k:Nat=>[(1,.int .i64 t),(2,.pointer (some ⟨b2,0,none⟩)),(5,.int .i64 (k:Int))]) (fun k w'=>k≤q.Slabs.n∧Ext w w'∧Blk w' b2 44 (encC q) ∧ ∀ (i:Nat) (h:i<l.length),i<k→atB t l[i]=false) (fun k=>q.Slabs.n-k) 0
    ⟨rfl,rfl,rfl,trivial⟩ ⟨by omega,hw,hb2,fun i h h'=>by omega⟩ ?_
  clear hw hb2
  rintro k w' ⟨hk,hw,hb2,hI⟩
  have hA:=hl.base
  by_cases hkn:k<q.Slabs.n
  · have hkl:k<l.length:=by omega
    have g0:=hl.fld hkn (j:=0) (u := .int .i64 l[k].At) rfl
    by_cases hx:l[k].At=t
    · rw [idxOf_hit hkl (show atB t l[k]=true from decide_eq_true hx) (fun j hj h=>hI j hj h)]
      repeat' (first|(first|refine CW.seq ?_|refine CW.region ?_|refine CW.block ?_|refine CW.condd_t rfl (by omega) ?_|refine CW.skip ?_|refine CW.ret ?_)|(first|refine Post.seq ?_|refine Post.seq_ret ?_|refine Post.blk_ret ?_|refine Post.again_ret ?_)|refine SW.nil ?_|refine SW.pure rfl rfl ?_|(show SW _ _ _ _ (⟨_,Op.fieldAddr _ _ _,_,_,_,none⟩::_) _ _;refine SW.st (st_field rfl) rfl ?_)|(show SW _ _ _ _ (⟨_,Op.indexAddr _ _ _,_,_,_,none⟩::_) _ _;refine SW.st (st_indexN rfl rfl (by assumption) (by omega)) rfl ?_)|(show SW _ _ _ _ (⟨_,Op.call ⟨.builtin .len,_,_⟩,_,_,_,none⟩::_) _ _;refine SW.st (st_len rfl) rfl ?_)|(show SW _ _ _ _ (⟨_,Op.load _ _,_,_,_,none⟩::_) _ _;first|refine SW.st (st_load rfl (hb2.cell (i:=4) (v := .slice q.Slabs.A q.Slabs.n q.Slabs.c) rfl)) rfl ?_|refine SW.st (st_loadx hw rfl g0) rfl ?_))
      exact Post.ret1 rfl rfl ⟨_,rfl,hw,rfl⟩
    · repeat' (first|(first|refine CW.seq ?_|refine CW.region ?_|refine CW.block ?_|refine CW.condd_t rfl (by omega) ?_|refine CW.condd_f rfl (by omega) ?_|refine CW.skip ?_)|(first|refine Post.seq ?_|refine Post.blk ?_)|refine SW.nil ?_|refine SW.pure rfl rfl ?_|(show SW _ _ _ _ (⟨_,Op.fieldAddr _ _ _,_,_,_,none⟩::_) _ _;refine SW.st (st_field rfl) rfl ?_)|(show SW _ _ _ _ (⟨_,Op.binOp _ _ _ _ _,_,_,_,none⟩::_) _ _;refine SW.st (st_add rfl rfl (by omega) (by omega)) rfl ?_)|(show SW _ _ _ _ (⟨_,Op.indexAddr _ _ _,_,_,_,none⟩::_) _ _;refine SW.st (st_indexN rfl rfl (by assumption) (by omega)) rfl ?_)|(show SW _ _ _ _ (⟨_,Op.call ⟨.builtin .len,_,_⟩,_,_,_,none⟩::_) _ _;refine SW.st (st_len rfl) rfl ?_)|(show SW _ _ _ _ (⟨_,Op.load _ _,_,_,_,none⟩::_) _ _;first|refine SW.st (st_load rfl (hb2.cell (i:=4) (v := .slice q.Slabs.A q.Slabs.n q.Slabs.c) rfl)) rfl ?_|refine SW.st (st_loadx hw rfl g0) rfl ?_))
      exact Post.again (k+1) ⟨rfl,rfl,rfl,trivial⟩ (by omega) ⟨by omega,hw,hb2,fun i h h'=>by
        by_cases e:i=k
        · subst e;exact decide_eq_false hx
        · exact hI i h (by omega)⟩
  · rw [(idxOf_none fun i h=>hI i h (by omega)).1]
    repeat' (first|(first|refine CW.seq ?_|refine CW.region ?_|refine CW.condd_f rfl (by omega) ?_|refine CW.ret ?_|refine CW.exit ?_)|(first|refine Post.seq ?_|refine Post.seq_exit ?_|refine Post.hit ?_|refine Post.again_exit ?_)|refine SW.nil ?_|refine SW.pure rfl rfl ?_|(show SW _ _ _ _ (⟨_,Op.fieldAddr _ _ _,_,_,_,none⟩::_) _ _;refine SW.st (st_field rfl) rfl ?_)|(show SW _ _ _ _ (⟨_,Op.call ⟨.builtin .len,_,_⟩,_,_,_,none⟩::_) _ _;refine SW.st (st_len rfl) rfl ?_)|(show SW _ _ _ _ (⟨_,Op.load _ _,_,_,_,none⟩::_) _ _;refine SW.st (st_load rfl (hb2.cell (i:=4) (v := .slice q.Slabs.A q.Slabs.n q.Slabs.c) rfl)) rfl ?_))
    exact Post.ret1 rfl rfl ⟨_,rfl,hw,rfl⟩
theorem ChainOut.bool {lo:Nat} {ws:List Int} {size per:Int} {x:Slab} {v:Value} {w:World} (h:ChainOut lo ws size per x v w) : ∃ A n c b,v = .tuple #[.slice A n c,.bool b]∧(b=true ↔ ∃ out,ChainIs ws size per x out):=by
  rcases h with ⟨out,A5,c5,hC,rfl,_,_⟩|⟨hno,rfl⟩
  · exact ⟨_,_,_,true,rfl,by simp;exact ⟨out,hC⟩⟩
  · exact ⟨_,_,_,false,rfl,by simp;exact hno⟩
set_option maxHeartbeats 4000000 in
theorem CacheMay_ans (r:SRow) (s:KSystem) (q:CRow) (c:KCache) (w:World) (hr:RdS w r s) (hq:RdC w q c) (hs:s.small) (hcs:c.small) (hH:HeapMay s.Heap) :
    Ans Tryz.prog 67 [.agg (encSys r).toArray,.agg (encC q).toArray] w fun v _=>v = .bool (cacheB s c):=by
  refine ans_of Tryz.func67 rfl Tryz.ntmps67 rfl ?_
  refine CW.seq (CW.region (SW.box rfl rfl fun b2 w1 hw hb2b hb2 => ?_))
  refine SW.box rfl rfl fun b3 w2 hw2 hb3b hb3 => ?_
  (replace hw:=Ext.trans hw hw2;replace hb2:=hb2.ext hw2)
  obtain ⟨o,n,e,hE⟩ : ∃ o n e,layoutF c.Size=(o,n,e):=⟨_,_,_,rfl⟩
  have eS:=hq.size
  have eP:=hq.per
  have eO:=hq.order
  have n1:=hq.names.len
  have n2:=hq.slabs.len
  have n3:=hq.active.len
  have m1:=hcs.names
  have m2:=hcs.slabs
  have m3:=hcs.active
  have eC:=hr.heap.cpus
  have wl:=hr.words.len
  have m4:=hs.words
  have hll:=hr.heap.live.len
  have m5:=hs.heap.live
  have cL:∀ w',Ans Tryz.prog 105 [.int .i64 q.Size] w' fun v _=>v = .tuple #[.int .i64 o,.int .i64 n,.int .i64 e]:=fun w'=>layout_nf (LayoutOf_ans q.Size w') (by rw [eS];exact hE)
  rcases (show ¬ (e=0∧c.Order=o∧c.Per=n∧0<c.Names.length∧(c.Active.length:Int)=s.Heap.Cpus)∨(e=0∧c.Order=o∧c.Per=n∧0<c.Names.length∧(c.Active.length:Int)=s.Heap.Cpus) by omega) with hbad|⟨h1,h2,h3,h4,h5⟩
  · have hF:cacheB s c=false:=cacheB_f fun hm=>hbad (by
      have:=hm.lay
      rw [hE] at this
      simp only [Prod.mk.injEq] at this
      exact ⟨this.2.2,this.1.symm,this.2.1.symm,hm.names,hm.active⟩)
    rw [hF]
    rcases (show e≠0∨(e=0∧c.Order≠o)∨(e=0∧c.Order=o∧c.Per≠n)∨(e=0∧c.Order=o∧c.Per=n∧c.Names.length=0)∨(e=0∧c.Order=o∧c.Per=n∧0<c.Names.length∧(c.Active.length:Int)≠s.Heap.Cpus) by omega) with g|g|g|g|g
    all_goals
      repeat' (first|(first|refine CW.seq ?_|refine CW.region ?_|refine CW.condtr rfl (by with_reducible rfl) ?_|refine CW.condn_t rfl (by omega) ?_|refine CW.ret ?_)|(first|refine Post.seq ?_|refine Post.seq_ret ?_)|refine SW.nil ?_|(show SW _ _ _ _ (⟨_,_,_,_,_,some _⟩::_) _ _;first|refine SW.want_f rfl rfl (by with_reducible rfl) ?_|refine SW.skip_f rfl rfl (by with_reducible rfl) rfl ?_|refine SW.splitd_t rfl rfl rfl (by omega) ?_|refine SW.splitd_f rfl rfl rfl (by omega) ?_|refine SW.splitn_t rfl rfl rfl (by omega) ?_|refine SW.splitn_f rfl rfl rfl (by omega) ?_)|refine SW.pure rfl rfl ?_|(show SW _ _ _ _ (⟨_,Op.fieldAddr _ _ _,_,_,_,none⟩::_) _ _;refine SW.st (st_field rfl) rfl ?_)|(show SW _ _ _ _ (⟨_,Op.call ⟨.builtin .len,_,_⟩,_,_,_,none⟩::_) _ _;refine SW.st (st_len rfl) rfl ?_)|(show SW _ _ _ _ (⟨_,Op.load _ _,_,_,_,none⟩::_) _ _;first|refine SW.st (st_load rfl (hb3.cell rfl)) rfl ?_|refine SW.st (st_load rfl (hb2.cell (i:=3) (v := .int .i64 r.Heap.Cpus) rfl)) rfl ?_)|(show SW _ _ _ _ (⟨_,Op.call ⟨.value (.func _),_,_⟩,_,_,_,none⟩::_) _ _;(refine SW.call rfl rfl (cL _) ?_;intro v w1 hw1 hv;subst hv;replace hw:=Ext.trans hw hw1;replace hb2:=hb2.ext hw1;replace hb3:=hb3.ext hw1;clear hw1)))
      all_goals first|(exfalso;omega)|skip
      exact Post.ret1 rfl rfl ⟨_,rfl,hw,rfl⟩
  · subst h1
    have hlay:layoutF c.Size=(c.Order,c.Per,0):=by rw [hE,h2,h3]
    obtain ⟨l1,l2,l3⟩:=layoutF_ok hE
    have hlt:=live_lt hH.live
    have hLb:∀ b∈s.Heap.Live,0≤b.At∧b.At≤255:=fun b hb=>by
      obtain ⟨i,hi,rfl⟩:=List.getElem_of_mem hb
      exact (hH.live.each i hi).2.1
    repeat' (first|(first|refine CW.seq ?_|refine CW.region ?_|refine CW.block ?_|refine CW.condn_f rfl (by omega) ?_|refine CW.skip ?_)|(refine Post.seq ?_)|refine SW.nil ?_|(show SW _ _ _ _ (⟨_,_,_,_,_,some _⟩::_) _ _;first|refine SW.want_f rfl rfl (by with_reducible rfl) ?_|refine SW.splitd_f rfl rfl rfl (by omega) ?_|refine SW.splitn_f rfl rfl rfl (by omega) ?_)|refine SW.pure rfl rfl ?_|(show SW _ _ _ _ (⟨_,Op.fieldAddr _ _ _,_,_,_,none⟩::_) _ _;refine SW.st (st_field rfl) rfl ?_)|(show SW _ _ _ _ (⟨_,Op.call ⟨.builtin .len,_,_⟩,_,_,_,none⟩::_) _ _;refine SW.st (st_len rfl) rfl ?_)|(show SW _ _ _ _ (⟨_,Op.load _ _,_,_,_,none⟩::_) _ _;first|refine SW.st (st_load rfl (hb3.cell rfl)) rfl ?_|refine SW.st (st_load rfl (hb2.cell (i:=3) (v := .int .i64 r.Heap.Cpus) rfl)) rfl ?_)|(show SW _ _ _ _ (⟨_,Op.call ⟨.value (.func _),_,_⟩,_,_,_,none⟩::_) _ _;(refine SW.call rfl rfl (cL _) ?_;intro v w1 hw1 hv;subst hv;replace hw:=Ext.trans hw hw1;replace hb2:=hb2.ext hw1;replace hb3:=hb3.ext hw1;clear hw1)))
    all_goals first|(exfalso;omega)|skip
    clear cL
    refine CW.loop (fun k:Nat=>[(2,.pointer (some ⟨b2,0,none⟩)),(3,.pointer (some ⟨b3,0,none⟩)),(5,.int .i64 o),(8,.int .i64 (k:Int))])
      (fun k w'=>k≤q.Slabs.n∧Ext w w'∧Blk w' b2 30 (encSys r)∧Blk w' b3 44 (encC q) ∧ ∀ (i:Nat) (h:i<c.Slabs.length),i<k→SlabMay s c i h) (fun k=>q.Slabs.n-k) 0
      ⟨rfl,rfl,rfl,rfl,trivial⟩ ⟨by omega,hw,hb2,hb3,fun i h h'=>by omega⟩ ?_
    clear hw hb2 hb3
    rintro k w' ⟨hk,hw,hb2,hb3,hI⟩
    have hA:=hq.slabs.base
    by_cases hkn:k<q.Slabs.n
    · have hkl:k<c.Slabs.length:=by omega
      have g0:=hq.slabs.fld hkn (j:=0) (u := .int .i64 c.Slabs[k].At) rfl
      obtain ⟨z,hz⟩ : ∃ z,ordA s.Heap.Live c.Slabs[k].At=z:=⟨_,rfl⟩
      have cO:∀ w',Ext w w'→Ans Tryz.prog 106 [.agg (encH r.Heap).toArray,.int .i64 c.Slabs[k].At] w' fun v _=>v = .int .i64 z:=fun w' hx=>by
        have:=liveOrder_ans r.Heap s.Heap.Live c.Slabs[k].At w' (hr.heap.live.ext hx) hlt (by omega)
        rwa [hz] at this
      by_cases hord:z=o
      · have hfo:foundA s.Heap.Live c.Slabs[k].At=true:=by
          cases hfo:foundA s.Heap.Live c.Slabs[k].At
          · rw [ordA_f hfo] at hz
            omega
          · rfl
        obtain ⟨hm0,hma⟩:=found_at hfo
        have ht : 0≤c.Slabs[k].At∧c.Slabs[k].At≤255:=by
          have:=hLb _ (List.getElem_mem hm0)
          omega
        have hS : 1≤q.Size∧q.Size≤64:=by omega
        have hP : 1≤q.Per∧q.Per≤64:=by omega
        by_cases hnx : 0<k→(c.Slabs[k-1]'(by omega)).At<c.Slabs[k].At
        · rcases Nat.eq_zero_or_pos k with hk0|hk0
          all_goals
            first
            | (have gP:=hq.slabs.fld (show k-1<q.Slabs.n by omega) (j:=0) (u := .int .i64 (c.Slabs[k-1]'(by omega)).At) rfl
               have hlt':=hnx hk0)
            | skip
          all_goals
            repeat' (first|(first|refine CW.seq ?_|refine CW.region ?_|refine CW.block ?_|refine CW.condd_t rfl (by omega) ?_|refine CW.skip ?_)|(refine Post.seq ?_)|refine SW.nil ?_|refine SW.pure rfl rfl ?_|(show SW _ _ _ _ (⟨_,Op.fieldAddr _ _ _,_,_,_,none⟩::_) _ _;refine SW.st (st_field rfl) rfl ?_)|(show SW _ _ _ _ (⟨_,Op.call ⟨.builtin .len,_,_⟩,_,_,_,none⟩::_) _ _;refine SW.st (st_len rfl) rfl ?_)|(show SW _ _ _ _ (⟨_,Op.load _ _,_,_,_,none⟩::_) _ _;refine SW.st (st_load rfl (hb3.cell rfl)) rfl ?_))
            (apply CW.quiet1 mixed;(· kernel_rfl);rotate_left;intro w1 hw1;replace hw:=Ext.trans hw hw1;replace hb2:=hb2.ext hw1;replace hb3:=hb3.ext hw1;clear hw1;rotate_right)
            repeat' (first|(first|refine CW.seq ?_|refine CW.condfr rfl (by with_reducible rfl) ?_|refine CW.condd_f rfl (by omega) ?_|refine CW.skip ?_)|(refine Post.seq ?_)|(show SW _ _ _ _ (⟨_,_,_,_,_,some _⟩::_) _ _;first|refine SW.want_t rfl rfl (by with_reducible rfl) ?_|refine SW.want_f rfl rfl (by with_reducible rfl) ?_|refine SW.skip_t rfl rfl (by with_reducible rfl) rfl ?_|refine SW.splitd_t rfl rfl rfl (by omega) ?_|refine SW.splitd_f rfl rfl rfl (by omega) ?_|refine SW.splitn_f rfl rfl rfl (by omega) ?_)|refine SW.pure rfl rfl ?_|(show SW _ _ _ _ (⟨_,Op.fieldAddr _ _ _,_,_,_,none⟩::_) _ _;refine SW.st (st_field rfl) rfl ?_)|(show SW _ _ _ _ (⟨_,Op.binOp _ _ _ _ _,_,_,_,none⟩::_) _ _;refine SW.st (st_sub rfl rfl (by omega) (by omega)) rfl ?_)|(show SW _ _ _ _ (⟨_,Op.indexAddr _ _ _,_,_,_,none⟩::_) _ _;first|refine SW.st (st_indexN rfl rfl (by assumption) (by omega)) rfl ?_|refine SW.st (st_indexI (k-1) rfl rfl (by assumption) (by omega) (by omega)) rfl ?_)|(show SW _ _ _ _ (⟨_,Op.load _ _,_,_,_,none⟩::_) _ _;first|refine SW.st (st_loads rfl rfl ((heapIn hb2))) rfl ?_|refine SW.st (st_load rfl (hb3.cell rfl)) rfl ?_|refine SW.st (st_loadx hw rfl g0) rfl ?_|refine SW.st (st_loadx hw rfl gP) rfl ?_)|(show SW _ _ _ _ (⟨_,Op.call ⟨.value (.func _),_,_⟩,_,_,_,none⟩::_) _ _;refine SW.qcall rfl rfl (fun w1 hw1=>(cO _ (Ext.trans hw hw1))) ?_)|exact SW.qnil rfl)
            all_goals first|(exfalso;omega)|skip
            refine CW.any 12 mixed (rb_tail (by kernel_rfl)) rfl fun w1 hw1 hRB => ?_
            replace hw:=Ext.trans hw hw1;replace hb2:=hb2.ext hw1;replace hb3:=hb3.ext hw1;clear hw1
            refine SA.take 0 hRB rfl (by kernel_rfl) (by kernel_rfl) rfl ?_
            repeat ((show SW _ _ _ _ (⟨_,Op.load _ _,_,_,_,none⟩::_) _ _;refine SW.st (st_loads rfl rfl ((fun _ _=>hb2.cell))) rfl ?_))
            refine SW.tknil ?_
            refine SA.take 1 hRB rfl (by kernel_rfl) (by kernel_rfl) rfl ?_
            repeat ((show SW _ _ _ _ (⟨_,Op.load _ _,_,_,_,none⟩::_) _ _;refine SW.st (st_loads rfl rfl ((fun _ _=>hb3.cell))) rfl ?_))
            refine SW.tknil ?_
            refine SA.take 2 hRB rfl (by kernel_rfl) (by kernel_rfl) rfl ?_
            repeat ((show SW _ _ _ _ (⟨_,Op.fieldAddr _ _ _,_,_,_,none⟩::_) _ _;refine SW.st (st_field rfl) rfl ?_))
            refine SW.tknil ?_
            refine SA.take 3 hRB rfl (by kernel_rfl) (by kernel_rfl) rfl ?_
            repeat ((show SW _ _ _ _ (⟨_,Op.load _ _,_,_,_,none⟩::_) _ _;refine SW.st (st_load rfl (hb3.cell rfl)) rfl ?_))
            refine SW.tknil ?_
            refine SA.take 4 hRB rfl (by kernel_rfl) (by kernel_rfl) rfl ?_
            repeat (refine SW.pure rfl rfl ?_)
            refine SW.tknil ?_
            refine SA.take 5 hRB rfl (by kernel_rfl) (by kernel_rfl) rfl ?_
            repeat ((show SW _ _ _ _ (⟨_,Op.indexAddr _ _ _,_,_,_,none⟩::_) _ _;refine SW.st (st_indexN rfl rfl (by assumption) (by omega)) rfl ?_))
            refine SW.tknil ?_
            refine SA.take 6 hRB rfl (by kernel_rfl) (by kernel_rfl) rfl ?_
            repeat ((show SW _ _ _ _ (⟨_,Op.load _ _,_,_,_,none⟩::_) _ _;refine SW.st (st_loadsx hw rfl rfl ((hq.slabs.all hkn))) rfl ?_))
            refine SW.tknil ?_
            refine SA.one 7 rfl (by kernel_rfl) rfl ?_
            refine SW.call rfl rfl (freeIn_ans r q c.Slabs[k] s.Words _ (hr.words.ext hw) (by omega) hS hP ht) fun v w5 hXX hv5 => ?_
            (replace hw:=Ext.trans hw hXX;replace hb2:=hb2.ext hXX;replace hb3:=hb3.ext hXX)
            rw [eS,eP] at hv5
            obtain ⟨A5,n5,c5,bb,rfl,hb⟩:=ChainOut.bool hv5
            refine SW.nil (Post.sa hXX ?_)
            refine SA.take 8 hRB rfl (by kernel_rfl) (by kernel_rfl) rfl ?_
            repeat (refine SW.pure rfl rfl ?_)
            refine SW.tknil ?_
            refine SA.take 9 hRB rfl (by kernel_rfl) (by kernel_rfl) rfl ?_
            repeat (refine SW.pure rfl rfl ?_)
            refine SW.tknil ?_
            refine SA.take 10 hRB rfl (by kernel_rfl) (by kernel_rfl) rfl ?_
            repeat (refine SW.pure rfl rfl ?_)
            refine SW.tknil ?_
            refine SA.take 11 hRB rfl (by kernel_rfl) (by kernel_rfl) rfl ?_
            repeat (refine SW.pure rfl rfl ?_)
            refine SW.tknil ?_
            refine SA.done (by kernel_rfl) ?_
            cases bb
            · rw [cacheB_f fun hm=>by simpa using hb.2 (hm.slabs k hkl).chain]
              repeat' (first|(first|refine CW.seq ?_|refine CW.region ?_|refine CW.condt rfl ?_|refine CW.ret ?_)|(first|refine Post.seq ?_|refine Post.seq_ret ?_|refine Post.blk_ret ?_|refine Post.again_ret ?_|refine Post.np ?_)|refine SW.nil ?_|refine SW.pure rfl rfl ?_)
              exact Post.ret1 rfl rfl ⟨_,rfl,hw,rfl⟩
            · repeat' (first|(first|refine CW.seq ?_|refine CW.region ?_|refine CW.condf rfl ?_|refine CW.skip ?_)|(first|refine Post.seq ?_|refine Post.blk ?_|refine Post.np ?_)|refine SW.nil ?_|refine SW.pure rfl rfl ?_|(show SW _ _ _ _ (⟨_,Op.binOp _ _ _ _ _,_,_,_,none⟩::_) _ _;refine SW.st (st_add rfl rfl (by omega) (by omega)) rfl ?_))
              exact Post.again (k+1) ⟨rfl,rfl,rfl,rfl,trivial⟩ (by omega) ⟨by omega,hw,hb2,hb3,fun i h h'=>by
                by_cases ei:i=k
                · subst ei;exact ⟨by omega,hnx,hb.1 rfl⟩
                · exact hI i h (by omega)⟩
        · have hk0 : 0<k:=by
            rcases Nat.eq_zero_or_pos k with h|h
            · exact absurd (fun h'=>by omega) hnx
            · exact h
          have hge : ¬ (c.Slabs[k-1]'(by omega)).At<c.Slabs[k].At:=fun h=>hnx fun _=>h
          have gP:=hq.slabs.fld (show k-1<q.Slabs.n by omega) (j:=0) (u := .int .i64 (c.Slabs[k-1]'(by omega)).At) rfl
          rw [cacheB_f fun hm=>hge ((hm.slabs k hkl).next hk0)]
          repeat' (first|(first|refine CW.seq ?_|refine CW.region ?_|refine CW.block ?_|refine CW.condd_t rfl (by omega) ?_|refine CW.skip ?_|refine CW.ret ?_|(apply CW.quiet1 mixed;(· kernel_rfl);rotate_left;intro w1 hw1;replace hw:=Ext.trans hw hw1;replace hb2:=hb2.ext hw1;replace hb3:=hb3.ext hw1;clear hw1;rotate_right))|(first|refine Post.seq ?_|refine Post.seq_ret ?_|refine Post.blk_ret ?_|refine Post.again_ret ?_)|refine SW.nil ?_|(show SW _ _ _ _ (⟨_,_,_,_,_,some _⟩::_) _ _;first|refine SW.want_t rfl rfl (by with_reducible rfl) ?_|refine SW.want_f rfl rfl (by with_reducible rfl) ?_|refine SW.splitd_t rfl rfl rfl (by omega) ?_|refine SW.splitn_f rfl rfl rfl (by omega) ?_)|refine SW.pure rfl rfl ?_|(show SW _ _ _ _ (⟨_,Op.fieldAddr _ _ _,_,_,_,none⟩::_) _ _;refine SW.st (st_field rfl) rfl ?_)|(show SW _ _ _ _ (⟨_,Op.binOp _ _ _ _ _,_,_,_,none⟩::_) _ _;refine SW.st (st_sub rfl rfl (by omega) (by omega)) rfl ?_)|(show SW _ _ _ _ (⟨_,Op.indexAddr _ _ _,_,_,_,none⟩::_) _ _;first|refine SW.st (st_indexN rfl rfl (by assumption) (by omega)) rfl ?_|refine SW.st (st_indexI (k-1) rfl rfl (by assumption) (by omega) (by omega)) rfl ?_)|(show SW _ _ _ _ (⟨_,Op.call ⟨.builtin .len,_,_⟩,_,_,_,none⟩::_) _ _;refine SW.st (st_len rfl) rfl ?_)|(show SW _ _ _ _ (⟨_,Op.load _ _,_,_,_,none⟩::_) _ _;first|refine SW.st (st_loads rfl rfl ((heapIn hb2))) rfl ?_|refine SW.st (st_load rfl (hb3.cell rfl)) rfl ?_|refine SW.st (st_loadx hw rfl g0) rfl ?_|refine SW.st (st_loadx hw rfl gP) rfl ?_)|(show SW _ _ _ _ (⟨_,Op.call ⟨.value (.func _),_,_⟩,_,_,_,none⟩::_) _ _;refine SW.qcall rfl rfl (fun w1 hw1=>(cO _ (Ext.trans hw hw1))) ?_)|exact SW.qnil rfl)
          all_goals first|(exfalso;omega)|skip
          exact Post.ret1 rfl rfl ⟨_,rfl,hw,rfl⟩
      · rw [cacheB_f fun hm=>hord (by have:=(hm.slabs k hkl).live;omega)]
        repeat' (first|(first|refine CW.seq ?_|refine CW.region ?_|refine CW.block ?_|refine CW.condtr rfl (by with_reducible rfl) ?_|refine CW.condd_t rfl (by omega) ?_|refine CW.skip ?_|refine CW.ret ?_|(apply CW.quiet1 mixed;(· kernel_rfl);rotate_left;intro w1 hw1;replace hw:=Ext.trans hw hw1;replace hb2:=hb2.ext hw1;replace hb3:=hb3.ext hw1;clear hw1;rotate_right))|(first|refine Post.seq ?_|refine Post.seq_ret ?_|refine Post.blk_ret ?_|refine Post.again_ret ?_)|refine SW.nil ?_|(show SW _ _ _ _ (⟨_,_,_,_,_,some _⟩::_) _ _;first|refine SW.skip_f rfl rfl (by with_reducible rfl) rfl ?_|refine SW.skip_u rfl rfl (by with_reducible rfl) rfl ?_|refine SW.splitn_t rfl rfl rfl (by omega) ?_)|refine SW.pure rfl rfl ?_|(show SW _ _ _ _ (⟨_,Op.fieldAddr _ _ _,_,_,_,none⟩::_) _ _;refine SW.st (st_field rfl) rfl ?_)|(show SW _ _ _ _ (⟨_,Op.indexAddr _ _ _,_,_,_,none⟩::_) _ _;refine SW.st (st_indexN rfl rfl (by assumption) (by omega)) rfl ?_)|(show SW _ _ _ _ (⟨_,Op.call ⟨.builtin .len,_,_⟩,_,_,_,none⟩::_) _ _;refine SW.st (st_len rfl) rfl ?_)|(show SW _ _ _ _ (⟨_,Op.load _ _,_,_,_,none⟩::_) _ _;first|refine SW.st (st_loads rfl rfl ((heapIn hb2))) rfl ?_|refine SW.st (st_load rfl (hb3.cell rfl)) rfl ?_|refine SW.st (st_loadx hw rfl g0) rfl ?_)|(show SW _ _ _ _ (⟨_,Op.call ⟨.value (.func _),_,_⟩,_,_,_,none⟩::_) _ _;refine SW.qcall rfl rfl (fun w1 hw1=>(cO _ (Ext.trans hw hw1))) ?_)|exact SW.qnil rfl)
        all_goals first|(exfalso;omega)|skip
        exact Post.ret1 rfl rfl ⟨_,rfl,hw,rfl⟩
    · have hall:∀ (i:Nat) (h:i<c.Slabs.length),SlabMay s c i h:=fun i h=>hI i h (by omega)
      repeat' (first|(first|refine CW.seq ?_|refine CW.region ?_|refine CW.block ?_|refine CW.condd_f rfl (by omega) ?_|refine CW.exit ?_)|(first|refine Post.seq ?_|refine Post.seq_exit ?_|refine Post.hit ?_|refine Post.again_exit ?_)|refine SW.nil ?_|refine SW.pure rfl rfl ?_|(show SW _ _ _ _ (⟨_,Op.fieldAddr _ _ _,_,_,_,none⟩::_) _ _;refine SW.st (st_field rfl) rfl ?_)|(show SW _ _ _ _ (⟨_,Op.call ⟨.builtin .len,_,_⟩,_,_,_,none⟩::_) _ _;refine SW.st (st_len rfl) rfl ?_)|(show SW _ _ _ _ (⟨_,Op.load _ _,_,_,_,none⟩::_) _ _;refine SW.st (st_load rfl (hb3.cell rfl)) rfl ?_))
      clear hI hkn hk hA
      refine CW.loop (fun k:Nat=>[(3,.pointer (some ⟨b3,0,none⟩)),(11,.int .i64 (k:Int))])
        (fun k w'=>k≤q.Active.n∧Ext w w'∧Blk w' b3 44 (encC q) ∧ ∀ (i:Nat) (h:i<c.Active.length),i<k→ActMay c i h) (fun k=>q.Active.n-k) 0
        ⟨rfl,rfl,trivial⟩ ⟨by omega,hw,hb3,fun i h h'=>by omega⟩ ?_
      clear hw hb3 hb2
      rintro k w' ⟨hk,hw,hb3,hI⟩
      have hA:=hq.active.base
      by_cases hkn:k<q.Active.n
      · have hkl:k<c.Active.length:=by omega
        obtain ⟨a,ea⟩ : ∃ a,c.Active[k]=a:=⟨_,rfl⟩
        have gA:=hq.active.one hkn (u := .int .i64 a) (by rw [← ea];rfl)
        by_cases ha:a = -1
        · repeat' (first|(first|refine CW.seq ?_|refine CW.region ?_|refine CW.block ?_|refine CW.condd_t rfl (by omega) ?_|refine CW.skip ?_|refine CW.exit ?_)|(first|refine Post.seq ?_|refine Post.seq_exit ?_|refine Post.hit ?_)|refine SW.nil ?_|refine SW.pure rfl rfl ?_|(show SW _ _ _ _ (⟨_,Op.fieldAddr _ _ _,_,_,_,none⟩::_) _ _;refine SW.st (st_field rfl) rfl ?_)|(show SW _ _ _ _ (⟨_,Op.binOp _ _ _ _ _,_,_,_,none⟩::_) _ _;refine SW.st (st_add rfl rfl (by omega) (by omega)) rfl ?_)|(show SW _ _ _ _ (⟨_,Op.indexAddr _ _ _,_,_,_,none⟩::_) _ _;refine SW.st (st_indexN rfl rfl (by assumption) (by omega)) rfl ?_)|(show SW _ _ _ _ (⟨_,Op.call ⟨.builtin .len,_,_⟩,_,_,_,none⟩::_) _ _;refine SW.st (st_len rfl) rfl ?_)|(show SW _ _ _ _ (⟨_,Op.load _ _,_,_,_,none⟩::_) _ _;first|refine SW.st (st_loadx hw rfl gA) rfl ?_|refine SW.st (st_load rfl (hb3.cell rfl)) rfl ?_))
          exact Post.again (k+1) ⟨rfl,rfl,trivial⟩ (by omega) ⟨by omega,hw,hb3,fun i h h'=>by
            by_cases ei:i=k
            · subst ei;exact .inl (by omega)
            · exact hI i h (by omega)⟩
        · obtain ⟨z,hz⟩ : ∃ z,idxOf (atB a) c.Slabs=z:=⟨_,rfl⟩
          have hzi:=idxOf_ge (atB a) c.Slabs
          rw [hz] at hzi
          have cF:∀ w',Ext w w'→Ans Tryz.prog 107 [.agg (encC q).toArray,.int .i64 a] w' fun v _=>v = .int .i64 z:=fun w' hx=>by
            have:=slabAt_ans q c.Slabs a w' (hq.slabs.ext hx) (by omega)
            rwa [hz] at this
          by_cases hz0 : 0≤z
          · repeat' (first|(first|refine CW.seq ?_|refine CW.region ?_|refine CW.block ?_|refine CW.condd_t rfl (by omega) ?_|refine CW.condd_f rfl (by omega) ?_|refine CW.skip ?_|(apply CW.quiet1 mixed;(· kernel_rfl);rotate_left;intro w1 hw1;replace hw:=Ext.trans hw hw1;replace hb3:=hb3.ext hw1;clear hw1;rotate_right))|(refine Post.seq ?_)|refine SW.nil ?_|refine SW.pure rfl rfl ?_|(show SW _ _ _ _ (⟨_,Op.fieldAddr _ _ _,_,_,_,none⟩::_) _ _;refine SW.st (st_field rfl) rfl ?_)|(show SW _ _ _ _ (⟨_,Op.indexAddr _ _ _,_,_,_,none⟩::_) _ _;refine SW.st (st_indexN rfl rfl (by assumption) (by omega)) rfl ?_)|(show SW _ _ _ _ (⟨_,Op.call ⟨.builtin .len,_,_⟩,_,_,_,none⟩::_) _ _;refine SW.st (st_len rfl) rfl ?_)|(show SW _ _ _ _ (⟨_,Op.load _ _,_,_,_,none⟩::_) _ _;first|refine SW.st (st_loadx hw rfl gA) rfl ?_|refine SW.st (st_load rfl (hb3.cell rfl)) rfl ?_|refine SW.st (st_loads rfl rfl ((fun _ _=>hb3.cell))) rfl ?_)|(show SW _ _ _ _ (⟨_,Op.call ⟨.value (.func _),_,_⟩,_,_,_,none⟩::_) _ _;refine SW.qcall rfl rfl (fun w1 hw1=>(cF _ (Ext.trans hw hw1))) ?_)|exact SW.qnil rfl)
            all_goals first|(exfalso;omega)|skip
            refine CW.loop (fun j:Nat=>[(3,.pointer (some ⟨b3,0,none⟩)),(11,.int .i64 (k:Int)),(12,.int .i64 (j:Int))])
              (fun j w'=>j≤k∧Ext w w'∧Blk w' b3 44 (encC q) ∧ ∀ (i:Nat) (h:i<c.Active.length),i<j→c.Active[i]≠a) (fun j=>k-j) 0
              ⟨rfl,rfl,rfl,trivial⟩ ⟨by omega,hw,hb3,fun i h h'=>by omega⟩ ?_
            clear hw hb3
            rintro j w' ⟨hj,hw,hb3,hJ⟩
            by_cases hjk:j<k
            · have gJ:=hq.active.one (show j<q.Active.n by omega) (u := .int .i64 (c.Active[j]'(by omega))) rfl
              by_cases hx:(c.Active[j]'(by omega))=a
              · rw [cacheB_f fun hm=>by
                  rcases hm.acts k hkl with g|⟨g1,g2⟩
                  · omega
                  · rw [ea] at g1
                    exact g1 (List.mem_take_iff_getElem.2 ⟨j,by omega,hx⟩)]
                repeat' (first|(first|refine CW.seq ?_|refine CW.region ?_|refine CW.block ?_|refine CW.condd_t rfl (by omega) ?_|refine CW.skip ?_|refine CW.ret ?_|(apply CW.quiet1 mixed;(· kernel_rfl);rotate_left;intro w1 hw1;replace hw:=Ext.trans hw hw1;replace hb3:=hb3.ext hw1;clear hw1;rotate_right))|(first|refine Post.seq ?_|refine Post.seq_ret ?_|refine Post.blk_ret ?_|refine Post.again_ret ?_)|refine SW.nil ?_|refine SW.pure rfl rfl ?_|(show SW _ _ _ _ (⟨_,Op.fieldAddr _ _ _,_,_,_,none⟩::_) _ _;refine SW.st (st_field rfl) rfl ?_)|(show SW _ _ _ _ (⟨_,Op.indexAddr _ _ _,_,_,_,none⟩::_) _ _;refine SW.st (st_indexN rfl rfl (by assumption) (by omega)) rfl ?_)|(show SW _ _ _ _ (⟨_,Op.load _ _,_,_,_,none⟩::_) _ _;first|refine SW.st (st_loadx hw rfl gA) rfl ?_|refine SW.st (st_loadx hw rfl gJ) rfl ?_|refine SW.st (st_load rfl (hb3.cell rfl)) rfl ?_)|exact SW.qnil rfl)
                all_goals first|(exfalso;omega)|skip
                exact Post.ret1 rfl rfl ⟨_,rfl,hw,rfl⟩
              · repeat' (first|(first|refine CW.seq ?_|refine CW.region ?_|refine CW.block ?_|refine CW.condd_t rfl (by omega) ?_|refine CW.condd_f rfl (by omega) ?_|refine CW.skip ?_|(apply CW.quiet1 mixed;(· kernel_rfl);rotate_left;intro w1 hw1;replace hw:=Ext.trans hw hw1;replace hb3:=hb3.ext hw1;clear hw1;rotate_right))|(first|refine Post.seq ?_|refine Post.blk ?_)|refine SW.nil ?_|refine SW.pure rfl rfl ?_|(show SW _ _ _ _ (⟨_,Op.fieldAddr _ _ _,_,_,_,none⟩::_) _ _;refine SW.st (st_field rfl) rfl ?_)|(show SW _ _ _ _ (⟨_,Op.binOp _ _ _ _ _,_,_,_,none⟩::_) _ _;refine SW.st (st_add rfl rfl (by omega) (by omega)) rfl ?_)|(show SW _ _ _ _ (⟨_,Op.indexAddr _ _ _,_,_,_,none⟩::_) _ _;refine SW.st (st_indexN rfl rfl (by assumption) (by omega)) rfl ?_)|(show SW _ _ _ _ (⟨_,Op.load _ _,_,_,_,none⟩::_) _ _;first|refine SW.st (st_loadx hw rfl gA) rfl ?_|refine SW.st (st_loadx hw rfl gJ) rfl ?_|refine SW.st (st_load rfl (hb3.cell rfl)) rfl ?_)|exact SW.qnil rfl)
                all_goals first|(exfalso;omega)|skip
                exact Post.again (j+1) ⟨rfl,rfl,rfl,trivial⟩ (by omega) ⟨by omega,hw,hb3,fun i h h'=>by
                  by_cases ei:i=j
                  · subst ei;exact hx
                  · exact hJ i h (by omega)⟩
            · repeat' (first|(first|refine CW.seq ?_|refine CW.region ?_|refine CW.condd_f rfl (by omega) ?_|refine CW.exit ?_)|(first|refine Post.seq ?_|refine Post.seq_exit ?_|refine Post.hit ?_|refine Post.blk ?_|refine Post.again_exit ?_)|refine SW.nil ?_|refine SW.pure rfl rfl ?_|(show SW _ _ _ _ (⟨_,Op.binOp _ _ _ _ _,_,_,_,none⟩::_) _ _;refine SW.st (st_add rfl rfl (by omega) (by omega)) rfl ?_))
              exact Post.again (k+1) ⟨rfl,rfl,trivial⟩ (by omega) ⟨by omega,hw,hb3,fun i h h'=>by
                by_cases ei:i=k
                · subst ei
                  refine .inr ⟨?_,by rw [ea,← hzi];exact decide_eq_true hz0⟩
                  rw [ea]
                  intro hm
                  obtain ⟨i',hi',e'⟩:=List.mem_take_iff_getElem.1 hm
                  exact hJ i' (by omega) (by omega) e'
                · exact hI i h (by omega)⟩
          · rw [cacheB_f fun hm=>by
              rcases hm.acts k hkl with g|⟨g1,g2⟩
              · omega
              · rw [ea] at g2
                rw [g2] at hzi
                exact hz0 (of_decide_eq_true hzi)]
            repeat' (first|(first|refine CW.seq ?_|refine CW.region ?_|refine CW.block ?_|refine CW.condd_t rfl (by omega) ?_|refine CW.condd_f rfl (by omega) ?_|refine CW.skip ?_|refine CW.ret ?_|(apply CW.quiet1 mixed;(· kernel_rfl);rotate_left;intro w1 hw1;replace hw:=Ext.trans hw hw1;replace hb3:=hb3.ext hw1;clear hw1;rotate_right))|(first|refine Post.seq ?_|refine Post.seq_ret ?_|refine Post.blk_ret ?_|refine Post.again_ret ?_)|refine SW.nil ?_|refine SW.pure rfl rfl ?_|(show SW _ _ _ _ (⟨_,Op.fieldAddr _ _ _,_,_,_,none⟩::_) _ _;refine SW.st (st_field rfl) rfl ?_)|(show SW _ _ _ _ (⟨_,Op.indexAddr _ _ _,_,_,_,none⟩::_) _ _;refine SW.st (st_indexN rfl rfl (by assumption) (by omega)) rfl ?_)|(show SW _ _ _ _ (⟨_,Op.call ⟨.builtin .len,_,_⟩,_,_,_,none⟩::_) _ _;refine SW.st (st_len rfl) rfl ?_)|(show SW _ _ _ _ (⟨_,Op.load _ _,_,_,_,none⟩::_) _ _;first|refine SW.st (st_loadx hw rfl gA) rfl ?_|refine SW.st (st_load rfl (hb3.cell rfl)) rfl ?_|refine SW.st (st_loads rfl rfl ((fun _ _=>hb3.cell))) rfl ?_)|(show SW _ _ _ _ (⟨_,Op.call ⟨.value (.func _),_,_⟩,_,_,_,none⟩::_) _ _;refine SW.qcall rfl rfl (fun w1 hw1=>(cF _ (Ext.trans hw hw1))) ?_)|exact SW.qnil rfl)
            all_goals first|(exfalso;omega)|skip
            exact Post.ret1 rfl rfl ⟨_,rfl,hw,rfl⟩
      · rw [cacheB_t ⟨hlay,h4,h5,hall,fun i h=>hI i h (by omega)⟩]
        repeat' (first|(first|refine CW.seq ?_|refine CW.region ?_|refine CW.condd_f rfl (by omega) ?_|refine CW.ret ?_|refine CW.exit ?_)|(first|refine Post.seq ?_|refine Post.seq_exit ?_|refine Post.hit ?_|refine Post.again_exit ?_)|refine SW.nil ?_|refine SW.pure rfl rfl ?_|(show SW _ _ _ _ (⟨_,Op.fieldAddr _ _ _,_,_,_,none⟩::_) _ _;refine SW.st (st_field rfl) rfl ?_)|(show SW _ _ _ _ (⟨_,Op.call ⟨.builtin .len,_,_⟩,_,_,_,none⟩::_) _ _;refine SW.st (st_len rfl) rfl ?_)|(show SW _ _ _ _ (⟨_,Op.load _ _,_,_,_,none⟩::_) _ _;refine SW.st (st_load rfl (hb3.cell rfl)) rfl ?_))
        exact Post.ret1 rfl rfl ⟨_,rfl,hw,rfl⟩
end Go.Proofs.YtigikedbffjeiaaGreat
