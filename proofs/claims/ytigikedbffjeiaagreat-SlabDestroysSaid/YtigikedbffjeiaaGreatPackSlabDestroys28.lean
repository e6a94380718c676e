/-
  Texts of the claim SlabDestroys, part 28: what its theorem leans on.
-/
import Derived.Test.YtigikedbffjeiaaGreatPackSlabDestroys6
import Derived.Test.YtigikedbffjeiaaGreatPackSlabDestroys25
import Derived.Test.YtigikedbffjeiaaGreatPackSlabDestroys27
set_option linter.unusedVariables false
set_option linter.unusedSimpArgs false
namespace Go.Proofs.YtigikedbffjeiaaGreat
open Go.RowKit
section
variable {P:Program} {L:Env} {w:World} {d:Option Nat} {T:TypeId} {pos:String} {af:Array Edge} {g:Option (Nat×Bool)}
theorem st_neStr {t ty:TypeId} {x y:Operand} {a:ByteArray} (hx:opv L x=some (.string a)) (hy:opv L y=some (.string a)) : St P ⟨d,.binOp .neq t x y ty,T,pos,af,g⟩ L w (.bool false) :=
 ⟨fun _ A hA w' _=>by
  have e1:=hA.eval hx
  have e2:=hA.eval hy
  generalize A.eval = ρ at *
  have h1:(binOp .neq t (.string a) (.string a)).run P w' = .ok (.bool false) w':=by
   have:binOp .neq t (.string a) (.string a)=Op.stringOp .neq a a:=by simp [binOp]
   rw [this]
   simp [Op.stringOp,pure]
  simp [execOp,e1,e2,eqGuard,h1]⟩
theorem st_neSS {t k ty:TypeId} [c:IntsTy P t k] {x y:Operand} (xs:List Int) (hx:opv L x=some (.agg (xs.map (Value.int .i64)).toArray)) (hy:opv L y=some (.agg (xs.map (Value.int .i64)).toArray)) (h1:Nat.beq xs.length k=true) :
  St P ⟨d,.binOp .neq t x y ty,T,pos,af,g⟩ L w (.bool false):=(st_neS xs xs hx hy h1 h1).eq (by simp)
end
def Slab.nums (r:Slab) : List Int:=[r.At,r.Free,r.First]
set_option maxHeartbeats 4000000 in
theorem sameSystem_ans (r q:SRow) (s:KSystem) (w:World) (ha:RdS w r s) (hb:RdS w q s) (hs:s.small) :
  Ans Tryz.prog 9 [.agg (encSys r).toArray,.agg (encSys q).toArray] w fun v _=>v = .bool true:=by
 refine ans_of Tryz.func9 rfl Tryz.ntmps9 rfl ?_
 refine CW.seq (CW.region (SW.box rfl rfl fun b2 w1 hw hb2b hb2 => ?_))
 refine SW.box rfl rfl fun b3 w2 hw2 hb3b hb3 => ?_
 (replace hw:=Ext.trans hw hw2;replace hb2:=hb2.ext hw2)
 obtain ⟨cs,hc⟩:=ha.caches
 obtain ⟨cs',hc'⟩:=hb.caches
 obtain ⟨z1,z2⟩:=hc.len
 obtain ⟨z3,z4⟩:=hc'.len
 have s1:=hs.words
 have s3:=hs.caches
 have m1:=ha.words.len
 have cM:∀ w',Ext w w'→Ans Tryz.prog 21 [.slice r.Words.A r.Words.n r.Words.c,.slice q.Words.A q.Words.n q.Words.c] w' fun v _=>v = .bool true:=fun w' hx=>by
  have:=sameInts_ans _ _ _ _ r.Words.c q.Words.c _ _ w' (ha.words.ext hx) (hb.words.ext hx) (by omega)
  simpa using this
 have cH:∀ w',Ext w w'→Ans Tryz.prog 22 [.agg (encH r.Heap).toArray,.agg (encH q.Heap).toArray] w' fun v _=>v = .bool true:=fun w' hx=>sameHeap_ans _ _ _ w' (ha.heap.ext hx) (hb.heap.ext hx) hs.heap
 repeat' (first|(first|refine CW.seq ?_|refine CW.region ?_|refine CW.block ?_|refine CW.condf rfl ?_|refine CW.skip ?_)|(refine Post.seq ?_)|refine SW.nil ?_|(show SW _ _ _ _ (⟨_,_,_,_,_,some _⟩::_) _ _;first|refine SW.want_f rfl rfl (by with_reducible rfl) ?_|refine SW.splitn_f rfl rfl rfl (by omega) ?_|refine SW.want rfl rfl ?_)|refine SW.pure rfl rfl ?_|(show SW _ _ _ _ (⟨_,Op.fieldAddr _ _ _,_,_,_,none⟩::_) _ _;refine SW.st (st_field rfl) rfl ?_)|(show SW _ _ _ _ (⟨_,Op.call ⟨.builtin .len,_,_⟩,_,_,_,none⟩::_) _ _;refine SW.st (st_len rfl) rfl ?_)|(show SW _ _ _ _ (⟨_,Op.load _ _,_,_,_,none⟩::_) _ _;first|refine SW.st (st_load rfl (hb2.cell rfl)) rfl ?_|refine SW.st (st_load rfl (hb3.cell rfl)) rfl ?_|refine SW.st (st_loads rfl rfl ((heapIn hb2))) rfl ?_|refine SW.st (st_loads rfl rfl ((heapIn hb3))) rfl ?_)|(show SW _ _ _ _ (⟨_,Op.call ⟨.value (.func _),_,_⟩,_,_,_,none⟩::_) _ _;first|(refine SW.call rfl rfl (cM _ hw) ?_;intro v w1 hw1 hv;subst hv;replace hw:=Ext.trans hw hw1;replace hb2:=hb2.ext hw1;replace hb3:=hb3.ext hw1;clear hw1)|(refine SW.call rfl rfl (cH _ hw) ?_;intro v w1 hw1 hv;subst hv;replace hw:=Ext.trans hw hw1;replace hb2:=hb2.ext hw1;replace hb3:=hb3.ext hw1;clear hw1)))
 all_goals first|(exfalso;omega)|skip
 clear cM cH
 refine CW.loop (fun k:Nat=>[(2,.pointer (some ⟨b2,0,none⟩)),(3,.pointer (some ⟨b3,0,none⟩)),(5,.int .i64 (k:Int))]) (fun k w'=>k≤r.Caches.n∧Ext w w'∧Blk w' b2 30 (encSys r)∧Blk w' b3 30 (encSys q)) (fun k=>r.Caches.n-k) 0
  ⟨rfl,rfl,rfl,trivial⟩ ⟨by omega,hw,hb2,hb3⟩ ?_
 clear hw hb2 hb3
 rintro k w' ⟨hk,hw,hb2,hb3⟩
 have hA:=hc.row.base
 have hB:=hc'.row.base
 by_cases hkn:k<r.Caches.n
 ·have hkn':k<q.Caches.n:=by omega
  have hck:=hc.each.get k (by omega) (by omega)
  have hck':=hc'.each.get k (by omega) (by omega)
  have sm:=hs.each _ (List.getElem_mem (show k<s.Caches.length by omega))
  have q1:=hck.names.len
  have q2:=hck.slabs.len
  have q3:=hck.active.len
  have q1':=hck'.names.len
  have q2':=hck'.slabs.len
  have q4:=sm.names
  have q5:=sm.slabs
  have q6:=sm.active
  have g1:=hck.size
  have g2:=hck.per
  have g3:=hck.order
  have g4:=hck'.size
  have g5:=hck'.per
  have g6:=hck'.order
  have cP:∀ w',Ext w w'→Ans Tryz.prog 21 [.slice cs[k].Active.A cs[k].Active.n cs[k].Active.c,.slice cs'[k].Active.A cs'[k].Active.n cs'[k].Active.c] w' fun v _=>v = .bool true:=fun w' hx=>by
   have:=sameInts_ans _ _ _ _ cs[k].Active.c cs'[k].Active.c _ _ w' (hck.active.ext hx) (hck'.active.ext hx) (by omega)
   simpa using this
  repeat' (first|(first|refine CW.seq ?_|refine CW.region ?_|refine CW.block ?_|refine CW.condd_t rfl (by omega) ?_|refine CW.skip ?_)|(refine Post.seq ?_)|refine SW.nil ?_|refine SW.pure rfl rfl ?_|(show SW _ _ _ _ (⟨_,Op.fieldAddr _ _ _,_,_,_,none⟩::_) _ _;refine SW.st (st_field rfl) rfl ?_)|(show SW _ _ _ _ (⟨_,Op.indexAddr _ _ _,_,_,_,none⟩::_) _ _;refine SW.st (st_indexN rfl rfl (by assumption) (by omega)) rfl ?_)|(show SW _ _ _ _ (⟨_,Op.call ⟨.builtin .len,_,_⟩,_,_,_,none⟩::_) _ _;refine SW.st (st_len rfl) rfl ?_)|(show SW _ _ _ _ (⟨_,Op.load _ _,_,_,_,none⟩::_) _ _;first|refine SW.st (st_load rfl (hb2.cell rfl)) rfl ?_|refine SW.st (st_loadsx hw rfl rfl ((hc.row.all hkn))) rfl ?_))
  refine SW.alloc rfl fun b6 w1 hw1 hb6b hb6 => ?_
  skip
  refine SW.storeAgg hb6 rfl rfl rfl rfl (one_c _) fun w2 hb6' hg => ?_
  have hXX:=hw1.own hb6b hg
  have hb6w:w.heap.size≤b6:=Nat.le_trans hw.size hb6b
  replace hw:=Ext.trans hw hXX
  replace hb2:=hb2.ext hXX
  replace hb3:=hb3.ext hXX
  replace hb6:=hb6'
  clear hb6' hw1 hg hXX
  repeat' (first|(first|refine CW.seq ?_|refine CW.region ?_)|(refine Post.seq ?_)|refine SW.nil ?_|refine SW.pure rfl rfl ?_|(show SW _ _ _ _ (⟨_,Op.fieldAddr _ _ _,_,_,_,none⟩::_) _ _;refine SW.st (st_field rfl) rfl ?_)|(show SW _ _ _ _ (⟨_,Op.indexAddr _ _ _,_,_,_,none⟩::_) _ _;refine SW.st (st_indexN rfl rfl (by assumption) (by omega)) rfl ?_)|(show SW _ _ _ _ (⟨_,Op.load _ _,_,_,_,none⟩::_) _ _;first|refine SW.st (st_load rfl (hb3.cell rfl)) rfl ?_|refine SW.st (st_loadsx hw rfl rfl ((hc'.row.all hkn'))) rfl ?_))
  refine SW.alloc rfl fun b7 w1 hw1 hb7b hb7 => ?_
  skip
  refine SW.storeAgg hb7 rfl rfl rfl rfl (one_c _) fun w2 hb7' hg => ?_
  have hXX:=hw1.own hb7b hg
  have hb7w:w.heap.size≤b7:=Nat.le_trans hw.size hb7b
  replace hw:=Ext.trans hw hXX
  replace hb2:=hb2.ext hXX
  replace hb3:=hb3.ext hXX
  replace hb6:=hb6.ext hXX
  replace hb7:=hb7'
  clear hb7' hw1 hg hXX
  repeat' (first|(first|refine CW.seq ?_|refine CW.region ?_|refine CW.block ?_|refine CW.condf rfl ?_|refine CW.skip ?_)|(refine Post.seq ?_)|refine SW.nil ?_|(show SW _ _ _ _ (⟨_,_,_,_,_,some _⟩::_) _ _;first|refine SW.want_f rfl rfl (by with_reducible rfl) ?_|refine SW.splitn_f rfl rfl rfl (by omega) ?_)|refine SW.pure rfl rfl ?_|(show SW _ _ _ _ (⟨_,Op.fieldAddr _ _ _,_,_,_,none⟩::_) _ _;refine SW.st (st_field rfl) rfl ?_)|(show SW _ _ _ _ (⟨_,Op.call ⟨.builtin .len,_,_⟩,_,_,_,none⟩::_) _ _;refine SW.st (st_len rfl) rfl ?_)|(show SW _ _ _ _ (⟨_,Op.load _ _,_,_,_,none⟩::_) _ _;first|refine SW.st (st_load rfl (hb6.cell rfl)) rfl ?_|refine SW.st (st_load rfl (hb7.cell rfl)) rfl ?_)|(show SW _ _ _ _ (⟨_,Op.call ⟨.value (.func _),_,_⟩,_,_,_,none⟩::_) _ _;(refine SW.call rfl rfl (cP _ hw) ?_;intro v w1 hw1 hv;subst hv;replace hw:=Ext.trans hw hw1;replace hb2:=hb2.ext hw1;replace hb3:=hb3.ext hw1;replace hb6:=hb6.ext hw1;replace hb7:=hb7.ext hw1;clear hw1)))
  all_goals first|(exfalso;omega)|skip
  clear cP
  refine CW.loop (fun j:Nat=>[(2,.pointer (some ⟨b2,0,none⟩)),(3,.pointer (some ⟨b3,0,none⟩)),(5,.int .i64 (k:Int)),(6,.pointer (some ⟨b6,0,none⟩)),(7,.pointer (some ⟨b7,0,none⟩)),(8,.int .i64 (j:Int))])
   (fun j w'=>j≤cs[k].Names.n∧Ext w w'∧Blk w' b2 30 (encSys r)∧Blk w' b3 30 (encSys q)∧Blk w' b6 44 (encC cs[k])∧Blk w' b7 44 (encC cs'[k])) (fun j=>cs[k].Names.n-j) 0
   ⟨rfl,rfl,rfl,rfl,rfl,rfl,trivial⟩ ⟨by omega,hw,hb2,hb3,hb6,hb7⟩ ?_
  clear hw hb2 hb3 hb6 hb7
  rintro j w' ⟨hj,hw,hb2,hb3,hb6,hb7⟩
  have hA1:=hck.names.base
  have hB1:=hck'.names.base
  by_cases hjn:j<cs[k].Names.n
  ·have hjn':j<cs'[k].Names.n:=by omega
   repeat' (first|(first|refine CW.seq ?_|refine CW.region ?_|refine CW.block ?_|refine CW.condfr rfl (by with_reducible rfl) ?_|refine CW.condd_t rfl (by omega) ?_|refine CW.skip ?_|(apply CW.quiet1 mixed;(· kernel_rfl);rotate_left;intro w1 hw1;replace hw:=Ext.trans hw hw1;replace hb2:=hb2.ext hw1;replace hb3:=hb3.ext hw1;replace hb6:=hb6.ext hw1;replace hb7:=hb7.ext hw1;clear hw1;rotate_right))|(first|refine Post.seq ?_|refine Post.blk ?_)|refine SW.nil ?_|refine SW.pure rfl rfl ?_|(show SW _ _ _ _ (⟨_,Op.fieldAddr _ _ _,_,_,_,none⟩::_) _ _;refine SW.st (st_field rfl) rfl ?_)|(show SW _ _ _ _ (⟨_,Op.binOp _ _ _ _ _,_,_,_,none⟩::_) _ _;refine SW.st (st_add rfl rfl (by omega) (by omega)) rfl ?_)|(show SW _ _ _ _ (⟨_,Op.indexAddr _ _ _,_,_,_,none⟩::_) _ _;refine SW.st (st_indexN rfl rfl (by assumption) (by omega)) rfl ?_)|(show SW _ _ _ _ (⟨_,Op.call ⟨.builtin .len,_,_⟩,_,_,_,none⟩::_) _ _;refine SW.st (st_len rfl) rfl ?_)|(show SW _ _ _ _ (⟨_,Op.load _ _,_,_,_,none⟩::_) _ _;first|refine SW.st (st_load rfl (hb6.cell rfl)) rfl ?_|refine SW.st (st_load rfl (hb7.cell rfl)) rfl ?_|refine SW.st (st_loadx hw rfl (hck.names.one hjn rfl)) rfl ?_|refine SW.st (st_loadx hw rfl (hck'.names.one hjn' rfl)) rfl ?_)|(refine SW.st (st_neStr rfl rfl) rfl ?_)|exact SW.qnil rfl)
   exact Post.again (j+1) ⟨rfl,rfl,rfl,rfl,rfl,rfl,trivial⟩ (by omega) ⟨by omega,hw,hb2,hb3,hb6,hb7⟩
  ·repeat' (first|(first|refine CW.seq ?_|refine CW.region ?_|refine CW.block ?_|refine CW.condd_f rfl (by omega) ?_|refine CW.exit ?_)|(first|refine Post.seq ?_|refine Post.seq_exit ?_|refine Post.hit ?_|refine Post.again_exit ?_)|refine SW.nil ?_|refine SW.pure rfl rfl ?_|(show SW _ _ _ _ (⟨_,Op.fieldAddr _ _ _,_,_,_,none⟩::_) _ _;refine SW.st (st_field rfl) rfl ?_)|(show SW _ _ _ _ (⟨_,Op.call ⟨.builtin .len,_,_⟩,_,_,_,none⟩::_) _ _;refine SW.st (st_len rfl) rfl ?_)|(show SW _ _ _ _ (⟨_,Op.load _ _,_,_,_,none⟩::_) _ _;refine SW.st (st_load rfl (hb6.cell rfl)) rfl ?_))
   clear hjn hj hA1 hB1
   refine CW.loop (fun j:Nat=>[(2,.pointer (some ⟨b2,0,none⟩)),(3,.pointer (some ⟨b3,0,none⟩)),(5,.int .i64 (k:Int)),(6,.pointer (some ⟨b6,0,none⟩)),(7,.pointer (some ⟨b7,0,none⟩)),(9,.int .i64 (j:Int))])
    (fun j w'=>j≤cs[k].Slabs.n∧Ext w w'∧Blk w' b2 30 (encSys r)∧Blk w' b3 30 (encSys q)∧Blk w' b6 44 (encC cs[k])∧Blk w' b7 44 (encC cs'[k])) (fun j=>cs[k].Slabs.n-j) 0
    ⟨rfl,rfl,rfl,rfl,rfl,rfl,trivial⟩ ⟨by omega,hw,hb2,hb3,hb6,hb7⟩ ?_
   clear hw hb2 hb3 hb6 hb7
   rintro j w' ⟨hj,hw,hb2,hb3,hb6,hb7⟩
   have hA1:=hck.slabs.base
   have hB1:=hck'.slabs.base
   by_cases hjn:j<cs[k].Slabs.n
   ·have hjn':j<cs'[k].Slabs.n:=by omega
    repeat' (first|(first|refine CW.seq ?_|refine CW.region ?_|refine CW.block ?_|refine CW.condfr rfl (by with_reducible rfl) ?_|refine CW.condd_t rfl (by omega) ?_|refine CW.skip ?_|(apply CW.quiet1 mixed;(· kernel_rfl);rotate_left;intro w1 hw1;replace hw:=Ext.trans hw hw1;replace hb2:=hb2.ext hw1;replace hb3:=hb3.ext hw1;replace hb6:=hb6.ext hw1;replace hb7:=hb7.ext hw1;clear hw1;rotate_right))|(first|refine Post.seq ?_|refine Post.blk ?_)|refine SW.nil ?_|refine SW.pure rfl rfl ?_|(show SW _ _ _ _ (⟨_,Op.fieldAddr _ _ _,_,_,_,none⟩::_) _ _;refine SW.st (st_field rfl) rfl ?_)|(show SW _ _ _ _ (⟨_,Op.binOp _ _ _ _ _,_,_,_,none⟩::_) _ _;refine SW.st (st_add rfl rfl (by omega) (by omega)) rfl ?_)|(show SW _ _ _ _ (⟨_,Op.indexAddr _ _ _,_,_,_,none⟩::_) _ _;refine SW.st (st_indexN rfl rfl (by assumption) (by omega)) rfl ?_)|(show SW _ _ _ _ (⟨_,Op.call ⟨.builtin .len,_,_⟩,_,_,_,none⟩::_) _ _;refine SW.st (st_len rfl) rfl ?_)|(show SW _ _ _ _ (⟨_,Op.load _ _,_,_,_,none⟩::_) _ _;first|refine SW.st (st_load rfl (hb6.cell rfl)) rfl ?_|refine SW.st (st_load rfl (hb7.cell rfl)) rfl ?_|refine SW.st (st_loadsx hw rfl rfl ((hck.slabs.all hjn))) rfl ?_|refine SW.st (st_loadsx hw rfl rfl ((hck'.slabs.all hjn'))) rfl ?_)|(refine SW.st (st_neSS (Slab.nums (s.Caches[k]).Slabs[j]) rfl rfl rfl) rfl ?_)|exact SW.qnil rfl)
    exact Post.again (j+1) ⟨rfl,rfl,rfl,rfl,rfl,rfl,trivial⟩ (by omega) ⟨by omega,hw,hb2,hb3,hb6,hb7⟩
   ·repeat' (first|(first|refine CW.seq ?_|refine CW.region ?_|refine CW.condd_f rfl (by omega) ?_|refine CW.exit ?_)|(first|refine Post.seq ?_|refine Post.seq_exit ?_|refine Post.hit ?_|refine Post.blk ?_|refine Post.again_exit ?_)|refine SW.nil ?_|refine SW.pure rfl rfl ?_|(show SW _ _ _ _ (⟨_,Op.fieldAddr _ _ _,_,_,_,none⟩::_) _ _;refine SW.st (st_field rfl) rfl ?_)|(show SW _ _ _ _ (⟨_,Op.binOp _ _ _ _ _,_,_,_,none⟩::_) _ _;refine SW.st (st_add rfl rfl (by omega) (by omega)) rfl ?_)|(show SW _ _ _ _ (⟨_,Op.call ⟨.builtin .len,_,_⟩,_,_,_,none⟩::_) _ _;refine SW.st (st_len rfl) rfl ?_)|(show SW _ _ _ _ (⟨_,Op.load _ _,_,_,_,none⟩::_) _ _;refine SW.st (st_load rfl (hb6.cell rfl)) rfl ?_))
    exact Post.again (k+1) ⟨rfl,rfl,rfl,trivial⟩ (by omega) ⟨by omega,hw,hb2,hb3⟩
 ·repeat' (first|(first|refine CW.seq ?_|refine CW.region ?_|refine CW.condd_f rfl (by omega) ?_|refine CW.ret ?_|refine CW.exit ?_)|(first|refine Post.seq ?_|refine Post.seq_exit ?_|refine Post.hit ?_|refine Post.again_exit ?_)|refine SW.nil ?_|refine SW.pure rfl rfl ?_|(show SW _ _ _ _ (⟨_,Op.fieldAddr _ _ _,_,_,_,none⟩::_) _ _;refine SW.st (st_field rfl) rfl ?_)|(show SW _ _ _ _ (⟨_,Op.call ⟨.builtin .len,_,_⟩,_,_,_,none⟩::_) _ _;refine SW.st (st_len rfl) rfl ?_)|(show SW _ _ _ _ (⟨_,Op.load _ _,_,_,_,none⟩::_) _ _;refine SW.st (st_load rfl (hb2.cell rfl)) rfl ?_))
  exact Post.ret1 rfl rfl ⟨_,rfl,hw,rfl⟩
open Go.RowKit
set_option maxHeartbeats 2000000 in
theorem slabDestroys_ans (r:SRow) (s:KSystem) (n:ByteArray) (w:World) (hr:RdS w r s) (hf:s.fine) (hns:n.size≤140737488351232) :
  Ans Tryz.prog 5 [.agg (encSys r).toArray,.string n] w fun v _=>v = .bool true:=by
 refine ans_of Tryz.func5 rfl Tryz.ntmps5 rfl ?_
 have hs:=hf.small
 refine CW.seq (CW.region (SW.box rfl rfl fun b1 w1 hw hb1b hb1 => ?_))
 repeat' (first|(first|refine CW.seq ?_|refine CW.region ?_)|(refine Post.seq ?_)|refine SW.nil ?_|refine SW.pure rfl rfl ?_|(show SW _ _ _ _ (⟨_,Op.load _ _,_,_,_,none⟩::_) _ _;refine SW.st (st_loads rfl rfl ((fun _ _=>hb1.cell))) rfl ?_))
 refine SW.call rfl rfl (SystemCopyX_ans r s _ (hr.ext hw) hs) fun v w4 hw4 hv => ?_
 obtain ⟨k,cs,rfl,hKX,_⟩:=hv
 have hK:=hKX.ownS
 clear hKX
 (replace hw:=Ext.trans hw hw4;replace hb1:=hb1.ext hw4)
 refine SW.alloc rfl fun b3 w1 hw1 hb3b hb3 => ?_
 skip
 refine SW.storeAgg hb3 rfl rfl rfl rfl (one_s k) fun w2 hb3' hg => ?_
 have hXX:=hw1.own hb3b hg
 have hb3w:w.heap.size≤b3:=Nat.le_trans hw.size hb3b
 replace hw:=Ext.trans hw hXX
 replace hb1:=hb1.ext hXX
 replace hK:=hK.ext hXX
 replace hb3:=hb3'
 clear hb3' hw1 hg hXX
 repeat' (first|(first|refine CW.seq ?_|refine CW.region ?_)|(refine Post.seq ?_)|refine SW.nil ?_|refine SW.pure rfl rfl ?_|(show SW _ _ _ _ (⟨_,Op.load _ _,_,_,_,none⟩::_) _ _;refine SW.st (st_loads rfl rfl ((fun _ _=>hb3.cell))) rfl ?_))
 refine SW.call rfl rfl (Destroy_ans k s n _ hK.rd hf hns) fun v w5 hw5 hv => ?_
 obtain ⟨o,hu,s1,rfl,hs1⟩:=hv
 have hsm:=hu.small hf
 (replace hw:=Ext.trans hw hw5;replace hb1:=hb1.ext hw5;replace hb3:=hb3.ext hw5;replace hK:=hK.ext hw5)
 repeat' (refine SW.pure rfl rfl ?_)
 refine SW.alloc rfl fun b4 w1 hw1 hb4b hb4 => ?_
 skip
 refine SW.storeAgg hb4 rfl rfl rfl rfl (one_s s1) fun w2 hb4' hg => ?_
 have hXX:=hw1.own hb4b hg
 have hb4w:w.heap.size≤b4:=Nat.le_trans hw.size hb4b
 replace hw:=Ext.trans hw hXX
 replace hb1:=hb1.ext hXX
 replace hb3:=hb3.ext hXX
 replace hK:=hK.ext hXX
 replace hs1:=hs1.ext hXX
 replace hb4:=hb4'
 clear hb4' hw1 hg hXX
 repeat' (first|(first|refine CW.seq ?_|refine CW.region ?_)|(refine Post.seq ?_)|refine SW.nil ?_|refine SW.pure rfl rfl ?_|(show SW _ _ _ _ (⟨_,Op.load _ _,_,_,_,none⟩::_) _ _;refine SW.st (st_loads rfl rfl ((fun _ _=>hb1.cell))) rfl ?_))
 refine SW.call rfl rfl (DestroyedOf_ans r s n _ (hr.ext hw) hf) fun v w6 hw6 hv => ?_
 obtain ⟨o',hu',s2,rfl,hs2⟩:=hv
 obtain rfl:=hu.det hu'
 (replace hw:=Ext.trans hw hw6;replace hb1:=hb1.ext hw6;replace hb3:=hb3.ext hw6;replace hb4:=hb4.ext hw6;replace hK:=hK.ext hw6;replace hs1:=hs1.ext hw6)
 repeat' (refine SW.pure rfl rfl ?_)
 refine SW.alloc rfl fun b6 w1 hw1 hb6b hb6 => ?_
 skip
 refine SW.storeAgg hb6 rfl rfl rfl rfl (one_s s2) fun w2 hb6' hg => ?_
 have hXX:=hw1.own hb6b hg
 have hb6w:w.heap.size≤b6:=Nat.le_trans hw.size hb6b
 replace hw:=Ext.trans hw hXX
 replace hb1:=hb1.ext hXX
 replace hb3:=hb3.ext hXX
 replace hb4:=hb4.ext hXX
 replace hK:=hK.ext hXX
 replace hs1:=hs1.ext hXX
 replace hs2:=hs2.ext hXX
 replace hb6:=hb6'
 clear hb6' hw1 hg hXX
 have cA:∀ w',Ext w w'→RdS w' s1 o.1→RdS w' s2 o.1→Ans Tryz.prog 9 [.agg (encSys s1).toArray,.agg (encSys s2).toArray] w' fun v _=>v = .bool true:=fun w' _ h1 h2=>sameSystem_ans s1 s2 o.1 w' h1 h2 hsm
 have cB:∀ w',Ext w w'→RdS w' k s→Ans Tryz.prog 9 [.agg (encSys k).toArray,.agg (encSys r).toArray] w' fun v _=>v = .bool true:=fun w' hx h1=>sameSystem_ans k r s w' h1 (hr.ext hx) hs
 repeat' (first|(first|refine CW.seq ?_|refine CW.region ?_|refine CW.ret ?_)|(refine Post.seq ?_)|refine SW.nil ?_|(show SW _ _ _ _ (⟨_,_,_,_,_,some _⟩::_) _ _;first|refine SW.want_t rfl rfl (by with_reducible rfl) ?_|refine SW.splitd_t rfl rfl rfl (by omega) ?_)|refine SW.pure rfl rfl ?_|(show SW _ _ _ _ (⟨_,Op.load _ _,_,_,_,none⟩::_) _ _;first|refine SW.st (st_loads rfl rfl ((fun _ _=>hb4.cell))) rfl ?_|refine SW.st (st_loads rfl rfl ((fun _ _=>hb6.cell))) rfl ?_|refine SW.st (st_loads rfl rfl ((fun _ _=>hb3.cell))) rfl ?_|refine SW.st (st_loads rfl rfl ((fun _ _=>hb1.cell))) rfl ?_)|(show SW _ _ _ _ (⟨_,Op.call ⟨.value (.func _),_,_⟩,_,_,_,none⟩::_) _ _;first|(refine SW.call rfl rfl (cA _ hw hs1.rd hs2.rd) ?_;intro v w1 hw1 hv;subst hv;replace hw:=Ext.trans hw hw1;replace hb1:=hb1.ext hw1;replace hb3:=hb3.ext hw1;replace hb4:=hb4.ext hw1;replace hb6:=hb6.ext hw1;replace hK:=hK.ext hw1;replace hs1:=hs1.ext hw1;replace hs2:=hs2.ext hw1;clear hw1)|(refine SW.call rfl rfl (cB _ hw hK.rd) ?_;intro v w1 hw1 hv;subst hv;replace hw:=Ext.trans hw hw1;replace hb1:=hb1.ext hw1;replace hb3:=hb3.ext hw1;replace hb4:=hb4.ext hw1;replace hb6:=hb6.ext hw1;replace hK:=hK.ext hw1;replace hs1:=hs1.ext hw1;replace hs2:=hs2.ext hw1;clear hw1)))
 exact Post.ret1 rfl rfl ⟨_,rfl,hw,rfl⟩
end Go.Proofs.YtigikedbffjeiaaGreat
