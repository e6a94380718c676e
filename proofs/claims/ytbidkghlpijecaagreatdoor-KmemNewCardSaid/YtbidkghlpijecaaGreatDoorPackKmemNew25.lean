/-
  Texts of the claim KmemNew, part 25: what its theorem leans on.
-/
import Derived.Test.YtbidkghlpijecaaGreatDoorPackKmemNew21
import Derived.Test.YtbidkghlpijecaaGreatDoorPackKmemNew4
import Derived.Test.YtbidkghlpijecaaGreatDoorPackKmemNew6
import Derived.Test.YtbidkghlpijecaaGreatDoorPackKmemNew3
import Derived.Test.YtbidkghlpijecaaGreatDoorPackKmemNew14
import Derived.Test.YtbidkghlpijecaaGreatDoorPackKmemNew9
import Derived.Test.YtbidkghlpijecaaGreatDoorPackKmemNew24
import Derived.Test.YtbidkghlpijecaaGreatDoorPackKmemNew2
import Derived.Test.YtbidkghlpijecaaGreatDoorPackKmemNew17
set_option linter.unusedVariables false
set_option linter.unusedSimpArgs false
namespace Go.Proofs.YtbidkghlpijecaaGreatDoor
open Go.RowKit
section
variable {P:Program} {L:Env} {w:World} {d:Option Nat} {T:TypeId} {pos:String} {af:Array Edge} {g:Option (Nat×Bool)}
theorem st_neStr {t ty:TypeId} {x y:Operand} {a:ByteArray} (hx:opv L x=some (.string a)) (hy:opv L y=some (.string a)) : St P ⟨d,.binOp .neq t x y ty,T,pos,af,g⟩ L w (.bool false) :=
 ⟨fun _ A hA w' _=>by
  have e1:=hA.eval hx
  have e2:=hA.eval hy
  generalize A.eval = ρ at *
  have h1:(binOp .neq t (.string a) (.string a)).run P w' = .ok (.bool false) w':=by
   have:binOp .neq t (.string a) (.string a)=Op.stringOp .neq a a:=by simp [binOp]
   rw [this]
   simp [Op.stringOp,pure]
  simp [execOp,e1,e2,eqGuard,h1]⟩
theorem st_neSS {t k ty:TypeId} [c:IntsTy P t k] {x y:Operand} (xs:List Int) (hx:opv L x=some (.agg (xs.map (Value.int .i64)).toArray)) (hy:opv L y=some (.agg (xs.map (Value.int .i64)).toArray)) (h1:Nat.beq xs.length k=true) :
 St P ⟨d,.binOp .neq t x y ty,T,pos,af,g⟩ L w (.bool false):=(st_neS xs xs hx hy h1 h1).eq (by simp)
end
def Slab.nums (r:Slab) : List Int:=[r.At,r.Free,r.First]
set_option maxHeartbeats 4000000 in
theorem sameSystem_ans (r q:SRow) (s:KSystem) (w:World) (ha:RdS w r s) (hb:RdS w q s) (hs:s.small) :
 Ans Tryz.prog 23 [.agg (encSys r).toArray,.agg (encSys q).toArray] w fun v _=>v = .bool true:=by
 refine ans_of Tryz.func23 rfl Tryz.ntmps23 rfl ?_
 refine CW.seq (CW.region (SW.box rfl rfl fun b2 w1 hw hb2b hb2 => ?_))
 refine SW.box rfl rfl fun b3 w2 hw2 hb3b hb3 => ?_
 (replace hw:=Ext.trans hw hw2;replace hb2:=hb2.ext hw2)
 obtain ⟨cs,hc⟩:=ha.caches
 obtain ⟨cs',hc'⟩:=hb.caches
 obtain ⟨z1,z2⟩:=hc.len
 obtain ⟨z3,z4⟩:=hc'.len
 have s1:=hs.words
 have s3:=hs.caches
 have m1:=ha.words.len
 have cM:∀ w',Ext w w'→Ans Tryz.prog 53 [.slice r.Words.A r.Words.n r.Words.c,.slice q.Words.A q.Words.n q.Words.c] w' fun v _=>v = .bool true:=fun w' hx=>by
  have:=sameInts_ans _ _ _ _ r.Words.c q.Words.c _ _ w' (ha.words.ext hx) (hb.words.ext hx) (by omega)
  simpa using this
 have cH:∀ w',Ext w w'→Ans Tryz.prog 54 [.agg (encH r.Heap).toArray,.agg (encH q.Heap).toArray] w' fun v _=>v = .bool true:=fun w' hx=>sameHeap_ans _ _ _ w' (ha.heap.ext hx) (hb.heap.ext hx) hs.heap
 repeat' (first|(first|refine CW.seq ?_|refine CW.region ?_|refine CW.block ?_|refine CW.condf rfl ?_|refine CW.skip ?_)|(refine Post.seq ?_)|refine SW.nil ?_|(show SW _ _ _ _ (⟨_,_,_,_,_,some _⟩::_) _ _;first|refine SW.want_f rfl rfl (by with_reducible rfl) ?_|refine SW.splitn_f rfl rfl rfl (by omega) ?_|refine SW.want rfl rfl ?_)|refine SW.pure rfl rfl ?_|(show SW _ _ _ _ (⟨_,Op.fieldAddr _ _ _,_,_,_,none⟩::_) _ _;refine SW.st (st_field rfl) rfl ?_)|(show SW _ _ _ _ (⟨_,Op.call ⟨.builtin .len,_,_⟩,_,_,_,none⟩::_) _ _;refine SW.st (st_len rfl) rfl ?_)|(show SW _ _ _ _ (⟨_,Op.load _ _,_,_,_,none⟩::_) _ _;first|refine SW.st (st_load rfl (hb2.cell rfl)) rfl ?_|refine SW.st (st_load rfl (hb3.cell rfl)) rfl ?_|refine SW.st (st_loads rfl rfl ((heapIn hb2))) rfl ?_|refine SW.st (st_loads rfl rfl ((heapIn hb3))) rfl ?_)|(show SW _ _ _ _ (⟨_,Op.call ⟨.value (.func _),_,_⟩,_,_,_,none⟩::_) _ _;first|(refine SW.call rfl rfl (cM _ hw) ?_;intro v w1 hw1 hv;subst hv;replace hw:=Ext.trans hw hw1;replace hb2:=hb2.ext hw1;replace hb3:=hb3.ext hw1;clear hw1)|(refine SW.call rfl rfl (cH _ hw) ?_;intro v w1 hw1 hv;subst hv;replace hw:=Ext.trans hw hw1;replace hb2:=hb2.ext hw1;replace hb3:=hb3.ext hw1;clear hw1)))
 all_goals first|(exfalso;omega)|skip
 clear cM cH
 refine CW.loop (fun k:Nat=>[(2,.pointer (some ⟨b2,0,none⟩)),(3,.pointer (some ⟨b3,0,none⟩)),(5,.int .i64 (k:Int))]) (fun k w'=>k≤r.Caches.n∧Ext w w'∧Blk w' b2 44 (encSys r)∧Blk w' b3 44 (encSys q)) (fun k=>r.Caches.n-k) 0
  ⟨rfl,rfl,rfl,trivial⟩ ⟨by omega,hw,hb2,hb3⟩ ?_
 clear hw hb2 hb3
 rintro k w' ⟨hk,hw,hb2,hb3⟩
 have hA:=hc.row.base
 have hB:=hc'.row.base
 by_cases hkn:k<r.Caches.n
 ·have hkn':k<q.Caches.n:=by omega
  have hck:=hc.each.get k (by omega) (by omega)
  have hck':=hc'.each.get k (by omega) (by omega)
  have sm:=hs.each _ (List.getElem_mem (show k<s.Caches.length by omega))
  have q1:=hck.names.len
  have q2:=hck.slabs.len
  have q3:=hck.active.len
  have q1':=hck'.names.len
  have q2':=hck'.slabs.len
  have q4:=sm.names
  have q5:=sm.slabs
  have q6:=sm.active
  have g1:=hck.size
  have g2:=hck.per
  have g3:=hck.order
  have g4:=hck'.size
  have g5:=hck'.per
  have g6:=hck'.order
  have cP:∀ w',Ext w w'→Ans Tryz.prog 53 [.slice cs[k].Active.A cs[k].Active.n cs[k].Active.c,.slice cs'[k].Active.A cs'[k].Active.n cs'[k].Active.c] w' fun v _=>v = .bool true:=fun w' hx=>by
   have:=sameInts_ans _ _ _ _ cs[k].Active.c cs'[k].Active.c _ _ w' (hck.active.ext hx) (hck'.active.ext hx) (by omega)
   simpa using this
  repeat' (first|(first|refine CW.seq ?_|refine CW.region ?_|refine CW.block ?_|refine CW.condd_t rfl (by omega) ?_|refine CW.skip ?_)|(refine Post.seq ?_)|refine SW.nil ?_|refine SW.pure rfl rfl ?_|(show SW _ _ _ _ (⟨_,Op.fieldAddr _ _ _,_,_,_,none⟩::_) _ _;refine SW.st (st_field rfl) rfl ?_)|(show SW _ _ _ _ (⟨_,Op.indexAddr _ _ _,_,_,_,none⟩::_) _ _;refine SW.st (st_indexN rfl rfl (by assumption) (by omega)) rfl ?_)|(show SW _ _ _ _ (⟨_,Op.call ⟨.builtin .len,_,_⟩,_,_,_,none⟩::_) _ _;refine SW.st (st_len rfl) rfl ?_)|(show SW _ _ _ _ (⟨_,Op.load _ _,_,_,_,none⟩::_) _ _;first|refine SW.st (st_load rfl (hb2.cell rfl)) rfl ?_|refine SW.st (st_loadsx hw rfl rfl ((hc.row.all hkn))) rfl ?_))
  refine SW.alloc rfl fun b6 w1 hw1 hb6b hb6 => ?_
  skip
  refine SW.storeAgg hb6 rfl rfl rfl rfl (one_c _) fun w2 hb6' hg => ?_
  have hXX:=hw1.own hb6b hg
  have hb6w:w.heap.size≤b6:=Nat.le_trans hw.size hb6b
  replace hw:=Ext.trans hw hXX
  replace hb2:=hb2.ext hXX
  replace hb3:=hb3.ext hXX
  replace hb6:=hb6'
  clear hb6' hw1 hg hXX
  repeat' (first|(first|refine CW.seq ?_|refine CW.region ?_)|(refine Post.seq ?_)|refine SW.nil ?_|refine SW.pure rfl rfl ?_|(show SW _ _ _ _ (⟨_,Op.fieldAddr _ _ _,_,_,_,none⟩::_) _ _;refine SW.st (st_field rfl) rfl ?_)|(show SW _ _ _ _ (⟨_,Op.indexAddr _ _ _,_,_,_,none⟩::_) _ _;refine SW.st (st_indexN rfl rfl (by assumption) (by omega)) rfl ?_)|(show SW _ _ _ _ (⟨_,Op.load _ _,_,_,_,none⟩::_) _ _;first|refine SW.st (st_load rfl (hb3.cell rfl)) rfl ?_|refine SW.st (st_loadsx hw rfl rfl ((hc'.row.all hkn'))) rfl ?_))
  refine SW.alloc rfl fun b7 w1 hw1 hb7b hb7 => ?_
  skip
  refine SW.storeAgg hb7 rfl rfl rfl rfl (one_c _) fun w2 hb7' hg => ?_
  have hXX:=hw1.own hb7b hg
  have hb7w:w.heap.size≤b7:=Nat.le_trans hw.size hb7b
  replace hw:=Ext.trans hw hXX
  replace hb2:=hb2.ext hXX
  replace hb3:=hb3.ext hXX
  replace hb6:=hb6.ext hXX
  replace hb7:=hb7'
  clear hb7' hw1 hg hXX
  repeat' (first|(first|refine CW.seq ?_|refine CW.region ?_|refine CW.block ?_|refine CW.condf rfl ?_|refine CW.skip ?_)|(refine Post.seq ?_)|refine SW.nil ?_|(show SW _ _ _ _ (⟨_,_,_,_,_,some _⟩::_) _ _;first|refine SW.want_f rfl rfl (by with_reducible rfl) ?_|refine SW.splitn_f rfl rfl rfl (by omega) ?_)|refine SW.pure rfl rfl ?_|(show SW _ _ _ _ (⟨_,Op.fieldAddr _ _ _,_,_,_,none⟩::_) _ _;refine SW.st (st_field rfl) rfl ?_)|(show SW _ _ _ _ (⟨_,Op.call ⟨.builtin .len,_,_⟩,_,_,_,none⟩::_) _ _;refine SW.st (st_len rfl) rfl ?_)|(show SW _ _ _ _ (⟨_,Op.load _ _,_,_,_,none⟩::_) _ _;first|refine SW.st (st_load rfl (hb6.cell rfl)) rfl ?_|refine SW.st (st_load rfl (hb7.cell rfl)) rfl ?_)|(show SW _ _ _ _ (⟨_,Op.call ⟨.value (.func _),_,_⟩,_,_,_,none⟩::_) _ _;(refine SW.call rfl rfl (cP _ hw) ?_;intro v w1 hw1 hv;subst hv;replace hw:=Ext.trans hw hw1;replace hb2:=hb2.ext hw1;replace hb3:=hb3.ext hw1;replace hb6:=hb6.ext hw1;replace hb7:=hb7.ext hw1;clear hw1)))
  all_goals first|(exfalso;omega)|skip
  clear cP
  refine CW.loop (fun j:Nat=>[(2,.pointer (some ⟨b2,0,none⟩)),(3,.pointer (some ⟨b3,0,none⟩)),(5,.int .i64 (k:Int)),(6,.pointer (some ⟨b6,0,none⟩)),(7,.pointer (some ⟨b7,0,none⟩)),(8,.int .i64 (j:Int))])
   (fun j w'=>j≤cs[k].Names.n∧Ext w w'∧Blk w' b2 44 (encSys r)∧Blk w' b3 44 (encSys q)∧Blk w' b6 89 (encC cs[k])∧Blk w' b7 89 (encC cs'[k])) (fun j=>cs[k].Names.n-j) 0
   ⟨rfl,rfl,rfl,rfl,rfl,rfl,trivial⟩ ⟨by omega,hw,hb2,hb3,hb6,hb7⟩ ?_
  clear hw hb2 hb3 hb6 hb7
  rintro j w' ⟨hj,hw,hb2,hb3,hb6,hb7⟩
  have hA1:=hck.names.base
  have hB1:=hck'.names.base
  by_cases hjn:j<cs[k].Names.n
  ·have hjn':j<cs'[k].Names.n:=by omega
   repeat' (first|(first|refine CW.seq ?_|refine CW.region ?_|refine CW.block ?_|refine CW.condfr rfl (by with_reducible rfl) ?_|refine CW.condd_t rfl (by omega) ?_|refine CW.skip ?_|(apply CW.quiet1 mixed;(· kernel_rfl);rotate_left;intro w1 hw1;replace hw:=Ext.trans hw hw1;replace hb2:=hb2.ext hw1;replace hb3:=hb3.ext hw1;replace hb6:=hb6.ext hw1;replace hb7:=hb7.ext hw1;clear hw1;rotate_right))|(first|refine Post.seq ?_|refine Post.blk ?_)|refine SW.nil ?_|refine SW.pure rfl rfl ?_|(show SW _ _ _ _ (⟨_,Op.fieldAddr _ _ _,_,_,_,none⟩::_) _ _;refine SW.st (st_field rfl) rfl ?_)|(show SW _ _ _ _ (⟨_,Op.binOp _ _ _ _ _,_,_,_,none⟩::_) _ _;refine SW.st (st_add rfl rfl (by omega) (by omega)) rfl ?_)|(show SW _ _ _ _ (⟨_,Op.indexAddr _ _ _,_,_,_,none⟩::_) _ _;refine SW.st (st_indexN rfl rfl (by assumption) (by omega)) rfl ?_)|(show SW _ _ _ _ (⟨_,Op.call ⟨.builtin .len,_,_⟩,_,_,_,none⟩::_) _ _;refine SW.st (st_len rfl) rfl ?_)|(show SW _ _ _ _ (⟨_,Op.load _ _,_,_,_,none⟩::_) _ _;first|refine SW.st (st_load rfl (hb6.cell rfl)) rfl ?_|refine SW.st (st_load rfl (hb7.cell rfl)) rfl ?_|refine SW.st (st_loadx hw rfl (hck.names.one hjn rfl)) rfl ?_|refine SW.st (st_loadx hw rfl (hck'.names.one hjn' rfl)) rfl ?_)|(refine SW.st (st_neStr rfl rfl) rfl ?_)|exact SW.qnil rfl)
   exact Post.again (j+1) ⟨rfl,rfl,rfl,rfl,rfl,rfl,trivial⟩ (by omega) ⟨by omega,hw,hb2,hb3,hb6,hb7⟩
  ·repeat' (first|(first|refine CW.seq ?_|refine CW.region ?_|refine CW.block ?_|refine CW.condd_f rfl (by omega) ?_|refine CW.exit ?_)|(first|refine Post.seq ?_|refine Post.seq_exit ?_|refine Post.hit ?_|refine Post.again_exit ?_)|refine SW.nil ?_|refine SW.pure rfl rfl ?_|(show SW _ _ _ _ (⟨_,Op.fieldAddr _ _ _,_,_,_,none⟩::_) _ _;refine SW.st (st_field rfl) rfl ?_)|(show SW _ _ _ _ (⟨_,Op.call ⟨.builtin .len,_,_⟩,_,_,_,none⟩::_) _ _;refine SW.st (st_len rfl) rfl ?_)|(show SW _ _ _ _ (⟨_,Op.load _ _,_,_,_,none⟩::_) _ _;refine SW.st (st_load rfl (hb6.cell rfl)) rfl ?_))
   clear hjn hj hA1 hB1
   refine CW.loop (fun j:Nat=>[(2,.pointer (some ⟨b2,0,none⟩)),(3,.pointer (some ⟨b3,0,none⟩)),(5,.int .i64 (k:Int)),(6,.pointer (some ⟨b6,0,none⟩)),(7,.pointer (some ⟨b7,0,none⟩)),(9,.int .i64 (j:Int))])
    (fun j w'=>j≤cs[k].Slabs.n∧Ext w w'∧Blk w' b2 44 (encSys r)∧Blk w' b3 44 (encSys q)∧Blk w' b6 89 (encC cs[k])∧Blk w' b7 89 (encC cs'[k])) (fun j=>cs[k].Slabs.n-j) 0
    ⟨rfl,rfl,rfl,rfl,rfl,rfl,trivial⟩ ⟨by omega,hw,hb2,hb3,hb6,hb7⟩ ?_
   clear hw hb2 hb3 hb6 hb7
   rintro j w' ⟨hj,hw,hb2,hb3,hb6,hb7⟩
   have hA1:=hck.slabs.base
   have hB1:=hck'.slabs.base
   by_cases hjn:j<cs[k].Slabs.n
   ·have hjn':j<cs'[k].Slabs.n:=by omega
    repeat' (first|(first|refine CW.seq ?_|refine CW.region ?_|refine CW.block ?_|refine CW.condfr rfl (by with_reducible rfl) ?_|refine CW.condd_t rfl (by omega) ?_|refine CW.skip ?_|(apply CW.quiet1 mixed;(· kernel_rfl);rotate_left;intro w1 hw1;replace hw:=Ext.trans hw hw1;replace hb2:=hb2.ext hw1;replace hb3:=hb3.ext hw1;replace hb6:=hb6.ext hw1;replace hb7:=hb7.ext hw1;clear hw1;rotate_right))|(first|refine Post.seq ?_|refine Post.blk ?_)|refine SW.nil ?_|refine SW.pure rfl rfl ?_|(show SW _ _ _ _ (⟨_,Op.fieldAddr _ _ _,_,_,_,none⟩::_) _ _;refine SW.st (st_field rfl) rfl ?_)|(show SW _ _ _ _ (⟨_,Op.binOp _ _ _ _ _,_,_,_,none⟩::_) _ _;refine SW.st (st_add rfl rfl (by omega) (by omega)) rfl ?_)|(show SW _ _ _ _ (⟨_,Op.indexAddr _ _ _,_,_,_,none⟩::_) _ _;refine SW.st (st_indexN rfl rfl (by assumption) (by omega)) rfl ?_)|(show SW _ _ _ _ (⟨_,Op.call ⟨.builtin .len,_,_⟩,_,_,_,none⟩::_) _ _;refine SW.st (st_len rfl) rfl ?_)|(show SW _ _ _ _ (⟨_,Op.load _ _,_,_,_,none⟩::_) _ _;first|refine SW.st (st_load rfl (hb6.cell rfl)) rfl ?_|refine SW.st (st_load rfl (hb7.cell rfl)) rfl ?_|refine SW.st (st_loadsx hw rfl rfl ((hck.slabs.all hjn))) rfl ?_|refine SW.st (st_loadsx hw rfl rfl ((hck'.slabs.all hjn'))) rfl ?_)|(refine SW.st (st_neSS (Slab.nums (s.Caches[k]).Slabs[j]) rfl rfl rfl) rfl ?_)|exact SW.qnil rfl)
    exact Post.again (j+1) ⟨rfl,rfl,rfl,rfl,rfl,rfl,trivial⟩ (by omega) ⟨by omega,hw,hb2,hb3,hb6,hb7⟩
   ·repeat' (first|(first|refine CW.seq ?_|refine CW.region ?_|refine CW.condd_f rfl (by omega) ?_|refine CW.exit ?_)|(first|refine Post.seq ?_|refine Post.seq_exit ?_|refine Post.hit ?_|refine Post.blk ?_|refine Post.again_exit ?_)|refine SW.nil ?_|refine SW.pure rfl rfl ?_|(show SW _ _ _ _ (⟨_,Op.fieldAddr _ _ _,_,_,_,none⟩::_) _ _;refine SW.st (st_field rfl) rfl ?_)|(show SW _ _ _ _ (⟨_,Op.binOp _ _ _ _ _,_,_,_,none⟩::_) _ _;refine SW.st (st_add rfl rfl (by omega) (by omega)) rfl ?_)|(show SW _ _ _ _ (⟨_,Op.call ⟨.builtin .len,_,_⟩,_,_,_,none⟩::_) _ _;refine SW.st (st_len rfl) rfl ?_)|(show SW _ _ _ _ (⟨_,Op.load _ _,_,_,_,none⟩::_) _ _;refine SW.st (st_load rfl (hb6.cell rfl)) rfl ?_))
    exact Post.again (k+1) ⟨rfl,rfl,rfl,trivial⟩ (by omega) ⟨by omega,hw,hb2,hb3⟩
 ·repeat' (first|(first|refine CW.seq ?_|refine CW.region ?_|refine CW.condd_f rfl (by omega) ?_|refine CW.ret ?_|refine CW.exit ?_)|(first|refine Post.seq ?_|refine Post.seq_exit ?_|refine Post.hit ?_|refine Post.again_exit ?_)|refine SW.nil ?_|refine SW.pure rfl rfl ?_|(show SW _ _ _ _ (⟨_,Op.fieldAddr _ _ _,_,_,_,none⟩::_) _ _;refine SW.st (st_field rfl) rfl ?_)|(show SW _ _ _ _ (⟨_,Op.call ⟨.builtin .len,_,_⟩,_,_,_,none⟩::_) _ _;refine SW.st (st_len rfl) rfl ?_)|(show SW _ _ _ _ (⟨_,Op.load _ _,_,_,_,none⟩::_) _ _;refine SW.st (st_load rfl (hb2.cell rfl)) rfl ?_))
  exact Post.ret1 rfl rfl ⟨_,rfl,hw,rfl⟩
open Go.RowKit
theorem OwnS.grT {w w':World} {lo t:Nat} {r:SRow} {s:KSystem} (h:OwnS w lo r s) (hG:GrT w w' t) (hne:(Nat.beq t 3 || (Nat.beq t 165 || (Nat.beq t 139 || (Nat.beq t 142 || (Nat.beq t 89 || (Nat.beq t 9 || Nat.beq t 91))))))=false) : OwnS w' lo r s:=by
 simp only [Bool.or_eq_false_iff] at hne
 obtain ⟨h1,h2,h3,h4,h5,h6,h7⟩:=hne
 obtain ⟨cs,hc⟩:=h.caches
 exact ⟨h.words.grT hG h1,h.heap.grT hG (by simp [h1,h2,h3,h4]),⟨cs,hc.grT hG (by simp [h1,h5,h6,h7])⟩⟩
open Go.RowKit
section
variable {P:Program} {L:Env} {w:World} {d:Option Nat} {T:TypeId} {pos:String} {af:Array Edge} {g:Option (Nat×Bool)}
theorem st_idxA {t e:TypeId} {len:Nat} [c:ArrTy P t len e 1] [OneTy P e] {x y:Operand} {vs:List Value} {i:Int} {v:Value} (k:Nat) (hx:opv L x=some (.agg vs.toArray)) (hy:opv L y=some (.int .i64 i)) (hi:i=(k:Int)) (hk:k<len) (hv:vs[k]?=some v) :
 St P ⟨d,.index t x y,T,pos,af,g⟩ L w v :=
 ⟨fun _ a ha w' _=>by
  subst hi
  have e1:=ha.eval hx
  have e2:=ha.eval hy
  generalize a.eval = ρ at *
  simp [execOp,e1,e2,Instr.index,asIntOf,run_underlying c.und,run_sizeOf c.size,hk,part,run_isAgg_one,hv]⟩
end
open Go.RowKit
def setupCells (A:Option Addr) (n c:Nat) (B:Option Addr) (m d:Nat) (split least cpus:Int) : List Value:=[.slice A n c,.slice B m d,.int .i64 split,.int .i64 least,.int .i64 cpus]
theorem bootIn {w:World} {b t:Nat} {A:Option Addr} {n c:Nat} {B:Option Addr} {m d:Nat} {split least cpus:Int} (h:Blk w b t (setupCells A n c B m d split least cpus)) : ∀ j v,(bootCells A n c B m d)[j]?=some v→w.cell? ((((⟨b,0,none⟩ : Addr)).add 0).add j)=some v:=fun j v hv=>by
 rw [add_add]
 refine h.cell (i:=0+j) ?_
 match j,hv with
 | 0,hv=>exact hv
 | 1,hv=>exact hv
theorem sizes_all {w:World} (h:SizesW w) : ∀ j v,(kL.map (Value.int .i64))[j]?=some v→w.cell? ((⟨0,0,none⟩ : Addr).add j)=some v:=fun j v hv=>by
 rcases Nat.lt_or_ge j 6 with hj|hj
 ·have:=h.sl.one (i:=j) (u:=v) hj (by
   rcases (show j=0∨j=1∨j=2∨j=3∨j=4∨j=5 by omega) with rfl|rfl|rfl|rfl|rfl|rfl<;>simpa [kL,encI] using hv)
  simpa using this
 ·rw [List.getElem?_eq_none (by simp [kL];omega)] at hv
  cases hv
set_option maxHeartbeats 4000000 in
theorem knew_ans (A:Option Addr) (n c:Nat) (B:Option Addr) (m d:Nat) (x y:List Region) (split least cpus:Int) (w:World) (hx:Sl w 2 encR A n x) (hy:Sl w 2 encR B m y) (hn:n≤9223372036854775807) (hm:m≤9223372036854775807) (hsp : -9223372036854775808≤split∧split≤9223372036854775807) (hS:SizesW w) :
 Ans Tryz.prog 24 [.agg (setupCells A n c B m d split least cpus).toArray] w fun v w' => ∃ u,SysNewR (rangesV 256 x y) split least cpus u∧SysOut w.heap.size u v w':=by
 refine ans_of Tryz.func24 rfl Tryz.ntmps24 rfl ?_
 refine CW.seq (CW.region (SW.box rfl rfl fun b1 w1 hw hb1b hb1 => ?_))
 refine SW.alloc rfl fun b2 w2 hw2 hb2b hb2 => ?_
 have hb2w:w.heap.size≤b2:=Nat.le_trans hw.size hb2b
 (replace hw:=Ext.trans hw hw2;replace hb1:=hb1.ext hw2)
 have hlen:=rangesV_len 256 x y
 repeat' (first|(first|refine CW.seq ?_|refine CW.region ?_)|(refine Post.seq ?_)|refine SW.nil ?_|refine SW.pure rfl rfl ?_|(show SW _ _ _ _ (⟨_,Op.fieldAddr _ _ _,_,_,_,none⟩::_) _ _;refine SW.st (st_field rfl) rfl ?_)|(show SW _ _ _ _ (⟨_,Op.load _ _,_,_,_,none⟩::_) _ _;refine SW.st (st_loads rfl rfl ((bootIn hb1))) rfl ?_))
 refine SW.call rfl rfl (Ranges_ans A n c B m d x y 256 rfl _ (hx.ext hw) (hy.ext hw) hn hm) fun v w5 hw5 hv => ?_
 obtain ⟨o,ho⟩ : ∃ o,rangesV 256 x y=o:=⟨_,rfl⟩
 rw [ho] at hv hlen ⊢
 clear ho
 obtain ⟨A1,c1,rfl,hO⟩:=hv
 replace hO:=hO.low hw.size
 (replace hw:=Ext.trans hw hw5;replace hb1:=hb1.ext hw5;replace hb2:=hb2.ext hw5)
 by_cases h0:o.1=0
 ·rw [h0]
  repeat' (first|(first|refine CW.seq ?_|refine CW.region ?_|refine CW.condn_f rfl (by omega) ?_|refine CW.skip ?_)|(refine Post.seq ?_)|refine SW.nil ?_|refine SW.pure rfl rfl ?_|(show SW _ _ _ _ (⟨_,Op.fieldAddr _ _ _,_,_,_,none⟩::_) _ _;refine SW.st (st_field rfl) rfl ?_)|(show SW _ _ _ _ (⟨_,Op.load _ _,_,_,_,none⟩::_) _ _;first|refine SW.st (st_load rfl (hb1.cell (i:=2) (v := .int .i64 split) rfl)) rfl ?_|refine SW.st (st_load rfl (hb1.cell (i:=3) (v := .int .i64 least) rfl)) rfl ?_|refine SW.st (st_load rfl (hb1.cell (i:=4) (v := .int .i64 cpus) rfl)) rfl ?_))
  refine SW.call rfl rfl (Hnew_ans A1 o.2.length c1 o.2 split least cpus _ hO.sl (by omega) hsp) fun v w6 hw6 hv => ?_
  have hfine:=fun h2=>sys0_fine (l:=o.2) (split:=split) (least:=least) (cpus:=cpus) h2
  obtain ⟨e,he⟩ : ∃ e,heapNewV o.2 split least cpus=e:=⟨_,rfl⟩
  have hR1:=fun h2=>SysNewR.heap (o:=o) (split:=split) (least:=least) (cpus:=cpus) h0 h2
  have hR2:=fun (t:KSystem) h2 m=>SysNewR.made (o:=o) (split:=split) (least:=least) (cpus:=cpus) (t:=t) h0 h2 m
  rw [he] at hv hfine hR1 hR2
  clear he
  obtain ⟨H,rfl,hH⟩:=hv
  replace hH:=hH.low hw.size
  (replace hw:=Ext.trans hw hw6;replace hb1:=hb1.ext hw6;replace hb2:=hb2.ext hw6)
  clear hO
  by_cases h2:e.1=0
  ·rw [h2]
   repeat' (refine SW.pure rfl rfl ?_)
   refine SW.alloc rfl fun b6 w1 hw1 hb6b hb6 => ?_
   skip
   refine SW.storeAgg hb6 rfl rfl rfl rfl (one_h H) fun w2 hb6' hg => ?_
   have hXX:=hw1.own hb6b hg
   have hb6w:w.heap.size≤b6:=Nat.le_trans hw.size hb6b
   replace hw:=Ext.trans hw hXX
   replace hb1:=hb1.ext hXX
   replace hb2:=hb2.ext hXX
   replace hH:=hH.ext hXX
   replace hb6:=hb6'
   clear hb6' hw1 hg hXX
   repeat' (first|(first|refine CW.seq ?_|refine CW.region ?_|refine CW.condn_f rfl (by omega) ?_|refine CW.skip ?_)|(refine Post.seq ?_)|refine SW.nil ?_|refine SW.pure rfl rfl ?_)
   refine SW.call rfl rfl (New_ans 256 _) fun v w7 hw7 hv => ?_
   rw [if_pos ⟨by decide,by decide⟩] at hv
   obtain ⟨A2,c2,rfl,hX⟩:=hv
   replace hX:Own w7 w.heap.size 3 1 encI A2 4096 c2 (List.replicate 4096 0):=hX.low hw.size
   (replace hw:=Ext.trans hw hw7;replace hb1:=hb1.ext hw7;replace hb2:=hb2.ext hw7;replace hb6:=hb6.ext hw7;replace hH:=hH.ext hw7)
   repeat' (first|(first|refine CW.seq ?_|refine CW.region ?_)|(refine Post.seq ?_)|refine SW.nil ?_|refine SW.pure rfl rfl ?_|(show SW _ _ _ _ (⟨_,Op.build _ _,_,_,_,none⟩::_) _ _;refine SW.st (st_build rfl rfl) rfl ?_)|(show SW _ _ _ _ (⟨_,Op.load _ _,_,_,_,none⟩::_) _ _;refine SW.st (st_loads rfl rfl ((fun _ _=>hb6.cell))) rfl ?_))
   have hl2:=hb2.lt
   refine SW.alloc rfl fun b9 w1 hw1 hb9b hb9 => ?_
   skip
   refine SW.storeAgg hb9 rfl rfl rfl rfl (one_s ⟨⟨A2,4096,c2⟩,H,.nil⟩) fun w2 hb9' hg => ?_
   have hXX:=hw1.own hb9b hg
   have hb9w:w.heap.size≤b9:=Nat.le_trans hw.size hb9b
   replace hw:=Ext.trans hw hXX
   replace hb1:=hb1.ext hXX
   replace hb2:=hb2.ext hXX
   replace hb6:=hb6.ext hXX
   replace hH:=hH.ext hXX
   replace hX:=hX.ext hXX
   replace hb9:=hb9'
   clear hb9' hw1 hg hXX
   have hne:b2≠b9:=by omega
   have hS0:OwnS _ w.heap.size ⟨⟨A2,4096,c2⟩,H,.nil⟩ (sys0 e.2):=⟨hX,hH,⟨[],OwnCs.nil _ _⟩⟩
   clear hX hH hb1 hb6
   repeat' (first|(first|refine CW.seq ?_|refine CW.region ?_|refine CW.block ?_)|(refine Post.seq ?_)|refine SW.nil ?_|refine SW.pure rfl rfl ?_|(show SW _ _ _ _ (⟨_,Op.load _ _,_,_,_,none⟩::_) _ _;refine SW.st (st_loadsx hw rfl rfl ((sizes_all hS))) rfl ?_))
   refine CW.loop (fun s:Nat×SRow×KSystem=>[(2,.pointer (some ⟨b2,0,none⟩)),(9,.pointer (some ⟨b9,0,none⟩)),(44,.agg (kL.map (Value.int .i64)).toArray),(45,.int .i64 (s.1:Int))])
    (fun s w'=>s.1≤6∧Ext w w'∧Blk w' b2 44 (encSys .zero)∧Blk w' b9 44 (encSys s.2.1)∧OwnS w' w.heap.size s.2.1 s.2.2∧MakeR (sys0 e.2) s.1 s.2.2) (fun s=>6-s.1) (0,⟨⟨A2,4096,c2⟩,H,.nil⟩,sys0 e.2)
    ⟨rfl,rfl,rfl,rfl,trivial⟩ ⟨by omega,hw,hb2,hb9,hS0,.zero⟩ ?_
   clear hw hb2 hb9 hS0
   rintro ⟨j,r,s⟩ w' ⟨hj,hw,hb2,hb9,hS0,hM⟩
   simp only at hj hb9 hS0 hM ⊢
   by_cases hj6:j<6
   ·obtain ⟨k1,k2,k3,k4⟩:=kP_ok hj6
    have hks:=kstr_size hj6
    have hf:=hM.fine (hfine h2) hj
    have kS:=kP_succ j
    obtain ⟨z,hz⟩ : ∃ z,kP j=z:=⟨_,rfl⟩
    have hMk:=fun (u:KSystem×Int) (h:CreR s (kstr z) z 1 u)=>MakeR.succ (u:=u) hM (hz ▸ h)
    rw [hz] at k1 k2 k3 k4 hks kS
    have hv6:(kL.map (Value.int .i64))[j]?=some (.int .i64 z):=by rw [List.getElem?_map,k2];rfl
    repeat' (first|(first|refine CW.seq ?_|refine CW.region ?_|refine CW.block ?_|refine CW.condd_t rfl (by omega) ?_|refine CW.skip ?_)|(refine Post.seq ?_)|refine SW.nil ?_|refine SW.pure rfl rfl ?_|(refine SW.st (st_idxA j rfl rfl rfl hj6 hv6) rfl ?_))
    refine CW.anyF 8 8 (fun _=>True) mixed (by kernel_rfl) fun w1 hw1 hRB => ?_
    replace hw:=Ext.trans hw hw1;replace hb2:=hb2.ext hw1;replace hb9:=hb9.ext hw1;replace hS0:=hS0.ext hw1;clear hw1
    refine SF.take 0 [] [] hRB rfl (by kernel_rfl) (by kernel_rfl) (by kernel_rfl) ?_
    repeat ((show SW _ _ _ _ (⟨_,Op.load _ _,_,_,_,none⟩::_) _ _;refine SW.st (st_loads rfl rfl ((fun _ _=>hb9.cell))) rfl ?_))
    refine SW.tknil ?_
    refine SF.take 1 [] [] hRB rfl (by kernel_rfl) (by kernel_rfl) (by kernel_rfl) ?_
    repeat (refine SW.pure rfl rfl ?_)
    refine SW.tknil ?_
    refine SF.take 3 [] [] hRB rfl (by kernel_rfl) (by kernel_rfl) (by kernel_rfl) ?_
    repeat (refine SW.pure rfl rfl ?_)
    refine SW.tknil ?_
    refine SF.one 2 rfl (by kernel_rfl) rfl ?_
    refine SW.call rfl rfl (kname_ans z k1 _) fun v w4 hXX hv => ?_
    subst hv
    (replace hw:=Ext.trans hw hXX;replace hb2:=hb2.ext hXX;replace hb9:=hb9.ext hXX;replace hS0:=hS0.ext hXX)
    refine SW.nil (Post.sf hXX ?_)
    refine SF.one 4 rfl (by kernel_rfl) rfl ?_
    refine SW.call rfl rfl (Create_ans r s (kstr z) z 1 _ hS0.rd hf hks) fun v w4 hXX hv => ?_
    obtain ⟨u,hu,q,rfl,hq⟩:=hv
    replace hq:=hq.low hw.size
    (replace hw:=Ext.trans hw hXX;replace hb2:=hb2.ext hXX;replace hb9:=hb9.ext hXX)
    refine SW.nil (Post.sf hXX ?_)
    refine SF.take 5 [] [] hRB rfl (by kernel_rfl) (by kernel_rfl) (by kernel_rfl) ?_
    repeat (refine SW.pure rfl rfl ?_)
    refine SW.tknil ?_
    refine SF.take 6 [] [] hRB rfl (by kernel_rfl) (by kernel_rfl) (by kernel_rfl) ?_
    repeat (refine SW.pure rfl rfl ?_)
    refine SW.tknil ?_
    refine SF.takeX 7 hRB rfl (by kernel_rfl) (by kernel_rfl) rfl (fun _=>pureV_st rfl) rfl ?_
    refine SF.last rfl (by kernel_rfl) (by kernel_rfl) ?_
    refine SW.storeAgg hb9 rfl rfl rfl rfl (one_s q) fun w6 hb9' hg => ?_
    have hG:=hb9.gr hg
    replace hb2:=hb2.grown hg (by simpa using hne)
    replace hw:=hw.own hb9w hg
    (replace hq:=hq.grT hG rfl)
    repeat' (first|(refine CW.region ?_)|(first|refine Post.seq ?_|refine Post.blk ?_|refine Post.np ?_)|refine SW.nil ?_|refine SW.pure rfl rfl ?_|(show SW _ _ _ _ (⟨_,Op.binOp _ _ _ _ _,_,_,_,none⟩::_) _ _;refine SW.st (st_add rfl rfl (by omega) (by omega)) rfl ?_))
    exact Post.again (j+1,q,u.1) ⟨rfl,rfl,rfl,rfl,trivial⟩ (by simp only;omega) ⟨by simp only;omega,hw,hb2,hb9',hq,hMk u hu⟩
   ·obtain rfl:j=6:=by omega
    repeat' (first|(first|refine CW.seq ?_|refine CW.region ?_|refine CW.condd_f rfl (by omega) ?_|refine CW.exit ?_)|(first|refine Post.seq ?_|refine Post.seq_exit ?_|refine Post.hit ?_|refine Post.again_exit ?_)|refine SW.nil ?_|refine SW.pure rfl rfl ?_|(show SW _ _ _ _ (⟨_,Op.load _ _,_,_,_,none⟩::_) _ _;refine SW.st (st_loads rfl rfl ((fun _ _=>hb9.cell))) rfl ?_))
    refine SW.storeAgg hb2 rfl rfl rfl rfl (one_s r) fun w6 hR hg => ?_
    have hG:=hb2.gr hg
    replace hw:=hw.own hb2w hg
    (replace hS0:=hS0.grT hG rfl)
    repeat' (first|(refine CW.ret ?_)|(refine Post.seq ?_)|refine SW.nil ?_|refine SW.pure rfl rfl ?_)
    exact Post.ret2c rfl rfl rfl hR rfl ⟨_,rfl,hw,_,hR2 s h2 hM,r,rfl,hS0⟩
  ·have hv:=hR1 h2
   obtain ⟨e1,he1⟩ : ∃ e1,e.1=e1:=⟨_,rfl⟩
   rw [he1] at h2 hv ⊢
   repeat' (refine SW.pure rfl rfl ?_)
   refine SW.alloc rfl fun b6 w1 hw1 hb6b hb6 => ?_
   skip
   refine SW.storeAgg hb6 rfl rfl rfl rfl (one_h H) fun w2 hb6' hg => ?_
   have hXX:=hw1.own hb6b hg
   have hb6w:w.heap.size≤b6:=Nat.le_trans hw.size hb6b
   replace hw:=Ext.trans hw hXX
   replace hb2:=hb2.ext hXX
   replace hb6:=hb6'
   clear hb6' hw1 hg hXX
   repeat' (first|(first|refine CW.seq ?_|refine CW.region ?_|refine CW.condn_t rfl (by omega) ?_)|(refine Post.seq ?_)|refine SW.nil ?_|refine SW.pure rfl rfl ?_|(show SW _ _ _ _ (⟨_,Op.build _ _,_,_,_,none⟩::_) _ _;refine SW.st (st_build rfl rfl) rfl ?_))
   refine SW.storeAgg hb2 rfl rfl rfl rfl (one_s .zero) fun w7 hR hg => ?_
   replace hw:=hw.own hb2w hg
   repeat' (first|(refine CW.ret ?_)|(first|refine Post.seq ?_|refine Post.seq_ret ?_)|refine SW.nil ?_|refine SW.pure rfl rfl ?_)
   exact Post.ret2c rfl rfl rfl hR rfl ⟨_,rfl,hw,_,hv,SysOut.zero _ _ _⟩
 ·have hv:=SysNewR.boot (split:=split) (least:=least) (cpus:=cpus) h0
  obtain ⟨e1,he1⟩ : ∃ e1,o.1=e1:=⟨_,rfl⟩
  rw [he1] at h0 hv ⊢
  repeat' (first|(first|refine CW.seq ?_|refine CW.region ?_|refine CW.condn_t rfl (by omega) ?_)|(refine Post.seq ?_)|refine SW.nil ?_|refine SW.pure rfl rfl ?_|(show SW _ _ _ _ (⟨_,Op.build _ _,_,_,_,none⟩::_) _ _;refine SW.st (st_build rfl rfl) rfl ?_))
  refine SW.storeAgg hb2 rfl rfl rfl rfl (one_s .zero) fun w7 hR hg => ?_
  replace hw:=hw.own hb2w hg
  repeat' (first|(refine CW.ret ?_)|(first|refine Post.seq ?_|refine Post.seq_ret ?_)|refine SW.nil ?_|refine SW.pure rfl rfl ?_)
  exact Post.ret2c rfl rfl rfl hR rfl ⟨_,rfl,hw,_,hv,SysOut.zero _ _ _⟩
set_option maxHeartbeats 4000000 in
theorem SystemNew_ans (A:Option Addr) (n c:Nat) (B:Option Addr) (m d:Nat) (x y:List Region) (split least cpus:Int) (w:World) (hx:Sl w 2 encR A n x) (hy:Sl w 2 encR B m y) (hn:n≤9223372036854775807) (hm:m≤9223372036854775807) (hsp : -9223372036854775808≤split∧split≤9223372036854775807) :
 Ans Tryz.prog 25 [.agg (setupCells A n c B m d split least cpus).toArray] w fun v w' => ∃ u,SysNewR (rangesV 256 x y) split least cpus u∧SysOut w.heap.size u v w':=by
 refine ans_of Tryz.func25 rfl Tryz.ntmps25 rfl ?_
 refine CW.seq (CW.region (SW.box rfl rfl fun b1 w1 hw hb1b hb1 => ?_))
 refine SW.alloc rfl fun b2 w2 hw2 hb2b hb2 => ?_
 have hb2w:w.heap.size≤b2:=Nat.le_trans hw.size hb2b
 (replace hw:=Ext.trans hw hw2;replace hb1:=hb1.ext hw2)
 have hlen:=rangesV_len 256 x y
 repeat' (first|(first|refine CW.seq ?_|refine CW.region ?_)|(refine Post.seq ?_)|refine SW.nil ?_|refine SW.pure rfl rfl ?_|(show SW _ _ _ _ (⟨_,Op.fieldAddr _ _ _,_,_,_,none⟩::_) _ _;refine SW.st (st_field rfl) rfl ?_)|(show SW _ _ _ _ (⟨_,Op.load _ _,_,_,_,none⟩::_) _ _;refine SW.st (st_loads rfl rfl ((bootIn hb1))) rfl ?_))
 refine SW.call rfl rfl (RangesOf_ans A n c B m d x y 256 rfl _ (hx.ext hw) (hy.ext hw) hn hm) fun v w5 hw5 hv => ?_
 obtain ⟨o,ho⟩ : ∃ o,rangesV 256 x y=o:=⟨_,rfl⟩
 rw [ho] at hv hlen ⊢
 clear ho
 obtain ⟨A1,c1,rfl,hO⟩:=hv
 replace hO:=hO.low hw.size
 (replace hw:=Ext.trans hw hw5;replace hb1:=hb1.ext hw5;replace hb2:=hb2.ext hw5)
 by_cases h0:o.1=0
 ·rw [h0]
  repeat' (first|(first|refine CW.seq ?_|refine CW.region ?_|refine CW.condn_f rfl (by omega) ?_|refine CW.skip ?_)|(refine Post.seq ?_)|refine SW.nil ?_|refine SW.pure rfl rfl ?_|(show SW _ _ _ _ (⟨_,Op.fieldAddr _ _ _,_,_,_,none⟩::_) _ _;refine SW.st (st_field rfl) rfl ?_)|(show SW _ _ _ _ (⟨_,Op.load _ _,_,_,_,none⟩::_) _ _;first|refine SW.st (st_load rfl (hb1.cell (i:=2) (v := .int .i64 split) rfl)) rfl ?_|refine SW.st (st_load rfl (hb1.cell (i:=3) (v := .int .i64 least) rfl)) rfl ?_|refine SW.st (st_load rfl (hb1.cell (i:=4) (v := .int .i64 cpus) rfl)) rfl ?_))
  refine SW.call rfl rfl (HeapNew_ans A1 o.2.length c1 o.2 split least cpus _ hO.sl (by omega) hsp) fun v w6 hw6 hv => ?_
  have hfine:=fun h2=>sys0_fine (l:=o.2) (split:=split) (least:=least) (cpus:=cpus) h2
  obtain ⟨e,he⟩ : ∃ e,heapNewV o.2 split least cpus=e:=⟨_,rfl⟩
  have hR1:=fun h2=>SysNewR.heap (o:=o) (split:=split) (least:=least) (cpus:=cpus) h0 h2
  have hR2:=fun (t:KSystem) h2 m=>SysNewR.made (o:=o) (split:=split) (least:=least) (cpus:=cpus) (t:=t) h0 h2 m
  rw [he] at hv hfine hR1 hR2
  clear he
  obtain ⟨H,rfl,hH⟩:=hv
  replace hH:=hH.low hw.size
  (replace hw:=Ext.trans hw hw6;replace hb1:=hb1.ext hw6;replace hb2:=hb2.ext hw6)
  clear hO
  by_cases h2:e.1=0
  ·rw [h2]
   repeat' (refine SW.pure rfl rfl ?_)
   refine SW.alloc rfl fun b6 w1 hw1 hb6b hb6 => ?_
   skip
   refine SW.storeAgg hb6 rfl rfl rfl rfl (one_h H) fun w2 hb6' hg => ?_
   have hXX:=hw1.own hb6b hg
   have hb6w:w.heap.size≤b6:=Nat.le_trans hw.size hb6b
   replace hw:=Ext.trans hw hXX
   replace hb1:=hb1.ext hXX
   replace hb2:=hb2.ext hXX
   replace hH:=hH.ext hXX
   replace hb6:=hb6'
   clear hb6' hw1 hg hXX
   repeat' (first|(first|refine CW.seq ?_|refine CW.region ?_|refine CW.condn_f rfl (by omega) ?_|refine CW.skip ?_)|(refine Post.seq ?_)|refine SW.nil ?_|refine SW.pure rfl rfl ?_)
   refine SW.call rfl rfl (NewOf_ans 256 _) fun v w7 hw7 hv => ?_
   rw [if_pos ⟨by decide,by decide⟩] at hv
   obtain ⟨A2,c2,rfl,hX⟩:=hv
   replace hX:Own w7 w.heap.size 3 1 encI A2 4096 c2 (List.replicate 4096 0):=hX.low hw.size
   (replace hw:=Ext.trans hw hw7;replace hb1:=hb1.ext hw7;replace hb2:=hb2.ext hw7;replace hb6:=hb6.ext hw7;replace hH:=hH.ext hw7)
   repeat' (first|(first|refine CW.seq ?_|refine CW.region ?_)|(refine Post.seq ?_)|refine SW.nil ?_|refine SW.pure rfl rfl ?_|(show SW _ _ _ _ (⟨_,Op.build _ _,_,_,_,none⟩::_) _ _;refine SW.st (st_build rfl rfl) rfl ?_)|(show SW _ _ _ _ (⟨_,Op.load _ _,_,_,_,none⟩::_) _ _;refine SW.st (st_loads rfl rfl ((fun _ _=>hb6.cell))) rfl ?_))
   have hl2:=hb2.lt
   refine SW.alloc rfl fun b9 w1 hw1 hb9b hb9 => ?_
   skip
   refine SW.storeAgg hb9 rfl rfl rfl rfl (one_s ⟨⟨A2,4096,c2⟩,H,.nil⟩) fun w2 hb9' hg => ?_
   have hXX:=hw1.own hb9b hg
   have hb9w:w.heap.size≤b9:=Nat.le_trans hw.size hb9b
   replace hw:=Ext.trans hw hXX
   replace hb1:=hb1.ext hXX
   replace hb2:=hb2.ext hXX
   replace hb6:=hb6.ext hXX
   replace hH:=hH.ext hXX
   replace hX:=hX.ext hXX
   replace hb9:=hb9'
   clear hb9' hw1 hg hXX
   have hne:b2≠b9:=by omega
   have hS0:OwnS _ w.heap.size ⟨⟨A2,4096,c2⟩,H,.nil⟩ (sys0 e.2):=⟨hX,hH,⟨[],OwnCs.nil _ _⟩⟩
   clear hX hH hb1 hb6
   repeat' (first|(first|refine CW.seq ?_|refine CW.region ?_|refine CW.block ?_)|(refine Post.seq ?_)|refine SW.nil ?_|refine SW.pure rfl rfl ?_)
   refine CW.loop (fun s:Nat×SRow×KSystem=>[(2,.pointer (some ⟨b2,0,none⟩)),(9,.pointer (some ⟨b9,0,none⟩)),(10,.int .i64 (kP s.1))])
    (fun s w'=>s.1≤6∧Ext w w'∧Blk w' b2 44 (encSys .zero)∧Blk w' b9 44 (encSys s.2.1)∧OwnS w' w.heap.size s.2.1 s.2.2∧MakeR (sys0 e.2) s.1 s.2.2) (fun s=>6-s.1) (0,⟨⟨A2,4096,c2⟩,H,.nil⟩,sys0 e.2)
    ⟨rfl,rfl,rfl,trivial⟩ ⟨by omega,hw,hb2,hb9,hS0,.zero⟩ ?_
   clear hw hb2 hb9 hS0
   rintro ⟨j,r,s⟩ w' ⟨hj,hw,hb2,hb9,hS0,hM⟩
   simp only at hj hb9 hS0 hM ⊢
   by_cases hj6:j<6
   ·obtain ⟨k1,k2,k3,k4⟩:=kP_ok hj6
    have hks:=kstr_size hj6
    have hf:=hM.fine (hfine h2) hj
    have kS:=kP_succ j
    obtain ⟨z,hz⟩ : ∃ z,kP j=z:=⟨_,rfl⟩
    have hMk:=fun (u:KSystem×Int) (h:CreR s (kstr z) z 1 u)=>MakeR.succ (u:=u) hM (hz ▸ h)
    rw [hz] at k1 k2 k3 k4 hks kS ⊢
    have cn:∀ w',Ans Tryz.prog 64 [.int .i64 z] w' fun v _=>v = .string (kstr z):=fun w'=>by
     have:=className_ans z w'
     rwa [classS_k k1] at this
    repeat' (first|(first|refine CW.seq ?_|refine CW.region ?_|refine CW.block ?_|refine CW.condd_t rfl (by omega) ?_|refine CW.skip ?_)|(refine Post.seq ?_)|refine SW.nil ?_|refine SW.pure rfl rfl ?_)
    refine CW.anyF 8 8 (fun _=>True) mixed (by kernel_rfl) fun w1 hw1 hRB => ?_
    replace hw:=Ext.trans hw hw1;replace hb2:=hb2.ext hw1;replace hb9:=hb9.ext hw1;replace hS0:=hS0.ext hw1;clear hw1
    refine SF.take 0 [] [] hRB rfl (by kernel_rfl) (by kernel_rfl) (by kernel_rfl) ?_
    repeat ((show SW _ _ _ _ (⟨_,Op.load _ _,_,_,_,none⟩::_) _ _;refine SW.st (st_loads rfl rfl ((fun _ _=>hb9.cell))) rfl ?_))
    refine SW.tknil ?_
    refine SF.take 1 [] [] hRB rfl (by kernel_rfl) (by kernel_rfl) (by kernel_rfl) ?_
    repeat (refine SW.pure rfl rfl ?_)
    refine SW.tknil ?_
    refine SF.take 3 [] [] hRB rfl (by kernel_rfl) (by kernel_rfl) (by kernel_rfl) ?_
    repeat (refine SW.pure rfl rfl ?_)
    refine SW.tknil ?_
    refine SF.one 2 rfl (by kernel_rfl) rfl ?_
    refine SW.call rfl rfl (cn _) fun v w4 hXX hv => ?_
    subst hv
    (replace hw:=Ext.trans hw hXX;replace hb2:=hb2.ext hXX;replace hb9:=hb9.ext hXX;replace hS0:=hS0.ext hXX)
    refine SW.nil (Post.sf hXX ?_)
    refine SF.one 4 rfl (by kernel_rfl) rfl ?_
    refine SW.call rfl rfl (CreatedOf_ans r s (kstr z) z 1 _ hS0.rd hf hks) fun v w4 hXX hv => ?_
    obtain ⟨u,hu,q,rfl,hq⟩:=hv
    replace hq:=hq.low hw.size
    (replace hw:=Ext.trans hw hXX;replace hb2:=hb2.ext hXX;replace hb9:=hb9.ext hXX)
    refine SW.nil (Post.sf hXX ?_)
    refine SF.take 5 [] [] hRB rfl (by kernel_rfl) (by kernel_rfl) (by kernel_rfl) ?_
    repeat (refine SW.pure rfl rfl ?_)
    refine SW.tknil ?_
    refine SF.take 6 [] [] hRB rfl (by kernel_rfl) (by kernel_rfl) (by kernel_rfl) ?_
    repeat (refine SW.pure rfl rfl ?_)
    refine SW.tknil ?_
    refine SF.takeX 7 hRB rfl (by kernel_rfl) (by kernel_rfl) rfl (fun _=>pureV_st rfl) rfl ?_
    refine SF.last rfl (by kernel_rfl) (by kernel_rfl) ?_
    refine SW.storeAgg hb9 rfl rfl rfl rfl (one_s q) fun w6 hb9' hg => ?_
    have hG:=hb9.gr hg
    replace hb2:=hb2.grown hg (by simpa using hne)
    replace hw:=hw.own hb9w hg
    (replace hq:=hq.grT hG rfl)
    repeat' (first|(refine CW.region ?_)|(first|refine Post.seq ?_|refine Post.blk ?_|refine Post.np ?_)|refine SW.nil ?_|refine SW.pure rfl rfl ?_|(show SW _ _ _ _ (⟨_,Op.binOp _ _ _ _ _,_,_,_,none⟩::_) _ _;refine SW.st (st_mul rfl rfl (by omega) (by omega)) rfl ?_))
    exact Post.again (j+1,q,u.1) ⟨rfl,rfl,congrArg (fun z=>some (Value.int .i64 z)) kS.symm,trivial⟩ (by simp only;omega) ⟨by simp only;omega,hw,hb2,hb9',hq,hMk u hu⟩
   ·obtain rfl:j=6:=by omega
    have h64:kP 6=64:=by decide
    rw [h64]
    repeat' (first|(first|refine CW.seq ?_|refine CW.region ?_|refine CW.condd_f rfl (by omega) ?_|refine CW.exit ?_)|(first|refine Post.seq ?_|refine Post.seq_exit ?_|refine Post.hit ?_|refine Post.again_exit ?_)|refine SW.nil ?_|refine SW.pure rfl rfl ?_|(show SW _ _ _ _ (⟨_,Op.load _ _,_,_,_,none⟩::_) _ _;refine SW.st (st_loads rfl rfl ((fun _ _=>hb9.cell))) rfl ?_))
    refine SW.storeAgg hb2 rfl rfl rfl rfl (one_s r) fun w6 hR hg => ?_
    have hG:=hb2.gr hg
    replace hw:=hw.own hb2w hg
    (replace hS0:=hS0.grT hG rfl)
    repeat' (first|(refine CW.ret ?_)|(refine Post.seq ?_)|refine SW.nil ?_|refine SW.pure rfl rfl ?_)
    exact Post.ret2c rfl rfl rfl hR rfl ⟨_,rfl,hw,_,hR2 s h2 hM,r,rfl,hS0⟩
  ·have hv:=hR1 h2
   obtain ⟨e1,he1⟩ : ∃ e1,e.1=e1:=⟨_,rfl⟩
   rw [he1] at h2 hv ⊢
   repeat' (refine SW.pure rfl rfl ?_)
   refine SW.alloc rfl fun b6 w1 hw1 hb6b hb6 => ?_
   skip
   refine SW.storeAgg hb6 rfl rfl rfl rfl (one_h H) fun w2 hb6' hg => ?_
   have hXX:=hw1.own hb6b hg
   have hb6w:w.heap.size≤b6:=Nat.le_trans hw.size hb6b
   replace hw:=Ext.trans hw hXX
   replace hb2:=hb2.ext hXX
   replace hb6:=hb6'
   clear hb6' hw1 hg hXX
   repeat' (first|(first|refine CW.seq ?_|refine CW.region ?_|refine CW.condn_t rfl (by omega) ?_)|(refine Post.seq ?_)|refine SW.nil ?_|refine SW.pure rfl rfl ?_|(show SW _ _ _ _ (⟨_,Op.build _ _,_,_,_,none⟩::_) _ _;refine SW.st (st_build rfl rfl) rfl ?_))
   refine SW.storeAgg hb2 rfl rfl rfl rfl (one_s .zero) fun w7 hR hg => ?_
   replace hw:=hw.own hb2w hg
   repeat' (first|(refine CW.ret ?_)|(first|refine Post.seq ?_|refine Post.seq_ret ?_)|refine SW.nil ?_|refine SW.pure rfl rfl ?_)
   exact Post.ret2c rfl rfl rfl hR rfl ⟨_,rfl,hw,_,hv,SysOut.zero _ _ _⟩
 ·have hv:=SysNewR.boot (split:=split) (least:=least) (cpus:=cpus) h0
  obtain ⟨e1,he1⟩ : ∃ e1,o.1=e1:=⟨_,rfl⟩
  rw [he1] at h0 hv ⊢
  repeat' (first|(first|refine CW.seq ?_|refine CW.region ?_|refine CW.condn_t rfl (by omega) ?_)|(refine Post.seq ?_)|refine SW.nil ?_|refine SW.pure rfl rfl ?_|(show SW _ _ _ _ (⟨_,Op.build _ _,_,_,_,none⟩::_) _ _;refine SW.st (st_build rfl rfl) rfl ?_))
  refine SW.storeAgg hb2 rfl rfl rfl rfl (one_s .zero) fun w7 hR hg => ?_
  replace hw:=hw.own hb2w hg
  repeat' (first|(refine CW.ret ?_)|(first|refine Post.seq ?_|refine Post.seq_ret ?_)|refine SW.nil ?_|refine SW.pure rfl rfl ?_)
  exact Post.ret2c rfl rfl rfl hR rfl ⟨_,rfl,hw,_,hv,SysOut.zero _ _ _⟩
set_option maxHeartbeats 2000000 in
theorem kmemNew_ans (A:Option Addr) (n c:Nat) (B:Option Addr) (m d:Nat) (x y:List Region) (split least cpus:Int) (w:World) (hx:Sl w 2 encR A n x) (hy:Sl w 2 encR B m y) (hn:n≤9223372036854775807) (hm:m≤9223372036854775807) (hsp : -9223372036854775808≤split∧split≤9223372036854775807) (hS:SizesW w) :
 Ans Tryz.prog 7 [.agg (setupCells A n c B m d split least cpus).toArray] w fun v _=>v = .bool true:=by
 refine ans_of Tryz.func7 rfl Tryz.ntmps7 rfl ?_
 refine CW.seq (CW.region (SW.box rfl rfl fun b1 w1 hw hb1b hb1 => ?_))
 repeat' (first|(first|refine CW.seq ?_|refine CW.region ?_)|(refine Post.seq ?_)|refine SW.nil ?_|refine SW.pure rfl rfl ?_|(show SW _ _ _ _ (⟨_,Op.load _ _,_,_,_,none⟩::_) _ _;refine SW.st (st_loads rfl rfl ((fun _ _=>hb1.cell))) rfl ?_))
 refine SW.call rfl rfl (knew_ans A n c B m d x y split least cpus _ (hx.ext hw) (hy.ext hw) hn hm hsp (hS.ext hw)) fun v w5 hw5 hv => ?_
 obtain ⟨o,hu,s1,rfl,hs1⟩:=hv
 have hsm:=hu.fine.small
 (replace hw:=Ext.trans hw hw5;replace hb1:=hb1.ext hw5)
 repeat' (refine SW.pure rfl rfl ?_)
 refine SW.alloc rfl fun b3 w1 hw1 hb3b hb3 => ?_
 skip
 refine SW.storeAgg hb3 rfl rfl rfl rfl (one_s s1) fun w2 hb3' hg => ?_
 have hXX:=hw1.own hb3b hg
 have hb3w:w.heap.size≤b3:=Nat.le_trans hw.size hb3b
 replace hw:=Ext.trans hw hXX
 replace hb1:=hb1.ext hXX
 replace hs1:=hs1.ext hXX
 replace hb3:=hb3'
 clear hb3' hw1 hg hXX
 repeat' (first|(first|refine CW.seq ?_|refine CW.region ?_)|(refine Post.seq ?_)|refine SW.nil ?_|refine SW.pure rfl rfl ?_|(show SW _ _ _ _ (⟨_,Op.load _ _,_,_,_,none⟩::_) _ _;refine SW.st (st_loads rfl rfl ((fun _ _=>hb1.cell))) rfl ?_))
 refine SW.call rfl rfl (SystemNew_ans A n c B m d x y split least cpus _ (hx.ext hw) (hy.ext hw) hn hm hsp) fun v w6 hw6 hv => ?_
 obtain ⟨o',hu',s2,rfl,hs2⟩:=hv
 obtain rfl:=hu.det hu'
 (replace hw:=Ext.trans hw hw6;replace hb1:=hb1.ext hw6;replace hb3:=hb3.ext hw6;replace hs1:=hs1.ext hw6)
 repeat' (refine SW.pure rfl rfl ?_)
 refine SW.alloc rfl fun b5 w1 hw1 hb5b hb5 => ?_
 skip
 refine SW.storeAgg hb5 rfl rfl rfl rfl (one_s s2) fun w2 hb5' hg => ?_
 have hXX:=hw1.own hb5b hg
 have hb5w:w.heap.size≤b5:=Nat.le_trans hw.size hb5b
 replace hw:=Ext.trans hw hXX
 replace hb3:=hb3.ext hXX
 replace hs1:=hs1.ext hXX
 replace hs2:=hs2.ext hXX
 replace hb5:=hb5'
 clear hb5' hw1 hg hXX
 have cA:∀ w',Ext w w'→RdS w' s1 o.1→RdS w' s2 o.1→Ans Tryz.prog 23 [.agg (encSys s1).toArray,.agg (encSys s2).toArray] w' fun v _=>v = .bool true:=fun w' _ h1 h2=>sameSystem_ans s1 s2 o.1 w' h1 h2 hsm
 repeat' (first|(first|refine CW.seq ?_|refine CW.region ?_|refine CW.ret ?_)|(refine Post.seq ?_)|refine SW.nil ?_|(show SW _ _ _ _ (⟨_,_,_,_,_,some _⟩::_) _ _;first|refine SW.want_t rfl rfl (by with_reducible rfl) ?_|refine SW.splitd_t rfl rfl rfl (by omega) ?_)|refine SW.pure rfl rfl ?_|(show SW _ _ _ _ (⟨_,Op.load _ _,_,_,_,none⟩::_) _ _;first|refine SW.st (st_loads rfl rfl ((fun _ _=>hb3.cell))) rfl ?_|refine SW.st (st_loads rfl rfl ((fun _ _=>hb5.cell))) rfl ?_)|(show SW _ _ _ _ (⟨_,Op.call ⟨.value (.func _),_,_⟩,_,_,_,none⟩::_) _ _;(refine SW.call rfl rfl (cA _ hw hs1.rd hs2.rd) ?_;intro v w1 hw1 hv;subst hv;replace hw:=Ext.trans hw hw1;replace hb3:=hb3.ext hw1;replace hb5:=hb5.ext hw1;replace hs1:=hs1.ext hw1;replace hs2:=hs2.ext hw1;clear hw1)))
 exact Post.ret1 rfl rfl ⟨_,rfl,hw,rfl⟩
end Go.Proofs.YtbidkghlpijecaaGreatDoor
set_option linter.unusedVariables false
set_option maxRecDepth 100000
namespace Go.Proofs.YtbidkghlpijecaaGreatDoor
open Go.ChangeShapes Go.WideShapes Go.ChangeAt Go.RowKit Go.Deep Go.Joins
section
variable {H:Type} {enc:TypeId×Value→H} {W:World} {base:Nat} {spare:Nat→Bool} {held:Bool}
theorem el_boot {fuel:Nat} {cs:List Value} {x:DataW H×List MemPlace} (h:DataW.trod enc Tryz.prog W base spare held fuel 27 cs=some x) :
 ∃ A n c B m d l k,cs=bootCells A n c B m d∧Sl W 2 encR A n l∧Sl W 2 encR B m k∧n≤9223372036854775807∧m≤9223372036854775807:=by
 obtain ⟨xs,n,_,_,hlen,hxl,hf⟩:=DataW.trod_struct Tryz.underlying27 h
 have hc:Tryz.prog.cellsOf 27=2:=by kernel_rfl
 have hi:Tryz.prog.cellsOf 25=1:=by kernel_rfl
 rw [hc] at hlen
 match cs,hlen with
 | [c0,c1],_ =>
   match xs,hxl with
   | [y0,y1],_ =>
     have h0:DataW.trod enc Tryz.prog W base spare held n 25 (List.take (Tryz.prog.cellsOf 25) (List.drop 0 [c0,c1]))=some y0:=hf 0 _ rfl
     have h1:DataW.trod enc Tryz.prog W base spare held n 25 (List.take (Tryz.prog.cellsOf 25) (List.drop 1 [c0,c1]))=some y1:=hf 1 _ rfl
     rw [hi] at h0 h1
     obtain ⟨Ax,nx,cx,lx,ex,hlx,hcx,hmx,_,_⟩:=open_sl (t:=25) (by kernel_rfl) (fun _ _ _=>el_region) h0
     obtain ⟨Ay,ny,cy,ly,ey,hly,hcy,hmy,_,_⟩:=open_sl (t:=25) (by kernel_rfl) (fun _ _ _=>el_region) h1
     simp at ex ey
     subst ex ey
     unfold maxLen at hmx hmy
     exact ⟨Ax,nx,cx,Ay,ny,cy,lx,ly,rfl,hlx,hly,by omega,by omega⟩
theorem el_setup {fuel:Nat} {cs:List Value} {x:DataW H×List MemPlace} (h:DataW.trod enc Tryz.prog W base spare held fuel 29 cs=some x) :
 ∃ A n c B m d l k sp le cp,cs=setupCells A n c B m d sp le cp∧Sl W 2 encR A n l∧Sl W 2 encR B m k∧n≤9223372036854775807∧m≤9223372036854775807∧in64 sp:=by
 obtain ⟨xs,n,_,_,hlen,hxl,hf⟩:=DataW.trod_struct Tryz.underlying29 h
 have hc:Tryz.prog.cellsOf 29=5:=by kernel_rfl
 have hi:Tryz.prog.cellsOf 27=2:=by kernel_rfl
 have hi1:Tryz.prog.cellsOf 3=1:=by kernel_rfl
 rw [hc] at hlen
 match cs,hlen with
 | [c0,c1,c2,c3,c4],_ =>
   match xs,hxl with
   | [y0,y1,y2,y3],_ =>
     have h0:DataW.trod enc Tryz.prog W base spare held n 27 (List.take (Tryz.prog.cellsOf 27) (List.drop 0 [c0,c1,c2,c3,c4]))=some y0:=hf 0 _ rfl
     have h1:DataW.trod enc Tryz.prog W base spare held n 3 (List.take (Tryz.prog.cellsOf 3) (List.drop 2 [c0,c1,c2,c3,c4]))=some y1:=hf 1 _ rfl
     have h2:DataW.trod enc Tryz.prog W base spare held n 3 (List.take (Tryz.prog.cellsOf 3) (List.drop 3 [c0,c1,c2,c3,c4]))=some y2:=hf 2 _ rfl
     have h3:DataW.trod enc Tryz.prog W base spare held n 3 (List.take (Tryz.prog.cellsOf 3) (List.drop 4 [c0,c1,c2,c3,c4]))=some y3:=hf 3 _ rfl
     rw [hi] at h0
     rw [hi1] at h1 h2 h3
     obtain ⟨A,na,ca,B,nb,cb,l,k,e,s1,s2,b1,b2⟩:=el_boot h0
     obtain ⟨a,ha,wa⟩:=el_int Tryz.underlying3 h1
     obtain ⟨b,hb,wb⟩:=el_int Tryz.underlying3 h2
     obtain ⟨c,hcc,wc⟩:=el_int Tryz.underlying3 h3
     simp [encI] at ha hb hcc
     simp [bootCells] at e
     obtain ⟨e1,e2⟩:=e
     subst ha hb hcc e1 e2
     exact ⟨A,na,ca,B,nb,cb,l,k,a,b,c,rfl,s1,s2,b1,b2,wa⟩
theorem open_setup {r:Reach} {b0:Nat} {v:Value} {d:DataW H} {p:List MemPlace} (hv:Value.okWide Tryz.prog W r b0 29 v) (h:DataW.Trod enc Tryz.prog W base spare held 29 v d p) :
 ∃ A n c B m d l k sp le cp,v = .agg (setupCells A n c B m d sp le cp).toArray∧Sl W 2 encR A n l∧Sl W 2 encR B m k∧n≤9223372036854775807∧m≤9223372036854775807∧in64 sp:=by
 obtain ⟨cs,rfl,hsz⟩:=okWide_struct Tryz.underlying29 hv
 obtain ⟨fuel,hf⟩:=h
 obtain ⟨A,n,c,B,m,d,l,k,sp,le,cp,he,h1,h2,h3,h4,h5⟩:=el_setup hf
 refine ⟨A,n,c,B,m,d,l,k,sp,le,cp,?_,h1,h2,h3,h4,h5⟩
 have:cs.toList=setupCells A n c B m d sp le cp:=he
 rw [← this]
end
end Go.Proofs.YtbidkghlpijecaaGreatDoor
