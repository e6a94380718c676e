/-
  Texts of the claim SlabDestroys, part 25: what its theorem leans on.
-/
import Derived.Test.YtigikedbffjeiaaGreatPackSlabDestroys13
import Derived.Test.YtigikedbffjeiaaGreatPackSlabDestroys22
import Derived.Test.YtigikedbffjeiaaGreatPackSlabDestroys24
import Derived.Test.YtigikedbffjeiaaGreatPackSlabDestroys10
import Derived.Test.YtigikedbffjeiaaGreatPackSlabDestroys6
import Derived.Test.YtigikedbffjeiaaGreatPackSlabDestroys23
set_option linter.unusedVariables false
set_option linter.unusedSimpArgs false
namespace Go.Proofs.YtigikedbffjeiaaGreat
open Go.RowKit
set_option maxHeartbeats 2000000 in
theorem ask_ans (r:SRow) (s:KSystem) (n:ByteArray) (cpu:Int) (w:World) (hr:RdS w r s) (hf:s.fine) (hns:n.size≤140737488351232) :
  Ans Tryz.prog 16 [.agg (encSys r).toArray,.string n,.int .i64 cpu] w (AskOut w.heap.size s n cpu):=by
 refine ans_of Tryz.func16 rfl Tryz.ntmps16 rfl ?_
 have hs:=hf.small
 refine CW.seq (CW.region (SW.box rfl rfl fun b3 w1 hw hb3b hb3 => ?_))
 refine SW.alloc rfl fun b6 w3 hw3 hb6b hb6 => ?_
 have hb6w:w.heap.size≤b6:=Nat.le_trans hw.size hb6b
 (replace hw:=Ext.trans hw hw3;replace hb3:=hb3.ext hw3)
 obtain ⟨q,hq⟩ : ∃ q,sysB s=q:=⟨_,rfl⟩
 have c1:∀ w',Ext w w'→Ans Tryz.prog 36 [.agg (encSys r).toArray] w' fun v _=>v = .int .i64 (if q then 0 else 8):=fun w' hx=>by
  have:=Scheck_ans r s w' (hr.ext hx) hf
  rwa [hq] at this
 cases q
 ·simp only [Bool.false_eq_true,if_false] at c1
  repeat' (first|(first|refine CW.seq ?_|refine CW.region ?_|refine CW.condn_t rfl (by omega) ?_)|(refine Post.seq ?_)|refine SW.nil ?_|refine SW.pure rfl rfl ?_|(show SW _ _ _ _ (⟨_,Op.build _ _,_,_,_,none⟩::_) _ _;refine SW.st (st_build rfl rfl) rfl ?_)|(show SW _ _ _ _ (⟨_,Op.load _ _,_,_,_,none⟩::_) _ _;refine SW.st (st_loads rfl rfl ((fun _ _=>hb3.cell))) rfl ?_)|(show SW _ _ _ _ (⟨_,Op.call ⟨.value (.func _),_,_⟩,_,_,_,none⟩::_) _ _;(refine SW.call rfl rfl (c1 _ hw) ?_;intro v w1 hw1 hv;subst hv;replace hw:=Ext.trans hw hw1;replace hb3:=hb3.ext hw1;replace hb6:=hb6.ext hw1;clear hw1)))
  refine SW.storeAgg hb6 rfl rfl rfl rfl (one_s .zero) fun w5 hR2 hg => ?_
  replace hw:=hw.own hb6w hg
  repeat' (first|(refine CW.ret ?_)|(first|refine Post.seq ?_|refine Post.seq_ret ?_)|refine SW.nil ?_|refine SW.pure rfl rfl ?_)
  exact Post.ret3c rfl rfl rfl rfl hR2 rfl ⟨_,rfl,hw,.inl ⟨by rw [askV_8 hq];decide,by rw [askV_8 hq];rfl⟩⟩
 ·simp only [if_true] at c1
  obtain ⟨t,ht⟩ : ∃ t,s.Caches.any (hasN n)=t:=⟨_,rfl⟩
  obtain ⟨ix,hix⟩ : ∃ ix,idxOf (hasN n) s.Caches=ix:=⟨_,rfl⟩
  have c3:∀ w',Ext w w'→Ans Tryz.prog 37 [.agg (encSys r).toArray,.string n] w' fun v _=>v = .tuple #[.int .i64 ix,.bool t]:=fun w' hx=>by
   have:=named_ans r s n w' (hr.ext hx) hs
   rwa [ht,hix] at this
  cases t
  ·repeat' (first|(first|refine CW.seq ?_|refine CW.region ?_|refine CW.block ?_|refine CW.condn_f rfl (by omega) ?_|refine CW.condt rfl ?_|refine CW.skip ?_)|(refine Post.seq ?_)|refine SW.nil ?_|refine SW.pure rfl rfl ?_|(show SW _ _ _ _ (⟨_,Op.build _ _,_,_,_,none⟩::_) _ _;refine SW.st (st_build rfl rfl) rfl ?_)|(show SW _ _ _ _ (⟨_,Op.load _ _,_,_,_,none⟩::_) _ _;refine SW.st (st_loads rfl rfl ((fun _ _=>hb3.cell))) rfl ?_)|(show SW _ _ _ _ (⟨_,Op.call ⟨.value (.func _),_,_⟩,_,_,_,none⟩::_) _ _;first|(refine SW.call rfl rfl (c1 _ hw) ?_;intro v w1 hw1 hv;subst hv;replace hw:=Ext.trans hw hw1;replace hb3:=hb3.ext hw1;replace hb6:=hb6.ext hw1;clear hw1)|(refine SW.call rfl rfl (c3 _ hw) ?_;intro v w1 hw1 hv;subst hv;replace hw:=Ext.trans hw hw1;replace hb3:=hb3.ext hw1;replace hb6:=hb6.ext hw1;clear hw1)))
   refine SW.storeAgg hb6 rfl rfl rfl rfl (one_s .zero) fun w5 hR2 hg => ?_
   replace hw:=hw.own hb6w hg
   repeat' (first|(refine CW.ret ?_)|(first|refine Post.seq ?_|refine Post.seq_ret ?_|refine Post.blk_ret ?_)|refine SW.nil ?_|refine SW.pure rfl rfl ?_)
   exact Post.ret3c rfl rfl rfl rfl hR2 rfl ⟨_,rfl,hw,.inl ⟨by rw [askV_4 hq ht];decide,by rw [askV_4 hq ht];rfl⟩⟩
  ·have hcp:=hr.heap.cpus
   by_cases hc : 0≤cpu∧cpu<s.Heap.Cpus
   ·repeat' (first|(first|refine CW.seq ?_|refine CW.region ?_|refine CW.block ?_|refine CW.condd_f rfl (by omega) ?_|refine CW.condn_f rfl (by omega) ?_|refine CW.condf rfl ?_|refine CW.skip ?_)|(first|refine Post.seq ?_|refine Post.blk ?_)|refine SW.nil ?_|(show SW _ _ _ _ (⟨_,_,_,_,_,some _⟩::_) _ _;first|refine SW.want_f rfl rfl (by with_reducible rfl) ?_|refine SW.splitd_f rfl rfl rfl (by omega) ?_)|refine SW.pure rfl rfl ?_|(show SW _ _ _ _ (⟨_,Op.fieldAddr _ _ _,_,_,_,none⟩::_) _ _;refine SW.st (st_field rfl) rfl ?_)|(show SW _ _ _ _ (⟨_,Op.load _ _,_,_,_,none⟩::_) _ _;first|refine SW.st (st_loads rfl rfl ((fun _ _=>hb3.cell))) rfl ?_|refine SW.st (st_load rfl (hb3.cell (i:=3) (v := .int .i64 r.Heap.Cpus) rfl)) rfl ?_)|(show SW _ _ _ _ (⟨_,Op.call ⟨.value (.func _),_,_⟩,_,_,_,none⟩::_) _ _;first|(refine SW.call rfl rfl (c1 _ hw) ?_;intro v w1 hw1 hv;subst hv;replace hw:=Ext.trans hw hw1;replace hb3:=hb3.ext hw1;replace hb6:=hb6.ext hw1;clear hw1)|(refine SW.call rfl rfl (c3 _ hw) ?_;intro v w1 hw1 hv;subst hv;replace hw:=Ext.trans hw hw1;replace hb3:=hb3.ext hw1;replace hb6:=hb6.ext hw1;clear hw1)))
    all_goals first|(exfalso;omega)|skip
    refine SW.call rfl rfl (ScopyX_ans r s _ (hr.ext hw) hs) fun v w6 hXX hv => ?_
    obtain ⟨q,zr,rfl,hO,hI⟩:=hv
    replace hO:=hO.low hw.size
    replace hI:=hI.low hw.size
    (replace hw:=Ext.trans hw hXX;replace hb6:=hb6.ext hXX)
    repeat' (refine SW.pure rfl rfl ?_)
    refine SW.storeAgg hb6 rfl rfl rfl rfl (one_s q) fun w5 hR2 hg => ?_
    have hG:=hb6.gr hg
    replace hw:=hw.own hb6w hg
    (replace hO:=hO.grT hG rfl;replace hI:=hI.grT hG rfl)
    repeat' (first|(refine CW.ret ?_)|(refine Post.seq ?_)|refine SW.nil ?_|refine SW.pure rfl rfl ?_)
    exact Post.ret3c rfl rfl rfl rfl hR2 rfl ⟨_,rfl,hw,.inr ⟨askV_0 hq ht hc,q,zr,by rw [hix];rfl,hO,hI⟩⟩
   ·rcases (show cpu<0∨(0≤cpu∧s.Heap.Cpus≤cpu) by omega) with g|g
    all_goals
     repeat' (first|(first|refine CW.seq ?_|refine CW.region ?_|refine CW.block ?_|refine CW.condtr rfl (by with_reducible rfl) ?_|refine CW.condd_t rfl (by omega) ?_|refine CW.condn_f rfl (by omega) ?_|refine CW.condf rfl ?_|refine CW.skip ?_)|(refine Post.seq ?_)|refine SW.nil ?_|(show SW _ _ _ _ (⟨_,_,_,_,_,some _⟩::_) _ _;first|refine SW.want_f rfl rfl (by with_reducible rfl) ?_|refine SW.skip_f rfl rfl (by with_reducible rfl) rfl ?_|refine SW.splitd_t rfl rfl rfl (by omega) ?_|refine SW.splitd_f rfl rfl rfl (by omega) ?_)|refine SW.pure rfl rfl ?_|(show SW _ _ _ _ (⟨_,Op.fieldAddr _ _ _,_,_,_,none⟩::_) _ _;refine SW.st (st_field rfl) rfl ?_)|(show SW _ _ _ _ (⟨_,Op.build _ _,_,_,_,none⟩::_) _ _;refine SW.st (st_build rfl rfl) rfl ?_)|(show SW _ _ _ _ (⟨_,Op.load _ _,_,_,_,none⟩::_) _ _;first|refine SW.st (st_loads rfl rfl ((fun _ _=>hb3.cell))) rfl ?_|refine SW.st (st_load rfl (hb3.cell (i:=3) (v := .int .i64 r.Heap.Cpus) rfl)) rfl ?_)|(show SW _ _ _ _ (⟨_,Op.call ⟨.value (.func _),_,_⟩,_,_,_,none⟩::_) _ _;first|(refine SW.call rfl rfl (c1 _ hw) ?_;intro v w1 hw1 hv;subst hv;replace hw:=Ext.trans hw hw1;replace hb3:=hb3.ext hw1;replace hb6:=hb6.ext hw1;clear hw1)|(refine SW.call rfl rfl (c3 _ hw) ?_;intro v w1 hw1 hv;subst hv;replace hw:=Ext.trans hw hw1;replace hb3:=hb3.ext hw1;replace hb6:=hb6.ext hw1;clear hw1)))
     all_goals first|(exfalso;omega)|skip
     refine SW.storeAgg hb6 rfl rfl rfl rfl (one_s .zero) fun w5 hR2 hg => ?_
     replace hw:=hw.own hb6w hg
     repeat' (first|(refine CW.ret ?_)|(first|refine Post.seq ?_|refine Post.seq_ret ?_|refine Post.blk_ret ?_)|refine SW.nil ?_|refine SW.pure rfl rfl ?_)
     exact Post.ret3c rfl rfl rfl rfl hR2 rfl ⟨_,rfl,hw,.inl ⟨by rw [askV_1 hq ht hc];decide,by rw [askV_1 hq ht hc];rfl⟩⟩
set_option maxHeartbeats 1000000 in
theorem askFault_ans (r:SRow) (s:KSystem) (n:ByteArray) (cpu:Int) (w:World) (hr:RdS w r s) (hf:s.fine) :
  Ans Tryz.prog 18 [.agg (encSys r).toArray,.string n,.int .i64 cpu] w fun v _=>v = .int .i64 (askV s n cpu):=by
 refine ans_of Tryz.func18 rfl Tryz.ntmps18 rfl ?_
 have hs:=hf.small
 refine CW.seq (CW.region (SW.box rfl rfl fun b3 w1 hw hb3b hb3 => ?_))
 obtain ⟨q,hq⟩ : ∃ q,sysB s=q:=⟨_,rfl⟩
 have c1:∀ w',Ext w w'→Ans Tryz.prog 39 [.agg (encSys r).toArray] w' fun v _=>v = .bool q:=fun w' hx=>by
  have:=SMay_ans r s w' (hr.ext hx) hf
  rwa [hq] at this
 cases q
 ·repeat' (first|(first|refine CW.seq ?_|refine CW.region ?_|refine CW.condt rfl ?_|refine CW.ret ?_)|(first|refine Post.seq ?_|refine Post.seq_ret ?_)|refine SW.nil ?_|refine SW.pure rfl rfl ?_|(show SW _ _ _ _ (⟨_,Op.load _ _,_,_,_,none⟩::_) _ _;refine SW.st (st_loads rfl rfl ((fun _ _=>hb3.cell))) rfl ?_)|(show SW _ _ _ _ (⟨_,Op.call ⟨.value (.func _),_,_⟩,_,_,_,none⟩::_) _ _;(refine SW.call rfl rfl (c1 _ hw) ?_;intro v w1 hw1 hv;subst hv;replace hw:=Ext.trans hw hw1;replace hb3:=hb3.ext hw1;clear hw1)))
  exact Post.ret1 rfl rfl ⟨_,rfl,hw,by rw [askV_8 hq]⟩
 ·have hM:=(sysB_iff.1 hq).heap.cpus
  obtain ⟨ix,hix⟩ : ∃ ix,idxOf (hasN n) s.Caches=ix:=⟨_,rfl⟩
  have hge:=idxOf_ge (hasN n) s.Caches
  rw [hix] at hge
  have c3:∀ w',Ext w w'→Ans Tryz.prog 20 [.agg (encSys r).toArray,.string n] w' fun v _=>v = .int .i64 ix:=fun w' hx=>by
   have:=cacheOf_ans r s n w' (hr.ext hx) hs
   rwa [hix] at this
  have eC:=hr.heap.cpus
  by_cases hix0 : 0≤ix
  ·have ht:s.Caches.any (hasN n)=true:=by rw [← hge];exact decide_eq_true hix0
   by_cases hc : 0≤cpu∧cpu<s.Heap.Cpus
   ·repeat' (first|(first|refine CW.seq ?_|refine CW.region ?_|refine CW.condd_f rfl (by omega) ?_|refine CW.condn_f rfl (by omega) ?_|refine CW.condf rfl ?_|refine CW.skip ?_|refine CW.ret ?_)|(refine Post.seq ?_)|refine SW.nil ?_|refine SW.pure rfl rfl ?_|(show SW _ _ _ _ (⟨_,Op.fieldAddr _ _ _,_,_,_,none⟩::_) _ _;refine SW.st (st_field rfl) rfl ?_)|(show SW _ _ _ _ (⟨_,Op.binOp _ _ _ _ _,_,_,_,none⟩::_) _ _;refine SW.st (st_sub rfl rfl (by omega) (by omega)) rfl ?_)|(show SW _ _ _ _ (⟨_,Op.load _ _,_,_,_,none⟩::_) _ _;first|refine SW.st (st_loads rfl rfl ((fun _ _=>hb3.cell))) rfl ?_|refine SW.st (st_load rfl (hb3.cell (i:=3) (v := .int .i64 r.Heap.Cpus) rfl)) rfl ?_)|(show SW _ _ _ _ (⟨_,Op.call ⟨.value (.func _),_,_⟩,_,_,_,none⟩::_) _ _;first|(refine SW.call rfl rfl (c1 _ hw) ?_;intro v w1 hw1 hv;subst hv;replace hw:=Ext.trans hw hw1;replace hb3:=hb3.ext hw1;clear hw1)|(refine SW.call rfl rfl (c3 _ hw) ?_;intro v w1 hw1 hv;subst hv;replace hw:=Ext.trans hw hw1;replace hb3:=hb3.ext hw1;clear hw1)|(refine SW.call rfl rfl (In_ans _ _ _ _) ?_;intro v w1 hw1 hv;subst hv;replace hw:=Ext.trans hw hw1;replace hb3:=hb3.ext hw1;clear hw1)))
    all_goals first|(exfalso;omega)|skip
    exact Post.ret1 rfl rfl ⟨_,rfl,hw,by rw [askV_0 hq ht hc]⟩
   ·repeat' (first|(first|refine CW.seq ?_|refine CW.region ?_|refine CW.condd_f rfl (by omega) ?_|refine CW.condn_t rfl (by omega) ?_|refine CW.condf rfl ?_|refine CW.skip ?_|refine CW.ret ?_)|(first|refine Post.seq ?_|refine Post.seq_ret ?_)|refine SW.nil ?_|refine SW.pure rfl rfl ?_|(show SW _ _ _ _ (⟨_,Op.fieldAddr _ _ _,_,_,_,none⟩::_) _ _;refine SW.st (st_field rfl) rfl ?_)|(show SW _ _ _ _ (⟨_,Op.binOp _ _ _ _ _,_,_,_,none⟩::_) _ _;refine SW.st (st_sub rfl rfl (by omega) (by omega)) rfl ?_)|(show SW _ _ _ _ (⟨_,Op.load _ _,_,_,_,none⟩::_) _ _;first|refine SW.st (st_loads rfl rfl ((fun _ _=>hb3.cell))) rfl ?_|refine SW.st (st_load rfl (hb3.cell (i:=3) (v := .int .i64 r.Heap.Cpus) rfl)) rfl ?_)|(show SW _ _ _ _ (⟨_,Op.call ⟨.value (.func _),_,_⟩,_,_,_,none⟩::_) _ _;first|(refine SW.call rfl rfl (c1 _ hw) ?_;intro v w1 hw1 hv;subst hv;replace hw:=Ext.trans hw hw1;replace hb3:=hb3.ext hw1;clear hw1)|(refine SW.call rfl rfl (c3 _ hw) ?_;intro v w1 hw1 hv;subst hv;replace hw:=Ext.trans hw hw1;replace hb3:=hb3.ext hw1;clear hw1)|(refine SW.call rfl rfl (In_ans _ _ _ _) ?_;intro v w1 hw1 hv;subst hv;replace hw:=Ext.trans hw hw1;replace hb3:=hb3.ext hw1;clear hw1)))
    all_goals first|(exfalso;omega)|skip
    exact Post.ret1 rfl rfl ⟨_,rfl,hw,by rw [askV_1 hq ht hc]⟩
  ·have ht:s.Caches.any (hasN n)=false:=by rw [← hge];exact decide_eq_false hix0
   repeat' (first|(first|refine CW.seq ?_|refine CW.region ?_|refine CW.condd_t rfl (by omega) ?_|refine CW.condf rfl ?_|refine CW.skip ?_|refine CW.ret ?_)|(first|refine Post.seq ?_|refine Post.seq_ret ?_)|refine SW.nil ?_|refine SW.pure rfl rfl ?_|(show SW _ _ _ _ (⟨_,Op.load _ _,_,_,_,none⟩::_) _ _;refine SW.st (st_loads rfl rfl ((fun _ _=>hb3.cell))) rfl ?_)|(show SW _ _ _ _ (⟨_,Op.call ⟨.value (.func _),_,_⟩,_,_,_,none⟩::_) _ _;first|(refine SW.call rfl rfl (c1 _ hw) ?_;intro v w1 hw1 hv;subst hv;replace hw:=Ext.trans hw hw1;replace hb3:=hb3.ext hw1;clear hw1)|(refine SW.call rfl rfl (c3 _ hw) ?_;intro v w1 hw1 hv;subst hv;replace hw:=Ext.trans hw hw1;replace hb3:=hb3.ext hw1;clear hw1)))
   all_goals first|(exfalso;omega)|skip
   exact Post.ret1 rfl rfl ⟨_,rfl,hw,by rw [askV_4 hq ht]⟩
open Go.RowKit
theorem SW.storePart {P:Program} {n:Nat} {ops:Array Oper} {Q:Exit→Act→World→Prop} {rest:List Oper} {L:Env} {w:World} {T:TypeId} {pos:String} {af:Array Edge} {t:TypeId} {k:Nat} [G:AggTy P t k] {b:Nat} {tb:TypeId} {cs vs:List Value} {x y:Operand} (o:Nat)
  (hB:Blk w b tb cs) (hx:opv L x=some (.pointer (some ((⟨b,0,none⟩ : Addr).add o)))) (hy:opv L y=some (.agg vs.toArray)) (hl:vs.length=k) (hc:o+k≤cs.length) (h1:∀ v∈vs,v.oneCell'=true) (cs':List Value) (hcs:cs.take o++vs++cs.drop (o+k)=cs')
  (h:∀ w',Blk w' b tb cs'→w.grownBy w' (some b)→SW P n ops (.eff Q) rest L w') : SW P n ops (.eff Q) (⟨none,.store t x y,T,pos,af,none⟩::rest) L w :=
 ⟨fun a ha=>by
  rw [addr_of] at hx
  have hst:=run_storeCells_at P b o tb vs 0 cs.toArray w hB (by simp only [List.size_toArray];omega) h1
  simp only [Nat.add_zero,hl,hcs] at hst
  simp only [swp,wpList,Region.wanted,if_true]
  refine .inl ?_
  unfold Oper.wp
  have hrun:(execOp a.eval ⟨none,.store t x y,T,pos,af,none⟩).run P w = .ok .skip (w.setRow b cs'.toArray):=by
   simp [execOp,ha.eval hx,ha.eval hy,Instr.storeAt,Instr.sureAddr,storeVar,Value.cells,run_sizeOf G.size,hl,hst]
  rw [hrun,Oper.upon_skip]
  obtain ⟨hB',hg'⟩:=grown_setRow (cs:=cs') hB
  exact (h _ hB' hg').out _ ha⟩
open Go.RowKit
structure Sh (wb w w':World) (b:Nat) (r:SRow) (H:HRow) (s:KSystem) (i:Nat) (p:Heap×KCache) (cs:List CRow) : Prop where
 ext:Ext wb w'
 blk:Blk w' b 30 (encSys ⟨r.Words,H,r.Caches⟩)
 sx:SX w' wb.heap.size ⟨r.Words,H,r.Caches⟩ (sysAt s i p) cs
 kp:∀ j x,j≠b→Blk w j 30 x→Blk w' j 30 x
set_option maxHeartbeats 4000000 in
theorem discard_ans (wb w0:World) (b:Nat) (r:SRow) (s:KSystem) (cs:List CRow) (i k:Nat) (p:Heap×KCache) (cpu:Int)
  (hx:Ext wb w0) (hb:Blk w0 b 30 (encSys r)) (hbl:wb.heap.size≤b) (hS:SX w0 wb.heap.size r (sysAt s i p) cs) (hi:i<s.Caches.length) (hn:s.Caches.length≤1000000) (hk:k<p.2.Slabs.length) (h1:HOk p.1) (h2:COk p.2) :
  AnsX Tryz.prog 25 [.pointer (some ⟨b,0,none⟩),.int .i64 (i:Int),.int .i64 (k:Int),.int .i64 cpu] w0 fun v w'=>v = .tuple #[] ∧ ∃ H cs',Sh wb w0 w' b r H s i ((freeV p.1 cpu p.2.Slabs[k].At).2,cutSlab p.2 k) cs':=by
 refine ansx_of Tryz.func25 rfl Tryz.ntmps25 rfl ?_
 obtain ⟨e1,e2⟩:=hS.rows
 have hic:i<cs.length:=by omega
 have hin:i<r.Caches.n:=by omega
 have hAc:=hS.row.sl.base
 have hC:=hS.get hic hi
 have q1:=hC.slabs.len
 have q2:=h2.small.slabs
 have hks:k<cs[i].Slabs.n:=by omega
 have hAs:=hC.slabs.sl.base
 have hat:=h2.at_ _ (List.getElem_mem hk)
 obtain ⟨x,hxk⟩ : ∃ x,p.2.Slabs[k]=x:=⟨_,rfl⟩
 have gA:=hC.slabs.sl.fld hks (j:=0) (show (encSb (p.2.Slabs[k]'(by omega)))[0]?=some (Value.int .i64 x.At) by rw [hxk];rfl)
 rw [hxk] at hat ⊢
 have hw:=Ext.refl w0
 have hkp:∀ j x,j≠b→Blk w0 j 30 x→Blk w0 j 30 x:=fun _ _ _ h=>h
 repeat' (first|(first|refine CW.seq ?_|refine CW.region ?_)|(refine Post.seq ?_)|refine SW.nil ?_|refine SW.pure rfl rfl ?_|(show SW _ _ _ _ (⟨_,Op.fieldAddr _ _ _,_,_,_,none⟩::_) _ _;refine SW.st (st_field rfl) rfl ?_)|(show SW _ _ _ _ (⟨_,Op.nilCheck _,_,_,_,none⟩::_) _ _;refine SW.st (st_nilCheck rfl) rfl ?_)|(show SW _ _ _ _ (⟨_,Op.indexAddr _ _ _,_,_,_,none⟩::_) _ _;refine SW.st (st_indexN rfl rfl (by assumption) (by omega)) rfl ?_)|(show SW _ _ _ _ (⟨_,Op.load _ _,_,_,_,none⟩::_) _ _;refine SW.st (st_load rfl (hb.cell (i:=6) (v := .slice r.Caches.A r.Caches.n r.Caches.c) rfl)) rfl ?_))
 refine CW.anyF 20 20 (fun _=>True) mixed (by kernel_rfl) fun w1 hw1 hRB => ?_
 replace hw:=Ext.trans hw hw1;replace hb:=hb.ext hw1;replace hS:=hS.ext hw1;clear hw1
 refine SF.take 0 [] [] hRB rfl (by kernel_rfl) (by kernel_rfl) (by kernel_rfl) ?_
 repeat (refine SW.pure rfl rfl ?_)
 refine SW.tknil ?_
 refine SF.take 1 [] [] hRB rfl (by kernel_rfl) (by kernel_rfl) (by kernel_rfl) ?_
 repeat (refine SW.pure rfl rfl ?_)
 refine SW.tknil ?_
 refine SF.take 2 [] [] hRB rfl (by kernel_rfl) (by kernel_rfl) (by kernel_rfl) ?_
 repeat ((show SW _ _ _ _ (⟨_,Op.nilCheck _,_,_,_,none⟩::_) _ _;refine SW.st (st_nilCheck rfl) rfl ?_))
 refine SW.tknil ?_
 refine SF.take 3 [] [] hRB rfl (by kernel_rfl) (by kernel_rfl) (by kernel_rfl) ?_
 repeat ((show SW _ _ _ _ (⟨_,Op.fieldAddr _ _ _,_,_,_,none⟩::_) _ _;refine SW.st (st_field rfl) rfl ?_))
 refine SW.tknil ?_
 refine SF.take 4 [] [] hRB rfl (by kernel_rfl) (by kernel_rfl) (by kernel_rfl) ?_
 repeat ((show SW _ _ _ _ (⟨_,Op.load _ _,_,_,_,none⟩::_) _ _;refine SW.st (st_loads rfl rfl ((heapIn hb))) rfl ?_))
 refine SW.tknil ?_
 refine SF.take 5 [] [] hRB rfl (by kernel_rfl) (by kernel_rfl) (by kernel_rfl) ?_
 repeat (refine SW.pure rfl rfl ?_)
 refine SW.tknil ?_
 refine SF.take 6 [] [] hRB rfl (by kernel_rfl) (by kernel_rfl) (by kernel_rfl) ?_
 repeat (refine SW.pure rfl rfl ?_)
 refine SW.tknil ?_
 refine SF.take 7 [] [] hRB rfl (by kernel_rfl) (by kernel_rfl) (by kernel_rfl) ?_
 repeat ((show SW _ _ _ _ (⟨_,Op.nilCheck _,_,_,_,none⟩::_) _ _;refine SW.st (st_nilCheck rfl) rfl ?_))
 refine SW.tknil ?_
 refine SF.take 8 [] [] hRB rfl (by kernel_rfl) (by kernel_rfl) (by kernel_rfl) ?_
 repeat ((show SW _ _ _ _ (⟨_,Op.fieldAddr _ _ _,_,_,_,none⟩::_) _ _;refine SW.st (st_field rfl) rfl ?_))
 refine SW.tknil ?_
 refine SF.take 9 [] [] hRB rfl (by kernel_rfl) (by kernel_rfl) (by kernel_rfl) ?_
 repeat ((show SW _ _ _ _ (⟨_,Op.load _ _,_,_,_,none⟩::_) _ _;refine SW.st (st_load rfl (hS.row.sl.fld hin (j:=4) (u := .slice cs[i].Slabs.A cs[i].Slabs.n cs[i].Slabs.c) rfl)) rfl ?_))
 refine SW.tknil ?_
 refine SF.take 10 [] [] hRB rfl (by kernel_rfl) (by kernel_rfl) (by kernel_rfl) ?_
 repeat (refine SW.pure rfl rfl ?_)
 refine SW.tknil ?_
 refine SF.take 11 [] [] hRB rfl (by kernel_rfl) (by kernel_rfl) (by kernel_rfl) ?_
 repeat ((show SW _ _ _ _ (⟨_,Op.indexAddr _ _ _,_,_,_,none⟩::_) _ _;refine SW.st (st_indexN rfl rfl (by assumption) (by omega)) rfl ?_))
 refine SW.tknil ?_
 refine SF.take 12 [] [] hRB rfl (by kernel_rfl) (by kernel_rfl) (by kernel_rfl) ?_
 repeat ((show SW _ _ _ _ (⟨_,Op.fieldAddr _ _ _,_,_,_,none⟩::_) _ _;refine SW.st (st_field rfl) rfl ?_))
 refine SW.tknil ?_
 refine SF.take 13 [] [] hRB rfl (by kernel_rfl) (by kernel_rfl) (by kernel_rfl) ?_
 repeat ((show SW _ _ _ _ (⟨_,Op.load _ _,_,_,_,none⟩::_) _ _;refine SW.st (st_loadx hw rfl gA) rfl ?_))
 refine SW.tknil ?_
 refine SF.one 14 rfl (by kernel_rfl) rfl ?_
 refine SW.call rfl rfl (Free_ans r.Heap p.1 cpu x.At _ hS.heap.rd h1.small h1.big hat) fun v w4 hXX hv => ?_
 obtain ⟨H,rfl,hH⟩:=hv
 replace hH:=hH.low (Nat.le_trans hx.size hw.size)
 (replace hw:=Ext.trans hw hXX;replace hb:=hb.ext hXX;replace hS:=hS.ext hXX)
 refine SW.nil (Post.sf hXX ?_)
 refine SF.take 15 [] [] hRB rfl (by kernel_rfl) (by kernel_rfl) (by kernel_rfl) ?_
 repeat (refine SW.pure rfl rfl ?_)
 refine SW.tknil ?_
 refine SF.take 16 [] [] hRB rfl (by kernel_rfl) (by kernel_rfl) (by kernel_rfl) ?_
 repeat (refine SW.pure rfl rfl ?_)
 refine SW.tknil ?_
 refine SF.takeX 17 hRB rfl (by kernel_rfl) (by kernel_rfl) rfl (fun _=>pureV_st rfl) rfl ?_
 refine SF.take 18 [19] [19] hRB rfl (by kernel_rfl) (by kernel_rfl) (by kernel_rfl) ?_
 repeat ((show SW _ _ _ _ (⟨_,Op.nilCheck _,_,_,_,none⟩::_) _ _;refine SW.st (st_nilCheck rfl) rfl ?_))
 refine SW.tknil ?_
 refine SF.take 19 [] [] hRB rfl (by kernel_rfl) (by kernel_rfl) (by kernel_rfl) ?_
 repeat ((show SW _ _ _ _ (⟨_,Op.fieldAddr _ _ _,_,_,_,none⟩::_) _ _;refine SW.st (st_field rfl) rfl ?_))
 refine SW.tknil ?_
 refine SF.last rfl (by kernel_rfl) (by kernel_rfl) ?_
 refine SW.storePart 1 hb rfl rfl rfl (Nat.le_of_ble_eq_true rfl) (one_h H) (encSys ⟨r.Words,H,r.Caches⟩) rfl fun w5 hb5 hg => ?_
 have hG:=hb.gr hg
 replace hx:=(hx.trans hw).own hbl hg
 have hkp5:∀ j x,j≠b→Blk w0 j 30 x→Blk w5 j 30 x:=fun j x hj h=>(h.ext hw).grown hg (by simpa using hj)
 have hS5:SX w5 wb.heap.size ⟨r.Words,H,r.Caches⟩ (sysAt s i ((freeV p.1 cpu x.At).2,p.2)) cs:=(hS.grT hG rfl).heapAt (hH.grT hG rfl)
 clear hw hkp hS hb hC gA
 have hw:=Ext.refl w5
 have hC:=hS5.get hic hi
 repeat' (first|(refine CW.region ?_)|(first|refine Post.seq ?_|refine Post.np ?_)|refine SW.nil ?_|refine SW.pure rfl rfl ?_|(show SW _ _ _ _ (⟨_,Op.fieldAddr _ _ _,_,_,_,none⟩::_) _ _;refine SW.st (st_field rfl) rfl ?_)|(show SW _ _ _ _ (⟨_,Op.nilCheck _,_,_,_,none⟩::_) _ _;refine SW.st (st_nilCheck rfl) rfl ?_)|(show SW _ _ _ _ (⟨_,Op.binOp _ _ _ _ _,_,_,_,none⟩::_) _ _;refine SW.st (st_add rfl rfl (by omega) (by omega)) rfl ?_)|(show SW _ _ _ _ (⟨_,Op.load _ _,_,_,_,none⟩::_) _ _;refine SW.st (st_load rfl (hS5.row.sl.fld hin (j:=4) (u := .slice cs[i].Slabs.A cs[i].Slabs.n cs[i].Slabs.c) rfl)) rfl ?_))
 refine SW.callX rfl rfl (DeleteSlab_ans _ _ _ wb.heap.size _ _ hC.slabs k hks (by omega) hx.size) fun v w6 hv => ?_
 obtain ⟨rfl,hO6,hg6⟩:=hv
 have hG6:=hC.slabs.gr hg6
 have hS6:=hS5.slabsAt hic hi hO6 hg6
 have hb6:=hb5.grT hG6 rfl
 replace hx:=ext_grown hx hg6 (Nat.le_refl _) hC.slabs.row_ge
 have hkp6:∀ j x,j≠b→Blk w0 j 30 x→Blk w6 j 30 x:=fun j x hj h=>(hkp5 j x hj h).grT hG6 rfl
 have hrow:=hS6.row
 repeat' (first|(show SW _ _ _ _ (⟨_,Op.fieldAddr _ _ _,_,_,_,none⟩::_) _ _;refine SW.st (st_field rfl) rfl ?_)|(show SW _ _ _ _ (⟨_,Op.nilCheck _,_,_,_,none⟩::_) _ _;refine SW.st (st_nilCheck rfl) rfl ?_))
 refine SW.storeO i 4 ⟨cs[i].Names,cs[i].Size,cs[i].Per,cs[i].Order,⟨cs[i].Slabs.A,cs[i].Slabs.n-1,cs[i].Slabs.c⟩,cs[i].Active⟩ hrow rfl rfl rfl hin (by decide) rfl rfl fun w7 hrow' hg7 => ?_
 have hG7:=hrow.gr hg7
 have hS7:=hS6.rowSet hrow' hg7
 replace hx:=ext_grown hx hg7 (Nat.le_refl _) hrow.row_ge
 repeat' (refine SW.nil ?_)
 exact Post.end0 rfl ⟨_,rfl,rfl,H,_,hx,hb6.grT hG7 rfl,hS7,fun j x hj h=>(hkp6 j x hj h).grT hG7 rfl⟩
theorem idle_step {l:List Int} {k:Nat} (hk:k<l.length) : (List.replicate k (-1)++l.drop k).set k (-1)=List.replicate (k+1) (-1)++l.drop (k+1):=by
 rw [List.drop_eq_getElem_cons hk,List.set_append_right _ _ (by simp),List.length_replicate,Nat.sub_self,List.set_cons_zero,List.replicate_succ']
 simp
set_option maxHeartbeats 4000000 in
theorem shrink_ans (wb w0:World) (b:Nat) (r:SRow) (s:KSystem) (cs:List CRow) (i:Nat) (hf:s.fine)
  (hx:Ext wb w0) (hb:Blk w0 b 30 (encSys r)) (hbl:wb.heap.size≤b) (hS:SX w0 wb.heap.size r s cs) (hI:SI w0 wb.heap.size r s cs) (hi:i<s.Caches.length) (hn:s.Caches.length≤1000000) :
  AnsX Tryz.prog 17 [.pointer (some ⟨b,0,none⟩),.int .i64 (i:Int)] w0 fun v w'=>v = .tuple #[] ∧ ∃ H cs',Sh wb w0 w' b r H s i (shrinkF s.Caches[i].Slabs.length (s.Heap,idleC s.Caches[i])) cs':=by
 refine ansx_of Tryz.func17 rfl Tryz.ntmps17 rfl ?_
 have h1:=hf.hok
 have h2:=hf.cok hi
 have e0:=sysAt_self hi
 obtain ⟨c,hc⟩ : ∃ c,s.Caches[i]=c:=⟨_,rfl⟩
 rw [hc] at h2 e0 ⊢
 rw [← e0] at hS hI
 obtain ⟨e1,e2⟩:=hS.rows
 have hic:i<cs.length:=by omega
 have hin:i<r.Caches.n:=by omega
 have hAc:=hS.row.sl.base
 have hC:=hS.get hic hi
 have q1:=hC.active.len
 have q2:=h2.small.active
 have q3:=hC.slabs.len
 have q4:=h2.small.slabs
 have hAa:=hC.active.sl.base
 obtain ⟨u,hu⟩ : ∃ u,cs[i]=u:=⟨_,rfl⟩
 rw [hu] at hC q1 q3 hAa
 have hw:=Ext.refl w0
 simp only at hC q1 q3
 have gU:=hS.row.sl.fld hin (j:=5) (show (encC cs[i])[5]?=some (Value.slice u.Active.A u.Active.n u.Active.c) by rw [hu];rfl)
 repeat' (first|(first|refine CW.seq ?_|refine CW.region ?_|refine CW.block ?_)|(refine Post.seq ?_)|refine SW.nil ?_|refine SW.pure rfl rfl ?_|(show SW _ _ _ _ (⟨_,Op.fieldAddr _ _ _,_,_,_,none⟩::_) _ _;refine SW.st (st_field rfl) rfl ?_)|(show SW _ _ _ _ (⟨_,Op.nilCheck _,_,_,_,none⟩::_) _ _;refine SW.st (st_nilCheck rfl) rfl ?_)|(show SW _ _ _ _ (⟨_,Op.indexAddr _ _ _,_,_,_,none⟩::_) _ _;refine SW.st (st_indexN rfl rfl (by assumption) (by omega)) rfl ?_)|(show SW _ _ _ _ (⟨_,Op.call ⟨.builtin .len,_,_⟩,_,_,_,none⟩::_) _ _;refine SW.st (st_len rfl) rfl ?_)|(show SW _ _ _ _ (⟨_,Op.load _ _,_,_,_,none⟩::_) _ _;first|refine SW.st (st_load rfl (hb.cell (i:=6) (v := .slice r.Caches.A r.Caches.n r.Caches.c) rfl)) rfl ?_|refine SW.st (st_load rfl gU) rfl ?_))
 clear gU
 obtain ⟨K,hK⟩ : ∃ K:Env→World→Prop,K=fun L' w'=>subEnv L' [(0,.pointer (some ⟨b,0,none⟩)),(1,.int .i64 (i:Int)),(4,.pointer (some ((r.Caches.A.getD default).add (i*6))))]∧Ext wb w'∧Blk w' b 30 (encSys r)∧SX w' wb.heap.size r (sysAt s i (s.Heap,idleC c)) cs∧(∀ j x,Blk w0 j 30 x→Blk w' j 30 x):=⟨_,rfl⟩
 refine CW.cutb K ?_ ?_
 ·refine CW.loop (fun k:Nat=>[(0,.pointer (some ⟨b,0,none⟩)),(1,.int .i64 (i:Int)),(4,.pointer (some ((r.Caches.A.getD default).add (i*6)))),(17,.int .i64 (u.Active.n:Int)),(18,.int .i64 (k:Int))])
   (fun k w'=>k≤u.Active.n∧Ext wb w'∧Blk w' b 30 (encSys r)∧SX w' wb.heap.size r (sysAt s i (s.Heap,⟨c.Names,c.Size,c.Per,c.Order,c.Slabs,List.replicate k (-1)++c.Active.drop k⟩)) cs∧SI w' wb.heap.size r (sysAt s i (s.Heap,⟨c.Names,c.Size,c.Per,c.Order,c.Slabs,List.replicate k (-1)++c.Active.drop k⟩)) cs∧(∀ j x,Blk w0 j 30 x→Blk w' j 30 x)) (fun k=>u.Active.n-k) 0
   ⟨rfl,rfl,rfl,rfl,rfl,trivial⟩ ⟨by omega,hx,hb,by simpa using hS,by simpa using hI,fun _ _ h=>h⟩ ?_
  clear hw hx hb hS hI hC hAa
  rintro k w1 ⟨hk,hx,hb,hS,hI,hkp⟩
  have hw:=Ext.refl w1
  have hC:=hS.get hic hi
  rw [hu] at hC
  have hAa:=hC.active.sl.base
  by_cases hkn:k<u.Active.n
  ·have gU:=hS.row.sl.fld hin (j:=5) (show (encC cs[i])[5]?=some (Value.slice u.Active.A u.Active.n u.Active.c) by rw [hu];rfl)
   repeat' (first|(first|refine CW.seq ?_|refine CW.region ?_|refine CW.block ?_|refine CW.condd_t rfl (by omega) ?_|refine CW.skip ?_)|(refine Post.seq ?_)|refine SW.nil ?_|refine SW.pure rfl rfl ?_|(show SW _ _ _ _ (⟨_,Op.fieldAddr _ _ _,_,_,_,none⟩::_) _ _;refine SW.st (st_field rfl) rfl ?_)|(show SW _ _ _ _ (⟨_,Op.nilCheck _,_,_,_,none⟩::_) _ _;refine SW.st (st_nilCheck rfl) rfl ?_)|(show SW _ _ _ _ (⟨_,Op.indexAddr _ _ _,_,_,_,none⟩::_) _ _;refine SW.st (st_indexN rfl rfl (by assumption) (by omega)) rfl ?_)|(show SW _ _ _ _ (⟨_,Op.load _ _,_,_,_,none⟩::_) _ _;refine SW.st (st_load rfl gU) rfl ?_))
   refine SW.storeI k hC.active rfl rfl hkn fun w2 hO hg => ?_
   have hG:=hC.active.gr hg
   simp only at hO
   rw [idle_step (by omega)] at hO
   have hSI:=hS.activeAt hI hic hi (by rw [hu];exact hO) (by rw [hu];exact hg)
   replace hx:=ext_grown hx hg (Nat.le_refl _) hC.active.row_ge
   replace hb:=hb.grT hG rfl
   repeat' (first|(refine CW.region ?_)|(first|refine Post.seq ?_|refine Post.blk ?_)|refine SW.nil ?_|refine SW.pure rfl rfl ?_|(show SW _ _ _ _ (⟨_,Op.binOp _ _ _ _ _,_,_,_,none⟩::_) _ _;refine SW.st (st_add rfl rfl (by omega) (by omega)) rfl ?_))
   exact Post.again (k+1) ⟨rfl,rfl,rfl,rfl,rfl,trivial⟩ (by omega) ⟨by omega,hx,hb,hSI.1,hSI.2,fun j x h=>(hkp j x h).grT hG rfl⟩
  ·obtain rfl:k=u.Active.n:=by omega
   repeat' (first|(first|refine CW.seq ?_|refine CW.region ?_|refine CW.condd_f rfl (by omega) ?_|refine CW.exit ?_)|(first|refine Post.seq ?_|refine Post.seq_exit ?_|refine Post.hit ?_|refine Post.again_exit ?_)|refine SW.nil ?_|refine SW.pure rfl rfl ?_)
   refine Post.cutn ?_
   rw [hK]
   refine ⟨⟨rfl,rfl,rfl,trivial⟩,hx,hb,?_,hkp⟩
   have e3:List.replicate u.Active.n (-1)++c.Active.drop u.Active.n=List.replicate c.Active.length (-1):=by
    rw [q1,List.drop_of_length_le (by omega),List.append_nil]
   rw [e3] at hS
   exact hS
 ·clear hw hx hb hS hI hC hAa
  subst hK
  rintro L' w1 ⟨hsub,hx,hb,hS,hkp⟩
  refine Post.sub hsub ?_
  have hC:=hS.get hic hi
  have hw:=Ext.refl w1
  have q5:=hC.slabs.len
  have q6:(idleC c).Slabs=c.Slabs:=rfl
  rw [q6] at q5
  repeat' (first|(first|refine CW.seq ?_|refine CW.region ?_|refine CW.block ?_)|(refine Post.seq ?_)|refine SW.nil ?_|refine SW.pure rfl rfl ?_|(show SW _ _ _ _ (⟨_,Op.fieldAddr _ _ _,_,_,_,none⟩::_) _ _;refine SW.st (st_field rfl) rfl ?_)|(show SW _ _ _ _ (⟨_,Op.nilCheck _,_,_,_,none⟩::_) _ _;refine SW.st (st_nilCheck rfl) rfl ?_)|(show SW _ _ _ _ (⟨_,Op.binOp _ _ _ _ _,_,_,_,none⟩::_) _ _;refine SW.st (st_sub rfl rfl (by omega) (by omega)) rfl ?_)|(show SW _ _ _ _ (⟨_,Op.call ⟨.builtin .len,_,_⟩,_,_,_,none⟩::_) _ _;refine SW.st (st_len rfl) rfl ?_)|(show SW _ _ _ _ (⟨_,Op.load _ _,_,_,_,none⟩::_) _ _;refine SW.st (st_load rfl (hS.row.sl.fld hin (j:=4) (u := .slice cs[i].Slabs.A cs[i].Slabs.n cs[i].Slabs.c) rfl)) rfl ?_))
  have h3:=h2.idle
  refine CW.loop (fun t:Nat×HRow×List CRow×Heap×KCache=>[(0,.pointer (some ⟨b,0,none⟩)),(1,.int .i64 (i:Int)),(4,.pointer (some ((r.Caches.A.getD default).add (i*6)))),(6,.int .i64 ((t.1:Int)-1))])
   (fun t w'=>t.1≤t.2.2.2.2.Slabs.length∧Ext wb w'∧Blk w' b 30 (encSys ⟨r.Words,t.2.1,r.Caches⟩)∧SX w' wb.heap.size ⟨r.Words,t.2.1,r.Caches⟩ (sysAt s i t.2.2.2) t.2.2.1∧HOk t.2.2.2.1∧COk t.2.2.2.2∧shrinkF c.Slabs.length (s.Heap,idleC c)=shrinkF t.1 t.2.2.2∧(∀ j x,j≠b→Blk w0 j 30 x→Blk w' j 30 x)) (fun t=>t.1) (c.Slabs.length,r.Heap,cs,s.Heap,idleC c)
   ?_ ⟨Nat.le_refl _,hx,hb,hS,h1,h3,rfl,fun j x _ h=>hkp j x h⟩ ?_
  ·exact ⟨rfl,rfl,rfl,congrArg (fun z=>some (Value.int .i64 z)) (show ((cs[i].Slabs.n:Nat) : Int)-1=((c.Slabs.length:Nat) : Int)-1 by omega),trivial⟩
  clear hw hx hb hS hC hkp hsub h1 h2 h3 q5
  rintro ⟨k,H,cs',h,c'⟩ w2 ⟨hk,hx,hb,hS,h1,h2,hfin,hkp⟩
  simp only at hk hb hS h1 h2 hfin ⊢
  have hw:=Ext.refl w2
  obtain ⟨e3,e4⟩:=hS.rows
  have hic':i<cs'.length:=by omega
  have hC:=hS.get hic' hi
  have q7:=hC.slabs.len
  have q8:=h2.small.slabs
  have q9:=hC.per
  have hAs:=hC.slabs.sl.base
  have hAc:=hS.row.sl.base
  simp only at hC q7 q8 q9 hAc
  cases k with
  | zero =>
   repeat' (first|(first|refine CW.seq ?_|refine CW.region ?_|refine CW.condd_f rfl (by omega) ?_|refine CW.exit ?_)|(first|refine Post.seq ?_|refine Post.seq_exit ?_|refine Post.hit ?_|refine Post.again_exit ?_)|refine SW.nil ?_|refine SW.pure rfl rfl ?_)
   exact Post.end0 rfl ⟨_,rfl,rfl,H,cs',hx,hb,by rw [hfin];exact hS,hkp⟩
  | succ k =>
   have ek:((k+1:Nat) : Int)-1=(k:Int):=by omega
   rw [ek]
   have hks:k<c'.Slabs.length:=by omega
   have hkn:k<cs'[i].Slabs.n:=by omega
   obtain ⟨y,hy⟩ : ∃ y,c'.Slabs[k]=y:=⟨_,rfl⟩
   have gF:=hC.slabs.sl.fld hkn (j:=1) (show (encSb (c'.Slabs[k]'(by omega)))[1]?=some (Value.int .i64 y.Free) by rw [hy];rfl)
   by_cases hfull:y.Free=c'.Per
   ·repeat' (first|(first|refine CW.seq ?_|refine CW.region ?_|refine CW.block ?_|refine CW.condd_t rfl (by omega) ?_|refine CW.skip ?_|(apply CW.quiet1 mixed;(· kernel_rfl);rotate_left;intro w1 hw1;replace hw:=Ext.trans hw hw1;replace hb:=hb.ext hw1;replace hS:=hS.ext hw1;clear hw1;rotate_right))|(refine Post.seq ?_)|refine SW.nil ?_|refine SW.pure rfl rfl ?_|(show SW _ _ _ _ (⟨_,Op.fieldAddr _ _ _,_,_,_,none⟩::_) _ _;refine SW.st (st_field rfl) rfl ?_)|(show SW _ _ _ _ (⟨_,Op.nilCheck _,_,_,_,none⟩::_) _ _;refine SW.st (st_nilCheck rfl) rfl ?_)|(show SW _ _ _ _ (⟨_,Op.indexAddr _ _ _,_,_,_,none⟩::_) _ _;refine SW.st (st_indexN rfl rfl (by assumption) (by omega)) rfl ?_)|(show SW _ _ _ _ (⟨_,Op.load _ _,_,_,_,none⟩::_) _ _;first|refine SW.st (st_load rfl (hS.row.sl.fld hin (j:=4) (u := .slice cs'[i].Slabs.A cs'[i].Slabs.n cs'[i].Slabs.c) rfl)) rfl ?_|refine SW.st (st_load rfl (hS.row.sl.fld hin (j:=2) (u := .int .i64 cs'[i].Per) rfl)) rfl ?_|refine SW.st (st_load rfl gF) rfl ?_)|exact SW.qnil rfl)
    all_goals first|(exfalso;omega)|skip
    refine SW.callX rfl rfl (discard_ans wb _ b ⟨r.Words,H,r.Caches⟩ s cs' i k (h,c') 0 (hx.trans hw) hb hbl hS hi hn hks h1 h2) fun v w3 hv => ?_
    obtain ⟨rfl,H',cs2,hh⟩:=hv
    rw [hy] at hh
    repeat' (first|(refine CW.region ?_)|(first|refine Post.seq ?_|refine Post.blk ?_)|refine SW.nil ?_|refine SW.pure rfl rfl ?_|(show SW _ _ _ _ (⟨_,Op.binOp _ _ _ _ _,_,_,_,none⟩::_) _ _;refine SW.st (st_sub rfl rfl (by omega) (by omega)) rfl ?_))
    refine Post.again (k,H',cs2,(freeV h 0 y.At).2,cutSlab c' k) ⟨rfl,rfl,rfl,rfl,trivial⟩ (by simp only;omega) ⟨?_,hh.ext,hh.blk,hh.sx,h1.free _ _,h2.cut _,?_,fun j x hj hB=>hh.kp j x hj ((hkp j x hj hB).ext hw)⟩
    ·simp only [cutSlab]
     rw [List.length_eraseIdx_of_lt hks]
     omega
    ·rw [hfin,shrinkF_cut hks (by rw [hy];exact hfull),hy]
   ·repeat' (first|(first|refine CW.seq ?_|refine CW.region ?_|refine CW.block ?_|refine CW.condd_t rfl (by omega) ?_|refine CW.condd_f rfl (by omega) ?_|refine CW.skip ?_|(apply CW.quiet1 mixed;(· kernel_rfl);rotate_left;intro w1 hw1;replace hw:=Ext.trans hw hw1;replace hb:=hb.ext hw1;replace hS:=hS.ext hw1;clear hw1;rotate_right))|(first|refine Post.seq ?_|refine Post.blk ?_)|refine SW.nil ?_|refine SW.pure rfl rfl ?_|(show SW _ _ _ _ (⟨_,Op.fieldAddr _ _ _,_,_,_,none⟩::_) _ _;refine SW.st (st_field rfl) rfl ?_)|(show SW _ _ _ _ (⟨_,Op.nilCheck _,_,_,_,none⟩::_) _ _;refine SW.st (st_nilCheck rfl) rfl ?_)|(show SW _ _ _ _ (⟨_,Op.binOp _ _ _ _ _,_,_,_,none⟩::_) _ _;refine SW.st (st_sub rfl rfl (by omega) (by omega)) rfl ?_)|(show SW _ _ _ _ (⟨_,Op.indexAddr _ _ _,_,_,_,none⟩::_) _ _;refine SW.st (st_indexN rfl rfl (by assumption) (by omega)) rfl ?_)|(show SW _ _ _ _ (⟨_,Op.load _ _,_,_,_,none⟩::_) _ _;first|refine SW.st (st_load rfl (hS.row.sl.fld hin (j:=4) (u := .slice cs'[i].Slabs.A cs'[i].Slabs.n cs'[i].Slabs.c) rfl)) rfl ?_|refine SW.st (st_load rfl (hS.row.sl.fld hin (j:=2) (u := .int .i64 cs'[i].Per) rfl)) rfl ?_|refine SW.st (st_load rfl gF) rfl ?_)|exact SW.qnil rfl)
    all_goals first|(exfalso;omega)|skip
    refine Post.again (k,H,cs',h,c') ⟨rfl,rfl,rfl,congrArg (fun z=>some (Value.int .i64 z)) (by omega),trivial⟩ (by simp only;omega) ⟨by simp only;omega,hx.trans hw,hb,hS,h1,h2,?_,fun j x hj hB=>(hkp j x hj hB).ext hw⟩
    rw [hfin,shrinkF_keep hks (by rw [hy];exact hfull)]
open Go.RowKit
def cutName (c:KCache) (k:Nat) : KCache:=⟨c.Names.eraseIdx k,c.Size,c.Per,c.Order,c.Slabs,c.Active⟩
def busyB (c:KCache) : Bool:=c.Slabs.any fun x=>decide (x.Free<c.Per)
inductive DesR (s:KSystem) (n:ByteArray) : KSystem×Int→Prop where
 | ask (h:askV s n 0≠0) : DesR s n (.zero,askV s n 0)
 | name {i:Nat} (h:askV s n 0=0) (e:idxOf (hasN n) s.Caches=i) (hi:i<s.Caches.length) (hl : 1<s.Caches[i].Names.length) : DesR s n (sysAt s i (s.Heap,cutName s.Caches[i] (posS s.Caches[i].Names n)),0)
 | busy {i:Nat} (h:askV s n 0=0) (e:idxOf (hasN n) s.Caches=i) (hi:i<s.Caches.length) (hl : ¬ 1<s.Caches[i].Names.length) (hb:busyB s.Caches[i]=true) : DesR s n (.zero,7)
 | cache {i:Nat} (h:askV s n 0=0) (e:idxOf (hasN n) s.Caches=i) (hi:i<s.Caches.length) (hl : ¬ 1<s.Caches[i].Names.length) (hb:busyB s.Caches[i]=false) : DesR s n (⟨s.Words,(shrinkF s.Caches[i].Slabs.length (s.Heap,idleC s.Caches[i])).1,s.Caches.eraseIdx i⟩,0)
theorem DesR.det {s:KSystem} {n:ByteArray} {u v:KSystem×Int} (x:DesR s n u) (y:DesR s n v) : u=v:=by
 cases x with
 | ask h=>cases y with
  | ask=>rfl
  | name h'|busy h'|cache h'=>exact absurd h' h
 | @name i h e hi hl=>cases y with
  | ask h'=>exact absurd h h'
  | @name j h' e' hj hl' =>
   obtain rfl:i=j:=by omega
   rfl
  | @busy j h' e' hj hl' =>
   obtain rfl:i=j:=by omega
   exact absurd hl hl'
  | @cache j h' e' hj hl' =>
   obtain rfl:i=j:=by omega
   exact absurd hl hl'
 | @busy i h e hi hl hb=>cases y with
  | ask h'=>exact absurd h h'
  | @name j h' e' hj hl' =>
   obtain rfl:i=j:=by omega
   exact absurd hl' hl
  | busy=>rfl
  | @cache j h' e' hj hl' hb' =>
   obtain rfl:i=j:=by omega
   rw [hb] at hb'
   cases hb'
 | @cache i h e hi hl hb=>cases y with
  | ask h'=>exact absurd h h'
  | @name j h' e' hj hl' =>
   obtain rfl:i=j:=by omega
   exact absurd hl' hl
  | @busy j h' e' hj hl' hb' =>
   obtain rfl:i=j:=by omega
   rw [hb] at hb'
   cases hb'
  | @cache j h' e' hj hl' hb' =>
   obtain rfl:i=j:=by omega
   rfl
theorem DesR.small {s:KSystem} {n:ByteArray} {u:KSystem×Int} (x:DesR s n u) (hf:s.fine) : u.1.small:=by
 cases x with
 | ask|busy=>exact KSystem.zero_small
 | @name i h e hi hl =>
  have hc:=hf.cok hi
  have h1:=hc.small.names
  have h2:=List.length_eraseIdx_le s.Caches[i].Names (posS s.Caches[i].Names n)
  exact small_sysAt hf.small _ hf.hok ⟨⟨by simp only [cutName];omega,hc.small.slabs,hc.small.active⟩,hc.at_⟩
 | @cache i h e hi hl hb =>
  have h1:=(shrinkF_ok s.Caches[i].Slabs.length (p:=(s.Heap,idleC s.Caches[i])) hf.hok (hf.cok hi).idle).1
  have h2:=hf.small.caches
  have h3:=List.length_eraseIdx_le s.Caches i
  exact ⟨hf.small.words,h1.small,by simp only;omega,fun c hc=>hf.small.each c (List.mem_of_mem_eraseIdx hc)⟩
theorem posS_mem {l:List ByteArray} {n:ByteArray} (hs:Sorted l) (hm:n∈l) : ∃ hk:posS l n<l.length,l[posS l n]=n ∧ ∀ (j:Nat) (hj:j<l.length),l[j]=n→j=posS l n:=by
 have key:∀ (j:Nat) (hj:j<l.length),l[j]=n→posS l n=j:=fun j hj e=>posS_uniq (by omega) (fun i hi hij=>by rw [← e];exact hs i j hi hj hij) (fun h=>by rw [e];exact lessS_irrefl n)
 obtain ⟨i,hi,e⟩:=List.getElem_of_mem hm
 have h:=key i hi e
 refine ⟨by omega,?_,fun j hj e=>(key j hj e).symm⟩
 simp only [h]
 exact e
theorem All2.erase2 {α β : Type} {R : α → β → Prop} {xs:List α} {ys:List β} (h:All2 R xs ys) (i:Nat) : All2 R (xs.eraseIdx i) (ys.eraseIdx i):=by
 refine ⟨by rw [List.length_eraseIdx,List.length_eraseIdx,h.len],fun j h1 h2 => ?_⟩
 have hl:=h.len
 rw [List.length_eraseIdx] at h1 h2
 rw [List.getElem_eraseIdx,List.getElem_eraseIdx]
 split
 ·exact h.get j _ _
 ·exact h.get (j+1) _ _
theorem sysAt_erase {s:KSystem} {i:Nat} {p:Heap×KCache}:(sysAt s i p).Caches.eraseIdx i=s.Caches.eraseIdx i:=by
 simp only [sysAt]
 exact List.eraseIdx_set_eq
open Go.RowKit
theorem AnyFuncSlab_ans (A:Option Addr) (n c:Nat) (l:List Slab) (w:World) (hl:Sl w 3 encSb A n l) (f:FuncId) (cap:List Value) [Body Tryz.prog f] (p:Slab→Bool) (arg:Slab→Value) (harg:∀ x,arg x=(if 3=1 then (encSb x)[0]?.getD undef else .agg (encSb x).toArray))
  (hf:∀ x∈l,∀ w',Ext w w'→Ans Tryz.prog f ([arg x]++cap) w' fun v _=>v = .bool (p x)) (hn:n≤9223372036854775807) :
  Ans Tryz.prog 31 [.slice A n c,.func (.func f) #[] cap.toArray] w fun v _=>v = .bool (l.any p):=by
 refine ans_of Tryz.func31 rfl Tryz.ntmps31 rfl ?_
 have hw:=Ext.refl w
 repeat' (first|(first|refine CW.seq ?_|refine CW.region ?_|refine CW.ret ?_)|(refine Post.seq ?_)|refine SW.nil ?_|refine SW.pure rfl rfl ?_|(show SW _ _ _ _ (⟨_,Op.call ⟨.value (.func _),_,_⟩,_,_,_,none⟩::_) _ _;(refine SW.call rfl rfl (IndexFuncSlab_ans _ _ _ _ _ (hl.ext hw) f cap p arg harg (fun x hx w1 h1=>hf x hx w1 (Ext.trans hw h1)) hn) ?_;intro v w1 hw1 hv;subst hv;replace hw:=Ext.trans hw hw1;clear hw1)))
 exact Post.ret1 rfl rfl ⟨_,rfl,hw,by rw [idxOf_ge]⟩
theorem busyF_ans (x:Slab) (b8:Nat) (ad:Addr) (per:Int) (w:World) (h8:Blk w b8 58 [.pointer (some ad)]) (hp:w.cell? (ad.add 2)=some (.int .i64 per)) :
  Ans Tryz.prog 32 ([.agg (encSb x).toArray]++[.pointer (some ⟨b8,0,none⟩)]) w fun v _=>v = .bool (decide (x.Free<per)):=by
 refine ans_of Tryz.func32 rfl Tryz.ntmps32 rfl ?_
 refine CW.seq (CW.region (SW.box rfl rfl fun b2 w1 hw hb2b hb2 => ?_))
 have h8c:=h8.cell (i:=0) (v := .pointer (some ad)) rfl
 rw [add_zero] at h8c
 repeat' (first|(first|refine CW.seq ?_|refine CW.ret ?_|(apply CW.quiet1 mixed;(· kernel_rfl);rotate_left;intro w1 hw1;replace hw:=Ext.trans hw hw1;replace hb2:=hb2.ext hw1;clear hw1;rotate_right))|(refine Post.seq ?_)|refine SW.nil ?_|refine SW.pure rfl rfl ?_|(show SW _ _ _ _ (⟨_,Op.fieldAddr _ _ _,_,_,_,none⟩::_) _ _;refine SW.st (st_field rfl) rfl ?_)|(show SW _ _ _ _ (⟨_,Op.nilCheck _,_,_,_,none⟩::_) _ _;refine SW.st (st_nilCheck rfl) rfl ?_)|(show SW _ _ _ _ (⟨_,Op.load _ _,_,_,_,none⟩::_) _ _;first|refine SW.st (st_load rfl (hb2.cell (i:=1) (v := .int .i64 x.Free) rfl)) rfl ?_|refine SW.st (st_loadx hw rfl h8c) rfl ?_|refine SW.st (st_loadx hw rfl hp) rfl ?_)|exact SW.qnil rfl)
 exact Post.ret1 rfl rfl ⟨_,rfl,hw,rfl⟩
set_option maxHeartbeats 8000000 in
theorem Destroy_ans (r:SRow) (s:KSystem) (n:ByteArray) (w:World) (hr:RdS w r s) (hf:s.fine) (hns:n.size≤140737488351232) :
  Ans Tryz.prog 12 [.agg (encSys r).toArray,.string n] w fun v w' => ∃ u,DesR s n u∧SysOut w.heap.size u v w':=by
 refine ans_of Tryz.func12 rfl Tryz.ntmps12 rfl ?_
 refine CW.seq (CW.region (SW.box rfl rfl fun b2 w1 hw hb2b hb2 => ?_))
 refine SW.alloc rfl fun b4 w3 hw3 hb4b hb4 => ?_
 have hb4w:w.heap.size≤b4:=Nat.le_trans hw.size hb4b
 have hne:b4≠b2:=by have:=hb2.lt;omega
 (replace hw:=Ext.trans hw hw3;replace hb2:=hb2.ext hw3)
 repeat' (first|(first|refine CW.seq ?_|refine CW.region ?_)|(refine Post.seq ?_)|refine SW.nil ?_|refine SW.pure rfl rfl ?_|(show SW _ _ _ _ (⟨_,Op.load _ _,_,_,_,none⟩::_) _ _;refine SW.st (st_loads rfl rfl ((fun _ _=>hb2.cell))) rfl ?_))
 refine SW.call rfl rfl (ask_ans r s n 0 _ (hr.ext hw) hf hns) fun v w4 hXX hv => ?_
 have hsz:=hw.size
 (replace hw:=Ext.trans hw hXX;replace hb2:=hb2.ext hXX;replace hb4:=hb4.ext hXX)
 rcases hv with ⟨he,rfl⟩|⟨he,q,cs,rfl,hO,hI⟩
 ·obtain ⟨e,hE⟩ : ∃ e,askV s n 0=e:=⟨_,rfl⟩
  have hP:=DesR.ask he
  rw [hE] at he hP
  rw [hE]
  repeat' (refine SW.pure rfl rfl ?_)
  refine SW.storeAgg hb2 rfl rfl rfl rfl (one_s .zero) fun w5 hb2' hg => ?_
  replace hb4:=hb4.grown hg (by simpa using hne)
  replace hw:=hw.own hb2b hg
  repeat' (first|(first|refine CW.seq ?_|refine CW.region ?_|refine CW.condn_t rfl (by omega) ?_)|(refine Post.seq ?_)|refine SW.nil ?_|refine SW.pure rfl rfl ?_|(show SW _ _ _ _ (⟨_,Op.build _ _,_,_,_,none⟩::_) _ _;refine SW.st (st_build rfl rfl) rfl ?_))
  all_goals first|(exfalso;omega)|skip
  refine SW.storeAgg hb4 rfl rfl rfl rfl (one_s .zero) fun w6 hR2 hg => ?_
  replace hw:=hw.own hb4w hg
  repeat' (first|(refine CW.ret ?_)|(first|refine Post.seq ?_|refine Post.seq_ret ?_)|refine SW.nil ?_|refine SW.pure rfl rfl ?_)
  exact Post.ret2c rfl rfl rfl hR2 rfl ⟨_,rfl,hw,_,hP,SysOut.zero e _ _⟩
 ·replace hO:=hO.low hsz
  replace hI:=hI.low hsz
  obtain ⟨hq,ht,_⟩:=askV_ok he
  obtain ⟨i,hi,hin0,_,hix⟩:=idxOf_first2 ht
  have hM:=sysB_iff.1 hq
  have hm:=hM.most
  rw [hix]
  obtain ⟨e1,e2⟩:=hO.len
  have hic:i<cs.length:=by omega
  have hin:i<q.Caches.n:=by omega
  have hAc:=hO.row.sl.base
  have e0:=sysAt_self hi
  have h2:=hf.cok hi
  have q0:=(hM.each i hi).names_len hM.heap (fun j h=>hM.each j h)
  have hsort:=(hM.each i hi).names.sorted
  have hmem:n∈s.Caches[i].Names:=hasS_iff.1 hin0
  obtain ⟨hpl,hpn,_⟩:=posS_mem hsort hmem
  obtain ⟨P,hPp⟩ : ∃ P,posS s.Caches[i].Names n=P:=⟨_,rfl⟩
  repeat' (refine SW.pure rfl rfl ?_)
  refine SW.storeAgg hb2 rfl rfl rfl rfl (one_s q) fun w5 hb2' hg => ?_
  have hG:=hb2.gr hg
  replace hb4:=hb4.grown hg (by simpa using hne)
  replace hw:=hw.own hb2b hg
  (replace hO:=hO.grT hG rfl;replace hI:=hI.grT hG rfl)
  replace hb2:=hb2'
  clear hb2' hG hg
  repeat' (first|(first|refine CW.seq ?_|refine CW.region ?_|refine CW.condn_f rfl (by omega) ?_|refine CW.skip ?_)|(refine Post.seq ?_)|refine SW.nil ?_|refine SW.pure rfl rfl ?_|(show SW _ _ _ _ (⟨_,Op.fieldAddr _ _ _,_,_,_,none⟩::_) _ _;refine SW.st (st_field rfl) rfl ?_)|(show SW _ _ _ _ (⟨_,Op.indexAddr _ _ _,_,_,_,none⟩::_) _ _;refine SW.st (st_indexN rfl rfl (by assumption) (by omega)) rfl ?_)|(show SW _ _ _ _ (⟨_,Op.load _ _,_,_,_,none⟩::_) _ _;refine SW.st (st_load rfl (hb2.cell (i:=6) (v := .slice q.Caches.A q.Caches.n q.Caches.c) rfl)) rfl ?_))
  refine SW.alloc rfl fun b8 w7 hw7 hb8b hb8 => ?_
  have hb8w:w.heap.size≤b8:=Nat.le_trans hw.size hb8b
  (replace hw:=Ext.trans hw hw7;replace hb2:=hb2.ext hw7;replace hb4:=hb4.ext hw7;replace hO:=hO.ext hw7;replace hI:=hI.ext hw7)
  refine SW.storeB (i:=0) hb8 rfl rfl rfl rfl fun w8 hb8' hg => ?_
  have hG:=hb8.gr hg
  replace hw:=hw.own hb8w hg
  (replace hb2:=hb2.grT hG rfl;replace hb4:=hb4.grT hG rfl;replace hO:=hO.grT hG rfl;replace hI:=hI.grT hG rfl)
  replace hb8:Blk w8 b8 58 [.pointer (some ((q.Caches.A.getD default).add (i*6)))]:=hb8'
  clear hb8' hG hg
  have h8c:∀ w',Blk w' b8 58 [.pointer (some ((q.Caches.A.getD default).add (i*6)))]→w'.cell? ⟨b8,0,none⟩=some (.pointer (some ((q.Caches.A.getD default).add (i*6)))):=fun w' h=>by
   have:=h.cell (i:=0) (v := .pointer (some ((q.Caches.A.getD default).add (i*6)))) rfl
   rwa [add_zero] at this
  have hC:=hO.each.get i hic hi
  have q1:=hC.names.len
  have q2:=hC.slabs.len
  have q3:=h2.small.slabs
  have hper:=hC.per
  by_cases hl : 1<s.Caches[i].Names.length
  ·have hD:=DesR.name he hix hi hl
   rw [hPp] at hpl hD
   have hpn':P<cs[i].Names.n:=by omega
   repeat' (first|(first|refine CW.seq ?_|refine CW.region ?_|refine CW.condd_t rfl (by omega) ?_)|(refine Post.seq ?_)|refine SW.nil ?_|refine SW.pure rfl rfl ?_|(show SW _ _ _ _ (⟨_,Op.fieldAddr _ _ _,_,_,_,none⟩::_) _ _;refine SW.st (st_field rfl) rfl ?_)|(show SW _ _ _ _ (⟨_,Op.nilCheck _,_,_,_,none⟩::_) _ _;refine SW.st (st_nilCheck rfl) rfl ?_)|(show SW _ _ _ _ (⟨_,Op.call ⟨.builtin .len,_,_⟩,_,_,_,none⟩::_) _ _;refine SW.st (st_len rfl) rfl ?_)|(show SW _ _ _ _ (⟨_,Op.load _ _,_,_,_,none⟩::_) _ _;first|refine SW.st (st_load rfl (h8c _ hb8)) rfl ?_|refine SW.st (st_load rfl (hO.row.sl.fld hin (j:=0) (u := .slice cs[i].Names.A cs[i].Names.n cs[i].Names.c) rfl)) rfl ?_))
   all_goals first|(exfalso;omega)|skip
   refine SW.call rfl rfl (BinStr_ans _ _ _ _ n _ hC.names.sl hsort (by omega)) fun v w9 hXX hv => ?_
   obtain ⟨bb,rfl⟩:=hv
   rw [hPp]
   (replace hw:=Ext.trans hw hXX;replace hb2:=hb2.ext hXX;replace hb4:=hb4.ext hXX;replace hb8:=hb8.ext hXX;replace hO:=hO.ext hXX)
   clear hC
   rw [← e0] at hO
   repeat' (first|(refine CW.seq ?_)|(refine Post.seq ?_)|refine SW.nil ?_|refine SW.pure rfl rfl ?_)
   refine CW.anyF 8 11 (fun w2=>Blk w2 b8 58 [.pointer (some ((q.Caches.A.getD default).add (i*6)))]) mixed (by kernel_rfl) fun w1 hw1 hRB => ?_
   replace hw:=Ext.trans hw hw1;replace hb2:=hb2.ext hw1;replace hb4:=hb4.ext hw1;replace hb8:=hb8.ext hw1;replace hO:=hO.ext hw1;clear hw1
   refine SF.take2 0 [] hRB rfl (by kernel_rfl) (by kernel_rfl) (by kernel_rfl) (st_load rfl (h8c _ hb8)) (fun w2 hS=>st_load rfl (h8c _ hS)) rfl ?_
   refine SF.take 1 [4,3,2] [] hRB rfl (by kernel_rfl) (by kernel_rfl) (by kernel_rfl) ?_
   repeat ((show SW _ _ _ _ (⟨_,Op.load _ _,_,_,_,none⟩::_) _ _;refine SW.st (st_load rfl (h8c _ hb8)) rfl ?_))
   refine SW.tknil ?_
   refine SF.take 2 [4,3] [] hRB rfl (by kernel_rfl) (by kernel_rfl) (by kernel_rfl) ?_
   repeat ((show SW _ _ _ _ (⟨_,Op.nilCheck _,_,_,_,none⟩::_) _ _;refine SW.st (st_nilCheck rfl) rfl ?_))
   refine SW.tknil ?_
   refine SF.take 3 [4] [] hRB rfl (by kernel_rfl) (by kernel_rfl) (by kernel_rfl) ?_
   repeat ((show SW _ _ _ _ (⟨_,Op.fieldAddr _ _ _,_,_,_,none⟩::_) _ _;refine SW.st (st_field rfl) rfl ?_))
   refine SW.tknil ?_
   refine SF.take 4 [] [] hRB rfl (by kernel_rfl) (by kernel_rfl) (by kernel_rfl) ?_
   repeat ((show SW _ _ _ _ (⟨_,Op.load _ _,_,_,_,none⟩::_) _ _;refine SW.st (st_load rfl (hO.row.sl.fld hin (j:=0) (u := .slice cs[i].Names.A cs[i].Names.n cs[i].Names.c) rfl)) rfl ?_))
   refine SW.tknil ?_
   refine SF.take 5 [] [] hRB rfl (by kernel_rfl) (by kernel_rfl) (by kernel_rfl) ?_
   repeat (refine SW.pure rfl rfl ?_)
   refine SW.tknil ?_
   refine SF.take 6 [7] [] hRB rfl (by kernel_rfl) (by kernel_rfl) (by kernel_rfl) ?_
   repeat (refine SW.pure rfl rfl ?_)
   refine SW.tknil ?_
   refine SF.take 7 [] [] hRB rfl (by kernel_rfl) (by kernel_rfl) (by kernel_rfl) ?_
   repeat ((show SW _ _ _ _ (⟨_,Op.binOp _ _ _ _ _,_,_,_,none⟩::_) _ _;refine SW.st (st_add rfl rfl (by omega) (by omega)) rfl ?_))
   refine SW.tknil ?_
   refine SF.turn rfl (by kernel_rfl) rfl ?_
   have hC:=hO.get hic hi
   simp only at hC
   refine SW.callX rfl rfl (DeleteByteArray_ans _ _ _ w.heap.size _ _ hC.names P hpn' (by omega) hw.size) fun v w10 hv => ?_
   obtain ⟨rfl,hO9,hg9⟩:=hv
   have hG9:=hC.names.gr hg9
   have hS9:=hO.namesAt hic hi hO9 hg9
   replace hw:=ext_grown hw hg9 (Nat.le_refl _) hC.names.row_ge
   (replace hb2:=hb2.grT hG9 rfl;replace hb4:=hb4.grT hG9 rfl)
   have hS:=hb8.grT hG9 rfl
   refine SW.nil (Post.sg hS ?_)
   refine SG.one 9 rfl (by kernel_rfl) rfl ?_
   repeat ((show SW _ _ _ _ (⟨_,Op.nilCheck _,_,_,_,none⟩::_) _ _;refine SW.st (st_nilCheck rfl) rfl ?_))
   refine SW.nil (Post.sg hS ?_)
   refine SG.one 10 rfl (by kernel_rfl) rfl ?_
   repeat ((show SW _ _ _ _ (⟨_,Op.fieldAddr _ _ _,_,_,_,none⟩::_) _ _;refine SW.st (st_field rfl) rfl ?_))
   refine SW.nil (Post.sg hS ?_)
   refine SG.last rfl (by kernel_rfl) (by kernel_rfl) ?_
   refine SW.storeO i 0 ⟨⟨cs[i].Names.A,cs[i].Names.n-1,cs[i].Names.c⟩,cs[i].Size,cs[i].Per,cs[i].Order,cs[i].Slabs,cs[i].Active⟩ hS9.row rfl rfl rfl hin (by decide) rfl rfl fun w11 hrow' hg7 => ?_
   have hG7:=hS9.row.gr hg7
   have hS10:=hS9.rowSet hrow' hg7
   replace hw:=ext_grown hw hg7 (Nat.le_refl _) hS9.row.row_ge
   (replace hb2:=hb2.grT hG7 rfl;replace hb4:=hb4.grT hG7 rfl)
   repeat' (first|(first|refine CW.seq ?_|refine CW.region ?_)|(first|refine Post.seq ?_|refine Post.np ?_)|refine SW.nil ?_|(show SW _ _ _ _ (⟨_,Op.load _ _,_,_,_,none⟩::_) _ _;refine SW.st (st_loads rfl rfl ((fun _ _=>hb2.cell))) rfl ?_))
   refine SW.storeAgg hb4 rfl rfl rfl rfl (one_s q) fun w12 hR2 hg => ?_
   have hG:=hb4.gr hg
   replace hw:=hw.own hb4w hg
   replace hS10:=hS10.grT hG rfl
   repeat' (first|(refine CW.ret ?_)|(first|refine Post.seq ?_|refine Post.seq_ret ?_)|refine SW.nil ?_|refine SW.pure rfl rfl ?_)
   exact Post.ret2c rfl rfl rfl hR2 rfl ⟨_,rfl,hw,_,hD,⟨_,rfl,hS10.ownS⟩⟩
  ·repeat' (first|(first|refine CW.seq ?_|refine CW.region ?_|refine CW.condd_f rfl (by omega) ?_|refine CW.skip ?_)|(refine Post.seq ?_)|refine SW.nil ?_|refine SW.pure rfl rfl ?_|(show SW _ _ _ _ (⟨_,Op.fieldAddr _ _ _,_,_,_,none⟩::_) _ _;refine SW.st (st_field rfl) rfl ?_)|(show SW _ _ _ _ (⟨_,Op.nilCheck _,_,_,_,none⟩::_) _ _;refine SW.st (st_nilCheck rfl) rfl ?_)|(show SW _ _ _ _ (⟨_,Op.call ⟨.builtin .len,_,_⟩,_,_,_,none⟩::_) _ _;refine SW.st (st_len rfl) rfl ?_)|(show SW _ _ _ _ (⟨_,Op.load _ _,_,_,_,none⟩::_) _ _;first|refine SW.st (st_load rfl (h8c _ hb8)) rfl ?_|refine SW.st (st_load rfl (hO.row.sl.fld hin (j:=0) (u := .slice cs[i].Names.A cs[i].Names.n cs[i].Names.c) rfl)) rfl ?_|refine SW.st (st_load rfl (hO.row.sl.fld hin (j:=4) (u := .slice cs[i].Slabs.A cs[i].Slabs.n cs[i].Slabs.c) rfl)) rfl ?_)|(refine SW.st (st_func (vs:=[.pointer (some ⟨b8,0,none⟩)]) rfl) rfl ?_))
   all_goals first|(exfalso;omega)|skip
   have gP:=hO.row.sl.fld hin (j:=2) (u := .int .i64 cs[i].Per) rfl
   refine SW.call rfl rfl (AnyFuncSlab_ans _ _ _ s.Caches[i].Slabs _ hC.slabs.sl _ [.pointer (some ⟨b8,0,none⟩)] (fun x=>decide (x.Free<s.Caches[i].Per)) (fun x => .agg (encSb x).toArray) (fun x=>rfl) (fun x hx w1 hx1=>by
    have:=busyF_ans x b8 _ cs[i].Per w1 (hb8.ext hx1) (hx1.cell gP)
    rwa [hper] at this) (by omega)) fun v w9 hXX hv => ?_
   subst hv
   have hbz:(s.Caches[i].Slabs.any fun x=>decide (x.Free<s.Caches[i].Per))=busyB s.Caches[i]:=rfl
   rw [hbz]
   (replace hw:=Ext.trans hw hXX;replace hb2:=hb2.ext hXX;replace hb4:=hb4.ext hXX;replace hO:=hO.ext hXX;replace hI:=hI.ext hXX)
   clear hC gP
   cases hb:busyB s.Caches[i]
   ·have hD:=DesR.cache he hix hi hl hb
    repeat' (first|(first|refine CW.seq ?_|refine CW.region ?_|refine CW.condfr rfl (by with_reducible rfl) ?_|refine CW.skip ?_)|(refine Post.seq ?_)|refine SW.nil ?_|refine SW.pure rfl rfl ?_)
    refine SW.callX rfl rfl (shrink_ans w _ b2 q s cs i hf hw hb2 hb2b hO hI hi (by omega)) fun v w10 hv => ?_
    obtain ⟨rfl,H,cs',hh⟩:=hv
    replace hw:=hh.ext
    replace hb4:=hh.kp _ _ hne hb4
    have hb:=hh.blk
    have hS:=hh.sx
    have hrow:Own w10 w.heap.size 44 6 encC q.Caches.A q.Caches.n q.Caches.c cs':=hS.row
    have hAc2:=hrow.sl.base
    repeat' (first|(first|refine CW.seq ?_|refine CW.region ?_)|(refine Post.seq ?_)|refine SW.nil ?_|refine SW.pure rfl rfl ?_|(show SW _ _ _ _ (⟨_,Op.fieldAddr _ _ _,_,_,_,none⟩::_) _ _;refine SW.st (st_field rfl) rfl ?_)|(show SW _ _ _ _ (⟨_,Op.binOp _ _ _ _ _,_,_,_,none⟩::_) _ _;refine SW.st (st_add rfl rfl (by omega) (by omega)) rfl ?_)|(show SW _ _ _ _ (⟨_,Op.load _ _,_,_,_,none⟩::_) _ _;refine SW.st (st_load rfl (hb.cell (i:=6) (v := .slice q.Caches.A q.Caches.n q.Caches.c) rfl)) rfl ?_))
    refine SW.callX rfl rfl (DeleteCRow_ans _ _ _ w.heap.size _ _ hrow i hin (by omega) hw.size) fun v w11 hv => ?_
    obtain ⟨rfl,hO11,hg11⟩:=hv
    have hG11:=hrow.gr hg11
    replace hw:=ext_grown hw hg11 (Nat.le_refl _) hrow.row_ge
    (replace hb:=hb.grT hG11 rfl;replace hb4:=hb4.grT hG11 rfl)
    have hX:=hS.words.grT hG11 rfl
    have hY:=hS.heap.grT hG11 rfl
    have hE:=(hS.each.erase2 i).mono fun _ _ h=>h.grT hG11 rfl
    rw [sysAt_erase] at hE
    repeat' ((show SW _ _ _ _ (⟨_,Op.fieldAddr _ _ _,_,_,_,none⟩::_) _ _;refine SW.st (st_field rfl) rfl ?_))
    refine SW.storeB (i:=6) hb rfl rfl rfl rfl fun w12 hb' hg => ?_
    have hG:=hb.gr hg
    replace hb4:=hb4.grown hg (by simpa using hne)
    replace hw:=hw.own hb2b hg
    (replace hX:=hX.grT hG rfl;replace hY:=hY.grT hG rfl;replace hO11:=hO11.grT hG rfl)
    replace hE:=hE.mono fun _ _ h=>h.grT hG rfl
    repeat' (first|(first|refine CW.seq ?_|refine CW.region ?_)|(refine Post.seq ?_)|refine SW.nil ?_|(show SW _ _ _ _ (⟨_,Op.load _ _,_,_,_,none⟩::_) _ _;refine SW.st (st_loads rfl rfl ((fun _ _=>hb'.cell))) rfl ?_))
    refine SW.storeAgg hb4 rfl rfl rfl rfl (one_s ⟨q.Words,H,⟨q.Caches.A,q.Caches.n-1,q.Caches.c⟩⟩) fun w13 hR2 hg => ?_
    have hG:=hb4.gr hg
    replace hw:=hw.own hb4w hg
    (replace hX:=hX.grT hG rfl;replace hY:=hY.grT hG rfl;replace hO11:=hO11.grT hG rfl)
    replace hE:=hE.mono fun _ _ h=>h.grT hG rfl
    repeat' (first|(refine CW.ret ?_)|(refine Post.seq ?_)|refine SW.nil ?_|refine SW.pure rfl rfl ?_)
    exact Post.ret2c rfl rfl rfl hR2 rfl ⟨_,rfl,hw,_,hD,⟨⟨q.Words,H,⟨q.Caches.A,q.Caches.n-1,q.Caches.c⟩⟩,rfl,hX,hY,_,hO11,hE⟩⟩
   ·have hD:=DesR.busy he hix hi hl hb
    repeat' (first|(first|refine CW.seq ?_|refine CW.region ?_|refine CW.condtr rfl (by with_reducible rfl) ?_)|(refine Post.seq ?_)|refine SW.nil ?_|(show SW _ _ _ _ (⟨_,Op.build _ _,_,_,_,none⟩::_) _ _;refine SW.st (st_build rfl rfl) rfl ?_))
    refine SW.storeAgg hb4 rfl rfl rfl rfl (one_s .zero) fun w10 hR2 hg => ?_
    replace hw:=hw.own hb4w hg
    repeat' (first|(refine CW.ret ?_)|(first|refine Post.seq ?_|refine Post.seq_ret ?_)|refine SW.nil ?_|refine SW.pure rfl rfl ?_)
    exact Post.ret2c rfl rfl rfl hR2 rfl ⟨_,rfl,hw,_,hD,SysOut.zero 7 _ _⟩
end Go.Proofs.YtigikedbffjeiaaGreat
