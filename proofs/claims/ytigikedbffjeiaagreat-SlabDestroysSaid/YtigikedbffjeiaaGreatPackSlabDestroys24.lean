/-
  Texts of the claim SlabDestroys, part 24: what its theorem leans on.
-/
import Derived.Test.YtigikedbffjeiaaGreatPackSlabDestroys23
import Derived.Test.YtigikedbffjeiaaGreatPackSlabDestroys22
import Derived.Test.YtigikedbffjeiaaGreatPackSlabDestroys20
import Derived.Test.YtigikedbffjeiaaGreatPackSlabDestroys4
import Derived.Test.YtigikedbffjeiaaGreatPackSlabDestroys18
import Derived.Test.YtigikedbffjeiaaGreatPackSlabDestroys13
set_option linter.unusedVariables false
set_option linter.unusedSimpArgs false
namespace Go.Proofs.YtigikedbffjeiaaGreat
open Go.RowKit
def ordI (l:List Block) (a:Int) (i:Nat) : Int:=if (foundA l a && decide (lbOf l a<i))=true then (l.getD (lbOf l a) ⟨0,0,0⟩).Order else -1
theorem ordI_zero (l:List Block) (a:Int) : ordI l a 0 = -1:=by simp [ordI]
theorem ordI_hit {l:List Block} (hu:l.Pairwise fun x y=>x.At<y.At) {a:Int} {i:Nat} (hi:i<l.length) (h:l[i].At=a) : ordI l a (i+1)=l[i].Order:=by
 obtain ⟨e1,e2⟩:=found_uniq hu hi h
 have:l.getD i ⟨0,0,0⟩=l[i]:=by rw [List.getD_eq_getElem?_getD,List.getElem?_eq_getElem hi];rfl
 rw [ordI,e1,e2,this,decide_eq_true (Nat.lt_succ_self i)]
 rfl
theorem ordI_miss {l:List Block} {a:Int} {i:Nat} (hi:i<l.length) (h:l[i].At≠a) : ordI l a (i+1)=ordI l a i:=by
 have key:(foundA l a && decide (lbOf l a<i+1))=(foundA l a && decide (lbOf l a<i)):=by
  cases e:foundA l a with
  | false=>rfl
  | true =>
   obtain ⟨hk,hka⟩:=found_at e
   have hne:lbOf l a≠i:=fun e=>h (by simp only [← e];exact hka)
   simp only [Bool.true_and]
   by_cases h1:lbOf l a<i
   ·rw [decide_eq_true h1,decide_eq_true (by omega)]
   ·rw [decide_eq_false h1,decide_eq_false (by omega)]
 unfold ordI
 rw [key]
theorem ordI_all {l:List Block} {a:Int} {k:Nat} (h:foundA l a=true) (hk:k<l.length) (e:lbOf l a=k) : ordI l a l.length=l[k].Order:=by
 have:l.getD k ⟨0,0,0⟩=l[k]:=by rw [List.getD_eq_getElem?_getD,List.getElem?_eq_getElem hk];rfl
 unfold ordI
 rw [h,e,decide_eq_true hk,this]
 rfl
theorem ordI_none {l:List Block} {a:Int} (h:foundA l a=false) (i:Nat) : ordI l a i = -1:=by simp [ordI,h]
set_option maxHeartbeats 16000000 in
theorem HeapFree_ans (r:HRow) (h:Heap) (cpu a:Int) (w:World) (hr:RdH w r h) (hs:h.small) (hzn:∀ z∈h.Zones,big64 z) (ha : -9223372036854775808≤a∧a≤9223372036854775807) :
  Ans Tryz.prog 50 [.agg (encH r).toArray,.int .i64 cpu,.int .i64 a] w (HeapOut w.heap.size (freeV h cpu a)):=by
 refine ans_of Tryz.func50 rfl Tryz.ntmps50 rfl ?_
 refine CW.seq (CW.region (SW.box rfl rfl fun b3 w1 hw hb3b hb3 => ?_))
 refine SW.alloc rfl fun b6 w2 hw2 hb6b hb6 => ?_
 have hb6w:w.heap.size≤b6:=Nat.le_trans hw.size hb6b
 (replace hw:=Ext.trans hw hw2;replace hb3:=hb3.ext hw2)
 have eC:=hr.cpus
 obtain ⟨q,hq⟩ : ∃ q,heapB h=q:=⟨_,rfl⟩
 have c1:∀ w',Ext w w'→Ans Tryz.prog 66 [.agg (encH r).toArray] w' fun v _=>v = .bool q:=fun w' hx=>by
  have:=HMay_ans r h w' (hr.ext hx) hs hzn
  rwa [hq] at this
 cases q
 ·rw [freeV_8 hq]
  repeat' (first|(first|refine CW.seq ?_|refine CW.region ?_|refine CW.condt rfl ?_)|(refine Post.seq ?_)|refine SW.nil ?_|refine SW.pure rfl rfl ?_|(show SW _ _ _ _ (⟨_,Op.build _ _,_,_,_,none⟩::_) _ _;refine SW.st (st_build rfl rfl) rfl ?_)|(show SW _ _ _ _ (⟨_,Op.load _ _,_,_,_,none⟩::_) _ _;refine SW.st (st_loads rfl rfl ((fun _ _=>hb3.cell))) rfl ?_)|(show SW _ _ _ _ (⟨_,Op.call ⟨.value (.func _),_,_⟩,_,_,_,none⟩::_) _ _;(refine SW.call rfl rfl (c1 _ hw) ?_;intro v w1 hw1 hv;subst hv;replace hw:=Ext.trans hw hw1;replace hb3:=hb3.ext hw1;replace hb6:=hb6.ext hw1;clear hw1)))
  refine SW.storeAgg hb6 rfl rfl rfl rfl (one_h .zero) fun w5 hR2 hg => ?_
  replace hw:=hw.own hb6w hg
  repeat' (first|(refine CW.ret ?_)|(first|refine Post.seq ?_|refine Post.seq_ret ?_)|refine SW.nil ?_|refine SW.pure rfl rfl ?_)
  exact Post.ret2c rfl rfl rfl hR2 rfl ⟨_,rfl,hw,HeapOut.zero 8 _ _⟩
 ·have hm:=heapB_iff.1 hq
  obtain ⟨z0,z1,f⟩:=fheap_of hm
  have hcp:=f.cpus
  by_cases hc : 0≤cpu∧cpu<h.Cpus
  ·repeat' (first|(first|refine CW.seq ?_|refine CW.region ?_|refine CW.block ?_|refine CW.condn_f rfl (by omega) ?_|refine CW.condf rfl ?_|refine CW.skip ?_)|(refine Post.seq ?_)|refine SW.nil ?_|refine SW.pure rfl rfl ?_|(show SW _ _ _ _ (⟨_,Op.fieldAddr _ _ _,_,_,_,none⟩::_) _ _;refine SW.st (st_field rfl) rfl ?_)|(show SW _ _ _ _ (⟨_,Op.binOp _ _ _ _ _,_,_,_,none⟩::_) _ _;refine SW.st (st_sub rfl rfl (by omega) (by omega)) rfl ?_)|(show SW _ _ _ _ (⟨_,Op.load _ _,_,_,_,none⟩::_) _ _;first|refine SW.st (st_loads rfl rfl ((fun _ _=>hb3.cell))) rfl ?_|refine SW.st (st_load rfl (hb3.cell (i:=2) (v := .int .i64 r.Cpus) rfl)) rfl ?_)|(show SW _ _ _ _ (⟨_,Op.call ⟨.value (.func _),_,_⟩,_,_,_,none⟩::_) _ _;first|(refine SW.call rfl rfl (c1 _ hw) ?_;intro v w1 hw1 hv;subst hv;replace hw:=Ext.trans hw hw1;replace hb3:=hb3.ext hw1;replace hb6:=hb6.ext hw1;clear hw1)|(refine SW.call rfl rfl (In_ans _ _ _ _) ?_;intro v w1 hw1 hv;subst hv;replace hw:=Ext.trans hw hw1;replace hb3:=hb3.ext hw1;replace hb6:=hb6.ext hw1;clear hw1)))
   all_goals first|(exfalso;omega)|skip
   clear c1
   have hvl:=hr.live.len
   have s2:=hs.live
   have hlt:=live_lt f.live
   have hAv:=hr.live.base
   refine CW.loop (fun i:Nat=>[(1,.int .i64 cpu),(2,.int .i64 a),(3,.pointer (some ⟨b3,0,none⟩)),(6,.pointer (some ⟨b6,0,none⟩)),(8,.int .i64 (ordI h.Live a i)),(9,.int .i64 (i:Int))])
    (fun i w'=>i≤r.Live.n∧Ext w w'∧Blk w' b3 27 (encH r)∧Blk w' b6 27 (encH .zero)) (fun i=>r.Live.n-i) 0
    ⟨rfl,rfl,rfl,rfl,by rw [ordI_zero];rfl,rfl,trivial⟩ ⟨by omega,hw,hb3,hb6⟩ ?_
   clear hw hb3 hb6
   rintro i w' ⟨hi,hw,hb3,hb6⟩
   by_cases hin:i<r.Live.n
   ·have hil:i<h.Live.length:=by omega
    have g0:=hr.live.fld hin (j:=0) (u := .int .i64 h.Live[i].At) rfl
    have g1:=hr.live.fld hin (j:=1) (u := .int .i64 h.Live[i].Order) rfl
    by_cases hat:h.Live[i].At=a
    ·have eo:=ordI_hit hlt hil hat
     repeat' (first|(first|refine CW.seq ?_|refine CW.region ?_|refine CW.block ?_|refine CW.condd_t rfl (by omega) ?_|refine CW.skip ?_)|(first|refine Post.seq ?_|refine Post.blk ?_)|refine SW.nil ?_|refine SW.pure rfl rfl ?_|(show SW _ _ _ _ (⟨_,Op.fieldAddr _ _ _,_,_,_,none⟩::_) _ _;refine SW.st (st_field rfl) rfl ?_)|(show SW _ _ _ _ (⟨_,Op.binOp _ _ _ _ _,_,_,_,none⟩::_) _ _;refine SW.st (st_add rfl rfl (by omega) (by omega)) rfl ?_)|(show SW _ _ _ _ (⟨_,Op.indexAddr _ _ _,_,_,_,none⟩::_) _ _;refine SW.st (st_indexN rfl rfl (by assumption) (by omega)) rfl ?_)|(show SW _ _ _ _ (⟨_,Op.call ⟨.builtin .len,_,_⟩,_,_,_,none⟩::_) _ _;refine SW.st (st_len rfl) rfl ?_)|(show SW _ _ _ _ (⟨_,Op.load _ _,_,_,_,none⟩::_) _ _;first|refine SW.st (st_load rfl (hb3.cell (i:=4) (v := .slice r.Live.A r.Live.n r.Live.c) rfl)) rfl ?_|refine SW.st (st_loadx hw rfl g0) rfl ?_|refine SW.st (st_loadx hw rfl g1) rfl ?_))
     exact Post.again (i+1) ⟨rfl,rfl,rfl,rfl,by rw [eo];rfl,rfl,trivial⟩ (by omega) ⟨by omega,hw,hb3,hb6⟩
    ·have eo:=ordI_miss hil hat
     repeat' (first|(first|refine CW.seq ?_|refine CW.region ?_|refine CW.block ?_|refine CW.condd_t rfl (by omega) ?_|refine CW.condd_f rfl (by omega) ?_|refine CW.skip ?_)|(first|refine Post.seq ?_|refine Post.blk ?_)|refine SW.nil ?_|refine SW.pure rfl rfl ?_|(show SW _ _ _ _ (⟨_,Op.fieldAddr _ _ _,_,_,_,none⟩::_) _ _;refine SW.st (st_field rfl) rfl ?_)|(show SW _ _ _ _ (⟨_,Op.binOp _ _ _ _ _,_,_,_,none⟩::_) _ _;refine SW.st (st_add rfl rfl (by omega) (by omega)) rfl ?_)|(show SW _ _ _ _ (⟨_,Op.indexAddr _ _ _,_,_,_,none⟩::_) _ _;refine SW.st (st_indexN rfl rfl (by assumption) (by omega)) rfl ?_)|(show SW _ _ _ _ (⟨_,Op.call ⟨.builtin .len,_,_⟩,_,_,_,none⟩::_) _ _;refine SW.st (st_len rfl) rfl ?_)|(show SW _ _ _ _ (⟨_,Op.load _ _,_,_,_,none⟩::_) _ _;first|refine SW.st (st_load rfl (hb3.cell (i:=4) (v := .slice r.Live.A r.Live.n r.Live.c) rfl)) rfl ?_|refine SW.st (st_loadx hw rfl g0) rfl ?_))
     exact Post.again (i+1) ⟨rfl,rfl,rfl,rfl,by rw [eo];rfl,rfl,trivial⟩ (by omega) ⟨by omega,hw,hb3,hb6⟩
   ·have ei:i=h.Live.length:=by omega
    subst ei
    cases hf:foundA h.Live a
    ·rw [freeV_4 hq hc hf,ordI_none hf]
     repeat' (first|(first|refine CW.seq ?_|refine CW.region ?_|refine CW.condd_t rfl (by omega) ?_|refine CW.condd_f rfl (by omega) ?_|refine CW.exit ?_)|(first|refine Post.seq ?_|refine Post.seq_exit ?_|refine Post.hit ?_|refine Post.again_exit ?_)|refine SW.nil ?_|refine SW.pure rfl rfl ?_|(show SW _ _ _ _ (⟨_,Op.fieldAddr _ _ _,_,_,_,none⟩::_) _ _;refine SW.st (st_field rfl) rfl ?_)|(show SW _ _ _ _ (⟨_,Op.build _ _,_,_,_,none⟩::_) _ _;refine SW.st (st_build rfl rfl) rfl ?_)|(show SW _ _ _ _ (⟨_,Op.call ⟨.builtin .len,_,_⟩,_,_,_,none⟩::_) _ _;refine SW.st (st_len rfl) rfl ?_)|(show SW _ _ _ _ (⟨_,Op.load _ _,_,_,_,none⟩::_) _ _;refine SW.st (st_load rfl (hb3.cell (i:=4) (v := .slice r.Live.A r.Live.n r.Live.c) rfl)) rfl ?_))
     refine SW.storeAgg hb6 rfl rfl rfl rfl (one_h .zero) fun w5 hR2 hg => ?_
     replace hw:=hw.own hb6w hg
     repeat' (first|(refine CW.ret ?_)|(first|refine Post.seq ?_|refine Post.seq_ret ?_)|refine SW.nil ?_|refine SW.pure rfl rfl ?_)
     exact Post.ret2c rfl rfl rfl hR2 rfl ⟨_,rfl,hw,HeapOut.zero 4 _ _⟩
    ·rw [freeV_0 hq hc hf]
     obtain ⟨hk,hka⟩:=found_at hf
     obtain ⟨k,ek⟩ : ∃ k,lbOf h.Live a=k:=⟨_,rfl⟩
     simp only [ek] at hk hka
     have hlk:=f.live.each k hk
     have hNx:=f.next hk
     have hord:=hlk.1
     rw [ordI_all hf hk ek]
     repeat' (first|(first|refine CW.seq ?_|refine CW.region ?_|refine CW.condd_f rfl (by omega) ?_|refine CW.skip ?_|refine CW.exit ?_)|(first|refine Post.seq ?_|refine Post.seq_exit ?_|refine Post.hit ?_|refine Post.again_exit ?_)|refine SW.nil ?_|refine SW.pure rfl rfl ?_|(show SW _ _ _ _ (⟨_,Op.fieldAddr _ _ _,_,_,_,none⟩::_) _ _;refine SW.st (st_field rfl) rfl ?_)|(show SW _ _ _ _ (⟨_,Op.call ⟨.builtin .len,_,_⟩,_,_,_,none⟩::_) _ _;refine SW.st (st_len rfl) rfl ?_)|(show SW _ _ _ _ (⟨_,Op.load _ _,_,_,_,none⟩::_) _ _;first|refine SW.st (st_load rfl (hb3.cell (i:=4) (v := .slice r.Live.A r.Live.n r.Live.c) rfl)) rfl ?_|refine SW.st (st_loads rfl rfl ((fun _ _=>hb3.cell))) rfl ?_))
     refine SW.call rfl rfl (HeapCopy_ans r h _ (hr.ext hw) hs) fun v w4 hw4 hv => ?_
     obtain ⟨s,rfl,hO⟩:=hv
     replace hO:=hO.low hw.size
     (replace hw:=Ext.trans hw hw4;replace hb3:=hb3.ext hw4;replace hb6:=hb6.ext hw4)
     have hlt6:=hb6.lt
     have hlt3:=hb3.lt
     refine SW.alloc rfl fun b10 w1 hw1 hb10b hb10 => ?_
     skip
     refine SW.storeAgg hb10 rfl rfl rfl rfl (one_h s) fun w2 hb10' hg => ?_
     have hXX:=hw1.own hb10b hg
     have hb10w:w.heap.size≤b10:=Nat.le_trans hw.size hb10b
     replace hw:=Ext.trans hw hXX
     replace hb3:=hb3.ext hXX
     replace hb6:=hb6.ext hXX
     replace hO:=hO.ext hXX
     replace hb10:=hb10'
     clear hb10' hw1 hg hXX
     have hne310:b3≠b10:=by omega
     have hM:=hO.mins
     have hV0:=hO.live
     have ecp:=hO.cpus
     obtain ⟨g,c,u0,u1,ls,eZ,hZ,hRs⟩:=hO.split f.d.zones
     have hL:=hRs.lists
     clear hO hRs
     obtain ⟨sz,m,cp,li,lv⟩:=s
     simp only at eZ hM hV0 hL ecp
     subst eZ
     have hvn:=hV0.sl.len
     repeat' (first|(first|refine CW.seq ?_|refine CW.region ?_)|(refine Post.seq ?_)|refine SW.nil ?_|refine SW.pure rfl rfl ?_|(show SW _ _ _ _ (⟨_,Op.fieldAddr _ _ _,_,_,_,none⟩::_) _ _;refine SW.st (st_field rfl) rfl ?_)|(show SW _ _ _ _ (⟨_,Op.load _ _,_,_,_,none⟩::_) _ _;refine SW.st (st_load rfl (hb10.cell (i:=4) (v := .slice lv.A lv.n lv.c) rfl)) rfl ?_))
     refine SW.call rfl rfl (without_ans lv.A lv.n lv.c h.Live a h.Live[k].Order _ hV0.sl (by omega)) fun v w5 hw5 hv => ?_
     obtain ⟨B,cB,rfl,hV⟩:=hv
     replace hV:=hV.low hw.size
     (replace hw:=Ext.trans hw hw5;replace hb3:=hb3.ext hw5;replace hb6:=hb6.ext hw5;replace hb10:=hb10.ext hw5;replace hZ:=hZ.ext hw5;replace hM:=hM.ext hw5;replace hL:=hL.ext hw5)
     clear hV0
     have hne610:b6≠b10:=by omega
     repeat' (first|refine SW.pure rfl rfl ?_|(show SW _ _ _ _ (⟨_,Op.fieldAddr _ _ _,_,_,_,none⟩::_) _ _;refine SW.st (st_field rfl) rfl ?_))
     refine SW.storeB (i:=4) hb10 rfl rfl rfl rfl fun w7 hb10' hg => ?_
     have hG:=hb10.gr hg
     replace hw:=hw.own hb10w hg
     replace hb6:=hb6.grown hg (by simpa using hne610)
     replace hb3:=hb3.grown hg (by simpa using hne310)
     (replace hZ:=hZ.grT hG rfl;replace hM:=hM.grT hG rfl;replace hV:=hV.grT hG rfl;replace hL:=hL.grT hG rfl)
     replace hb10:Blk w7 b10 27 (encH ⟨⟨some ⟨g,0,none⟩,2,c⟩,m,cp,li,⟨B,(without h.Live a h.Live[k].Order).length,cB⟩⟩):=hb10'
     clear hb10' hg hG
     have hera:=erase_at hlt hk hka rfl
     have hg6:b6≠g:=fun e=>hZ.row.ne_blk hb6 rfl (by rw [hZ.own,e])
     have hg10:b10≠g:=fun e=>hZ.row.ne_blk hb10 rfl (by rw [hZ.own,e])
     by_cases ho : 0<h.Live[k].Order
     ·rw [freedV_big f.d.zones hk ek ho,hera]
      repeat' (first|(first|refine CW.seq ?_|refine CW.region ?_|refine CW.condd_t rfl (by omega) ?_)|(refine Post.seq ?_)|refine SW.nil ?_|refine SW.pure rfl rfl ?_|(show SW _ _ _ _ (⟨_,Op.load _ _,_,_,_,none⟩::_) _ _;refine SW.st (st_loads rfl rfl ((fun _ _=>hb10.cell))) rfl ?_))
      have hcall:=fun w' (h1:ZsOwn w' w.heap.size g c u0 u1 (z0,z1)) (h2:w.heap.size≤w'.heap.size)=>returned_ans m cp li ⟨B,(without h.Live a h.Live[k].Order).length,cB⟩ u0 u1 _ _ h.Live[k] w.heap.size g c w' h1 h2 f.d.start hNx
      rw [hka] at hcall
      refine SW.callX rfl rfl (hcall _ hZ hw.size) fun v w8 hv => ?_
      obtain ⟨rfl,hg,u2,u3,hZ'⟩:=hv
      have hG:=hZ.gr hg
      replace hw:=hw.own hZ.glo hg
      (replace hb6:=hb6.grT hG rfl;replace hM:=hM.grT hG rfl;replace hV:=hV.grT hG rfl;replace hL:=hL.grT hG rfl)
      clear hZ hg hG
      refine SW.storeAgg hb6 rfl rfl rfl rfl (one_h ⟨⟨some ⟨g,0,none⟩,2,c⟩,m,cp,li,⟨B,(without h.Live a h.Live[k].Order).length,cB⟩⟩) fun w9 hR2 hg => ?_
      have hG:=hb6.gr hg
      replace hw:=hw.own hb6w hg
      replace hZ':=hZ'.grT hG rfl
      (replace hM:=hM.grT hG rfl;replace hV:=hV.grT hG rfl;replace hL:=hL.grT hG rfl)
      repeat' (first|(refine CW.ret ?_)|(first|refine Post.seq ?_|refine Post.seq_ret ?_)|refine SW.nil ?_|refine SW.pure rfl rfl ?_)
      exact Post.ret2c rfl rfl rfl hR2 rfl ⟨_,rfl,hw,⟨⟨some ⟨g,0,none⟩,2,c⟩,m,cp,li,⟨B,(without h.Live a h.Live[k].Order).length,cB⟩⟩,rfl,⟨ecp,hM,hV,⟨[u2,u3],⟨hZ'.row,All2.two hZ'.z0 hZ'.z1⟩⟩,⟨ls,hL⟩⟩⟩
     ·rw [freedV_one f.d.zones hk ek ho,hera]
      have hA2:=hNx.at_
      rw [hka] at hA2
      have hmd:=f.d.mid
      have ht1:=f.d.to1
      obtain ⟨zs,hzs⟩:=hr.zones
      have l0:=hzs.each.len
      rw [f.d.zones] at l0
      obtain ⟨v0,v1,rfl⟩:=two_of (show zs.length=2 from l0)
      have r0:=hzs.each.get 0 (by simp) (by simp [f.d.zones])
      have r1:=hzs.each.get 1 (by simp) (by simp [f.d.zones])
      simp only [f.d.zones] at r0 r1
      have r0:RdZ w v0 z0:=r0
      have r1:RdZ w v1 z1:=r1
      have e1F:=r1.from_
      have hAz:=hzs.row.base
      have hzn2 : 2=r.Zones.n:=hzs.row.len
      have hsel:∃ (zi:Nat) (ui:ZRow) (zz:Zone),∃ k0:zi<2,[v0,v1][zi]'k0=ui∧(if a<v1.From then (0:Int) else 1)=(zi:Int)∧RdZ w ui zz∧ZoneMay zz∧(zz.From≤a∧a<zz.To)∧keyOf z0 z1 cpu a=⟨cpu,(zi:Int),typeZ zz a,[]⟩:=by
       by_cases hx:a<z0.To
       ·exact ⟨0,v0,z0,by omega,rfl,by rw [if_pos (by omega)];rfl,r0,f.d.may0,⟨by have:=f.d.from0;omega,hx⟩,by unfold keyOf;rw [if_pos hx,if_pos hx];rfl⟩
       ·exact ⟨1,v1,z1,by omega,rfl,by rw [if_neg (by omega)];rfl,r1,f.d.may1,⟨by omega,by omega⟩,by unfold keyOf;rw [if_neg hx,if_neg hx];rfl⟩
      obtain ⟨zi,ui,zz,k0,hui,hzi,hoz,hmz,⟨hz1,hz2⟩,hkey⟩:=hsel
      have cz:∀ w',Ext w w'→Ans Tryz.prog 83 [.agg (encH r).toArray,.int .i64 a] w' fun v _=>v = .int .i64 (zi:Int):=fun w' hx=>by
       have:=zoneAt2_ans r v0 v1 a w' (hzs.row.ext hx)
       rwa [hzi] at this
      obtain ⟨ti,hti,htl⟩:=typeIdx hmz hz1 hz2
      have hzr:zi<r.Zones.n:=by omega
      have hoF:=hoz.from_
      have htn:=hoz.types.len
      have hAt:=hoz.types.base
      have fz0:=hzs.row.fld hzr (j:=0) (u := .int .i64 ui.From) (by simp only [hui];rfl)
      have fz3:=hzs.row.fld hzr (j:=3) (u := .slice ui.Types.A ui.Types.n ui.Types.c) (by simp only [hui];rfl)
      have hti2:ti<ui.Types.n:=by omega
      have ft:=hoz.types.one hti2 rfl
      have etz:typeZ zz a=zz.Types[ti]:=by
       unfold typeZ
       rw [hti,Int.toNat_natCast,List.getD_eq_getElem?_getD,List.getElem?_eq_getElem htl];rfl
      obtain ⟨t,ht⟩ : ∃ t,zz.Types[ti]=t:=⟨_,rfl⟩
      rw [ht] at ft etz
      have hmo:=hmz.ok
      unfold zoneOk at hmo
      repeat' (first|(first|refine CW.seq ?_|refine CW.region ?_|refine CW.condd_f rfl (by omega) ?_|refine CW.skip ?_)|(refine Post.seq ?_)|refine SW.nil ?_|refine SW.pure rfl rfl ?_|(show SW _ _ _ _ (⟨_,Op.load _ _,_,_,_,none⟩::_) _ _;refine SW.st (st_loads rfl rfl ((fun _ _=>hb3.cell))) rfl ?_)|(show SW _ _ _ _ (⟨_,Op.call ⟨.value (.func _),_,_⟩,_,_,_,none⟩::_) _ _;(refine SW.call rfl rfl (cz _ hw) ?_;intro v w1 hw1 hv;subst hv;replace hw:=Ext.trans hw hw1;replace hb3:=hb3.ext hw1;replace hb6:=hb6.ext hw1;replace hb10:=hb10.ext hw1;replace hZ:=hZ.ext hw1;replace hM:=hM.ext hw1;replace hV:=hV.ext hw1;replace hL:=hL.ext hw1;clear hw1)))
      (apply CW.quiet1 mixed;(· kernel_rfl);rotate_left;intro w1 hw1;replace hw:=Ext.trans hw hw1;replace hb3:=hb3.ext hw1;replace hb6:=hb6.ext hw1;replace hb10:=hb10.ext hw1;replace hZ:=hZ.ext hw1;replace hM:=hM.ext hw1;replace hV:=hV.ext hw1;replace hL:=hL.ext hw1;clear hw1;rotate_right)
      repeat' (first|(first|refine CW.seq ?_|refine CW.region ?_)|(refine Post.seq ?_)|refine SW.pure rfl rfl ?_|(show SW _ _ _ _ (⟨_,Op.fieldAddr _ _ _,_,_,_,none⟩::_) _ _;refine SW.st (st_field rfl) rfl ?_)|(show SW _ _ _ _ (⟨_,Op.binOp _ _ _ _ _,_,_,_,none⟩::_) _ _;first|refine SW.st (st_sub rfl rfl (by omega) (by omega)) rfl ?_|refine SW.st (st_quo rfl rfl (by omega) (by omega) (by omega)) rfl ?_)|(show SW _ _ _ _ (⟨_,Op.indexAddr _ _ _,_,_,_,none⟩::_) _ _;first|refine SW.st (st_indexN rfl rfl (by assumption) (by omega)) rfl ?_|refine SW.st (st_indexI (ti) rfl rfl (by assumption) (by omega) (by omega)) rfl ?_)|(show SW _ _ _ _ (⟨_,Op.load _ _,_,_,_,none⟩::_) _ _;first|refine SW.st (st_load rfl (hb3.cell (i:=0) (v := .slice r.Zones.A r.Zones.n r.Zones.c) rfl)) rfl ?_|refine SW.st (st_loadx hw rfl fz0) rfl ?_|refine SW.st (st_loadx hw rfl fz3) rfl ?_|refine SW.st (st_loadx hw rfl ft) rfl ?_)|exact SW.qnil rfl)
      obtain ⟨x,hx⟩ : ∃ x:PList,x=⟨cpu,zi,t,[]⟩:=⟨_,rfl⟩
      have hkey2:keyOf z0 z1 cpu a=x:=by rw [hkey,etz,hx]
      rw [hkey2]
      obtain ⟨pg,hpg⟩ : ∃ pg,pagesAt h.Lists x++[a]=pg:=⟨_,rfl⟩
      rw [hpg]
      have hpb:∀ l∈h.Lists,l.Pages.length*8≤140737488355328:=fun l hl=>by have:=(f.lists l hl).2;omega
      have hcnt:=f.count
      have hlnn:li.n≤256:=by have:=hL.rd.len.2;omega
      have hpl0:(pagesAt h.Lists x).length≤8:=by
       cases e:khere h.Lists x with
       | false=>rw [pagesAt_f e];simp
       | true =>
        obtain ⟨h1,_⟩:=khere_t e
        rw [pagesAt_t e h1]
        exact (f.lists _ (List.getElem_mem h1)).2
      have hpgl:pg.length=(pagesAt h.Lists x).length+1:=by rw [← hpg];simp
      repeat' (first|refine SW.pure rfl rfl ?_|(show SW _ _ _ _ (⟨_,Op.load _ _,_,_,_,none⟩::_) _ _;refine SW.st (st_loads rfl rfl ((fun _ _=>hb10.cell))) rfl ?_))
      have hlo:=listOf_ans ⟨⟨some ⟨g,0,none⟩,2,c⟩,m,cp,li,⟨B,(without h.Live a h.Live[k].Order).length,cB⟩⟩ h.Lists ls x _ hL.rd f.sorted (by simp only;omega) hpb
      rw [hx] at hlo
      refine SW.call rfl rfl hlo fun v w5 hX5 hv => ?_
      rw [← hx] at hv
      obtain ⟨A3,c3,rfl,hP3⟩:=hv
      repeat' (refine SW.pure rfl rfl ?_)
      refine SW.build1 rfl rfl rfl rfl rfl fun b w6 hX6 hb hB => ?_
      replace hP3:=hP3.ext hX6
      replace hX5:=Ext.trans hX5 hX6
      refine SW.append hP3 (Blk.sl1 (enc:=encI) hB) hX5.size rfl rfl rfl (by omega) (by omega) fun A4 c4 w7 hPg hg => ?_
      have hX7:=ext_grown hX5 hg (Nat.le_refl _) hP3.row_ge
      replace hPg:=hPg.low hw.size
      rw [hpg,← hpgl] at hPg
      rw [← hpgl]
      (replace hw:=Ext.trans hw hX7;replace hb6:=hb6.ext hX7;replace hb10:=hb10.ext hX7;replace hZ:=hZ.ext hX7;replace hM:=hM.ext hX7;replace hV:=hV.ext hX7;replace hL:=hL.ext hX7)
      clear hX7 hX5 hP3 hg hB hX6 hb3
      obtain ⟨n4,hn4⟩ : ∃ n4,pg.length=n4:=⟨_,rfl⟩
      rw [hn4] at hPg
      rw [hn4]
      have hcap:=hPg.le
      have hn9:n4≤9:=by omega
      have hn1 : 1≤n4:=by omega
      by_cases h8 : 8<pg.length
      ·have hkh:khere h.Lists x=true:=by
        cases e:khere h.Lists x with
        | true=>rfl
        | false=>rw [pagesAt_f e] at hpg;rw [← hpg] at h8;simp at h8
       obtain ⟨p0,hp0⟩ : ∃ p0,kpos h.Lists x=p0:=⟨_,rfl⟩
       have hk0:p0<h.Lists.length:=by rw [← hp0];exact (khere_t hkh).1
       have hpa:pagesAt h.Lists x=h.Lists[p0].Pages:=by
        rw [pagesAt_t hkh (by omega)]
        simp only [hp0]
       rw [hpa] at hpg hpgl
       have htk:∀ j,j≤4→pg.take j=h.Lists[p0].Pages.take j:=fun j hj=>by rw [← hpg,List.take_append_of_le_length (by omega)]
       have hget:∀ (j:Nat) (hj:j<pg.length) (hj':j<h.Lists[p0].Pages.length),pg[j]=h.Lists[p0].Pages[j]:=fun j hj hj'=>by
        simp only [← hpg]
        exact List.getElem_append_left hj'
       have efr:freedOne h z0 z1 x pg (without h.Live a h.Live[k].Order)=⟨[(backAll (z0,z1) ((pg.take 4).map pageB)).1,(backAll (z0,z1) ((pg.take 4).map pageB)).2],h.Mins,h.Cpus,setL h.Lists (withP x (pg.drop 4)),without h.Live a h.Live[k].Order⟩:=by
        unfold freedOne
        rw [if_pos h8]
       rw [efr]
       repeat' (first|(first|refine CW.seq ?_|refine CW.region ?_|refine CW.block ?_|refine CW.condd_t rfl (by omega) ?_)|(refine Post.seq ?_)|refine SW.nil ?_|refine SW.pure rfl rfl ?_|(show SW _ _ _ _ (⟨_,Op.call ⟨.builtin .len,_,_⟩,_,_,_,none⟩::_) _ _;refine SW.st (st_len rfl) rfl ?_))
       refine CW.loop (fun t':Nat×ZRow×ZRow=>[(1,.int .i64 cpu),(2,.int .i64 a),(6,.pointer (some ⟨b6,0,none⟩)),(10,.pointer (some ⟨b10,0,none⟩)),(11,.int .i64 (zi:Int)),(12,.int .i64 t),(13,.slice A4 n4 c4),(14,.int .i64 (t'.1:Int))])
        (fun t' w'=>t'.1≤4∧Ext w w'∧Blk w' b10 27 (encH ⟨⟨some ⟨g,0,none⟩,2,c⟩,m,cp,li,⟨B,(without h.Live a h.Live[k].Order).length,cB⟩⟩)∧Blk w' b6 27 (encH .zero)∧ZsOwn w' w.heap.size g c t'.2.1 t'.2.2 (backAll (z0,z1) ((pg.take t'.1).map pageB))∧Own w' w.heap.size 3 1 encI m.A m.n m.c h.Mins∧Own w' w.heap.size 94 3 encBk B (without h.Live a h.Live[k].Order).length cB (without h.Live a h.Live[k].Order)∧OwnLs w' w.heap.size li ls h.Lists∧Own w' w.heap.size 3 1 encI A4 n4 c4 pg) (fun t'=>4-t'.1) (0,u0,u1)
        ⟨rfl,rfl,rfl,rfl,rfl,rfl,rfl,rfl,trivial⟩ ⟨by omega,hw,hb10,hb6,by simpa [backAll] using hZ,hM,hV,hL,hPg⟩ ?_
       clear hw hb6 hb10 hZ hM hV hL hPg hg10 hg6
       rintro ⟨j,u0,u1⟩ w' ⟨hj,hw,hb10,hb6,hZ,hM,hV,hL,hPg⟩
       simp only at hj hZ ⊢
       have hApp:=hPg.sl.base
       by_cases hj4:j<4
       ·have hjn:j<n4:=by omega
        have hjp:j<pg.length:=by omega
        have hD:=f.inv hk0 j (by omega)
        have hN:=f.page hk0 (show j<h.Lists[p0].Pages.length by omega)
        have hbt:backAll (z0,z1) ((pg.take (j+1)).map pageB)=backP (backAll (z0,z1) ((pg.take j).map pageB)) (pageB pg[j]):=by
         rw [List.take_succ_eq_append_getElem hjp,List.map_append,backAll_append];rfl
        rw [← htk j hj,← hget j hjp (by omega)] at hN
        rw [← htk j hj] at hD
        repeat' (first|(first|refine CW.seq ?_|refine CW.region ?_|refine CW.block ?_|refine CW.condd_t rfl (by omega) ?_|refine CW.skip ?_)|(refine Post.seq ?_)|refine SW.nil ?_|refine SW.pure rfl rfl ?_)
        refine CW.any 5 mixed (rb_tail (by kernel_rfl)) rfl fun w1 hw1 hRB => ?_
        replace hw:=Ext.trans hw hw1;replace hb10:=hb10.ext hw1;replace hb6:=hb6.ext hw1;replace hZ:=hZ.ext hw1;replace hM:=hM.ext hw1;replace hV:=hV.ext hw1;replace hL:=hL.ext hw1;replace hPg:=hPg.ext hw1;clear hw1
        refine SA.take 0 hRB rfl (by kernel_rfl) (by kernel_rfl) rfl ?_
        repeat ((show SW _ _ _ _ (⟨_,Op.load _ _,_,_,_,none⟩::_) _ _;refine SW.st (st_loads rfl rfl ((fun _ _=>hb10.cell))) rfl ?_))
        refine SW.tknil ?_
        refine SA.take 1 hRB rfl (by kernel_rfl) (by kernel_rfl) rfl ?_
        repeat (refine SW.pure rfl rfl ?_)
        refine SW.tknil ?_
        refine SA.take 2 hRB rfl (by kernel_rfl) (by kernel_rfl) rfl ?_
        repeat (refine SW.pure rfl rfl ?_)
        refine SW.tknil ?_
        refine SA.take 3 hRB rfl (by kernel_rfl) (by kernel_rfl) rfl ?_
        repeat ((show SW _ _ _ _ (⟨_,Op.indexAddr _ _ _,_,_,_,none⟩::_) _ _;refine SW.st (st_indexN rfl rfl (by assumption) (by omega)) rfl ?_))
        refine SW.tknil ?_
        refine SA.take 4 hRB rfl (by kernel_rfl) (by kernel_rfl) rfl ?_
        repeat ((show SW _ _ _ _ (⟨_,Op.load _ _,_,_,_,none⟩::_) _ _;refine SW.st (st_load rfl (hPg.sl.one hjn rfl)) rfl ?_))
        refine SW.tknil ?_
        refine SA.done (by kernel_rfl) ?_
        refine SW.callX rfl rfl (returned_ans m cp li ⟨B,(without h.Live a h.Live[k].Order).length,cB⟩ u0 u1 _ _ (pageB pg[j]) w.heap.size g c _ hZ hw.size hD hN) fun v w8 hv => ?_
        obtain ⟨rfl,hg,u2,u3,hZ'⟩:=hv
        have hG:=hZ.gr hg
        replace hw:=hw.own hZ.glo hg
        (replace hb10:=hb10.grT hG rfl;replace hb6:=hb6.grT hG rfl;replace hM:=hM.grT hG rfl;replace hV:=hV.grT hG rfl;replace hL:=hL.grT hG rfl;replace hPg:=hPg.grT hG rfl)
        refine SW.storeAgg hb10 rfl rfl rfl rfl (one_h ⟨⟨some ⟨g,0,none⟩,2,c⟩,m,cp,li,⟨B,(without h.Live a h.Live[k].Order).length,cB⟩⟩) fun w9 hb10' hg' => ?_
        have hG':=hb10.gr hg'
        replace hw:=hw.own hb10w hg'
        replace hb6:=hb6.grown hg' (by simpa using hne610)
        (replace hZ':=hZ'.grT hG' rfl;replace hM:=hM.grT hG' rfl;replace hV:=hV.grT hG' rfl;replace hL:=hL.grT hG' rfl;replace hPg:=hPg.grT hG' rfl)
        repeat' (first|(refine CW.region ?_)|(first|refine Post.seq ?_|refine Post.blk ?_|refine Post.np ?_)|refine SW.nil ?_|refine SW.pure rfl rfl ?_|(show SW _ _ _ _ (⟨_,Op.binOp _ _ _ _ _,_,_,_,none⟩::_) _ _;refine SW.st (st_add rfl rfl (by omega) (by omega)) rfl ?_))
        exact Post.again (j+1,u2,u3) ⟨rfl,rfl,rfl,rfl,rfl,rfl,rfl,rfl,trivial⟩ (by simp only;omega) ⟨by simp only;omega,hw,hb10',hb6,by simp only;rw [hbt];exact hZ',hM,hV,hL,hPg⟩
       ·obtain rfl:j=4:=by omega
        repeat' (first|(first|refine CW.seq ?_|refine CW.region ?_|refine CW.condd_f rfl (by omega) ?_|refine CW.exit ?_)|(first|refine Post.seq ?_|refine Post.seq_exit ?_|refine Post.hit ?_|refine Post.again_exit ?_)|refine SW.nil ?_|refine SW.pure rfl rfl ?_|(refine SW.st (st_sliceLo (k:=4) rfl rfl (by omega) (by omega)) rfl ?_))
        refine CW.any 6 mixed (rb_tail (by kernel_rfl)) rfl fun w1 hw1 hRB => ?_
        replace hw:=Ext.trans hw hw1;replace hb10:=hb10.ext hw1;replace hb6:=hb6.ext hw1;replace hZ:=hZ.ext hw1;replace hM:=hM.ext hw1;replace hV:=hV.ext hw1;replace hL:=hL.ext hw1;replace hPg:=hPg.ext hw1;clear hw1
        refine SA.take 0 hRB rfl (by kernel_rfl) (by kernel_rfl) rfl ?_
        repeat ((show SW _ _ _ _ (⟨_,Op.load _ _,_,_,_,none⟩::_) _ _;refine SW.st (st_loads rfl rfl ((fun _ _=>hb10.cell))) rfl ?_))
        refine SW.tknil ?_
        refine SA.take 1 hRB rfl (by kernel_rfl) (by kernel_rfl) rfl ?_
        repeat (refine SW.pure rfl rfl ?_)
        refine SW.tknil ?_
        refine SA.take 2 hRB rfl (by kernel_rfl) (by kernel_rfl) rfl ?_
        repeat (refine SW.pure rfl rfl ?_)
        refine SW.tknil ?_
        refine SA.take 3 hRB rfl (by kernel_rfl) (by kernel_rfl) rfl ?_
        repeat (refine SW.pure rfl rfl ?_)
        refine SW.tknil ?_
        refine SA.take 4 hRB rfl (by kernel_rfl) (by kernel_rfl) rfl ?_
        repeat (refine SW.pure rfl rfl ?_)
        refine SW.tknil ?_
        refine SA.one 5 rfl (by kernel_rfl) rfl ?_
        refine SW.call rfl rfl (words_ans _ _ _ _ _ (hPg.sl.drop 4 c4 (by omega) (by omega)) (by omega)) fun v w4 hXX hv => ?_
        obtain ⟨X,c4,rfl,hX⟩:=hv
        replace hX:=hX.low hw.size
        (replace hw:=Ext.trans hw hXX;replace hb10:=hb10.ext hXX;replace hb6:=hb6.ext hXX;replace hZ:=hZ.ext hXX;replace hM:=hM.ext hXX;replace hV:=hV.ext hXX;replace hL:=hL.ext hXX)
        refine SW.nil (Post.sa hXX ?_)
        refine SA.done (by kernel_rfl) ?_
        refine SW.call rfl rfl (setList_ans ⟨⟨some ⟨g,0,none⟩,2,c⟩,m,cp,li,⟨B,(without h.Live a h.Live[k].Order).length,cB⟩⟩ h.Lists ls (withP x (pg.drop 4)) ⟨cpu,zi,t,⟨X,(n4-4),c4⟩⟩ w.heap.size _ hL ⟨by rw [hx];rfl,by rw [hx];rfl,by rw [hx];rfl,hX⟩ f.sorted hw.size (show 0<(n4-4) by omega) (by simp only;omega)) fun v w5 hXX hv => ?_
        obtain ⟨s5,R5,rfl,hL5⟩:=hv
        (replace hw:=Ext.trans hw hXX;replace hb10:=hb10.ext hXX;replace hb6:=hb6.ext hXX;replace hZ:=hZ.ext hXX;replace hM:=hM.ext hXX;replace hV:=hV.ext hXX)
        refine SW.storeAgg hb6 rfl rfl rfl rfl (one_h ⟨⟨some ⟨g,0,none⟩,2,c⟩,m,cp,s5,⟨B,(without h.Live a h.Live[k].Order).length,cB⟩⟩) fun w9 hR2 hg => ?_
        have hG:=hb6.gr hg
        replace hw:=hw.own hb6w hg
        (replace hZ:=hZ.grT hG rfl;replace hM:=hM.grT hG rfl;replace hV:=hV.grT hG rfl;replace hL5:=hL5.grT hG rfl)
        repeat' (first|(refine CW.ret ?_)|(first|refine Post.seq ?_|refine Post.np ?_)|refine SW.nil ?_|refine SW.pure rfl rfl ?_)
        exact Post.ret2c rfl rfl rfl hR2 rfl ⟨_,rfl,hw,⟨⟨some ⟨g,0,none⟩,2,c⟩,m,cp,s5,⟨B,(without h.Live a h.Live[k].Order).length,cB⟩⟩,rfl,⟨ecp,hM,hV,⟨[u0,u1],⟨hZ.row,All2.two hZ.z0 hZ.z1⟩⟩,⟨R5,hL5⟩⟩⟩
      ·have efr:freedOne h z0 z1 x pg (without h.Live a h.Live[k].Order)=⟨[z0,z1],h.Mins,h.Cpus,setL h.Lists (withP x pg),without h.Live a h.Live[k].Order⟩:=by
        unfold freedOne
        rw [if_neg h8]
       rw [efr]
       repeat' (first|(first|refine CW.seq ?_|refine CW.region ?_|refine CW.condd_f rfl (by omega) ?_|refine CW.skip ?_)|(refine Post.seq ?_)|refine SW.nil ?_|refine SW.pure rfl rfl ?_|(show SW _ _ _ _ (⟨_,Op.call ⟨.builtin .len,_,_⟩,_,_,_,none⟩::_) _ _;refine SW.st (st_len rfl) rfl ?_))
       refine CW.any 6 mixed (rb_tail (by kernel_rfl)) rfl fun w1 hw1 hRB => ?_
       replace hw:=Ext.trans hw hw1;replace hb10:=hb10.ext hw1;replace hb6:=hb6.ext hw1;replace hZ:=hZ.ext hw1;replace hM:=hM.ext hw1;replace hV:=hV.ext hw1;replace hL:=hL.ext hw1;replace hPg:=hPg.ext hw1;clear hw1
       refine SA.take 0 hRB rfl (by kernel_rfl) (by kernel_rfl) rfl ?_
       repeat ((show SW _ _ _ _ (⟨_,Op.load _ _,_,_,_,none⟩::_) _ _;refine SW.st (st_loads rfl rfl ((fun _ _=>hb10.cell))) rfl ?_))
       refine SW.tknil ?_
       refine SA.take 1 hRB rfl (by kernel_rfl) (by kernel_rfl) rfl ?_
       repeat (refine SW.pure rfl rfl ?_)
       refine SW.tknil ?_
       refine SA.take 2 hRB rfl (by kernel_rfl) (by kernel_rfl) rfl ?_
       repeat (refine SW.pure rfl rfl ?_)
       refine SW.tknil ?_
       refine SA.take 3 hRB rfl (by kernel_rfl) (by kernel_rfl) rfl ?_
       repeat (refine SW.pure rfl rfl ?_)
       refine SW.tknil ?_
       refine SA.take 4 hRB rfl (by kernel_rfl) (by kernel_rfl) rfl ?_
       repeat (refine SW.pure rfl rfl ?_)
       refine SW.tknil ?_
       refine SA.one 5 rfl (by kernel_rfl) rfl ?_
       refine SW.call rfl rfl (words_ans _ _ _ _ _ (hPg.sl) (by omega)) fun v w4 hXX hv => ?_
       obtain ⟨X,c4,rfl,hX⟩:=hv
       replace hX:=hX.low hw.size
       (replace hw:=Ext.trans hw hXX;replace hb10:=hb10.ext hXX;replace hb6:=hb6.ext hXX;replace hZ:=hZ.ext hXX;replace hM:=hM.ext hXX;replace hV:=hV.ext hXX;replace hL:=hL.ext hXX)
       refine SW.nil (Post.sa hXX ?_)
       refine SA.done (by kernel_rfl) ?_
       refine SW.call rfl rfl (setList_ans ⟨⟨some ⟨g,0,none⟩,2,c⟩,m,cp,li,⟨B,(without h.Live a h.Live[k].Order).length,cB⟩⟩ h.Lists ls (withP x pg) ⟨cpu,zi,t,⟨X,n4,c4⟩⟩ w.heap.size _ hL ⟨by rw [hx];rfl,by rw [hx];rfl,by rw [hx];rfl,hX⟩ f.sorted hw.size (show 0<n4 by omega) (by simp only;omega)) fun v w5 hXX hv => ?_
       obtain ⟨s5,R5,rfl,hL5⟩:=hv
       (replace hw:=Ext.trans hw hXX;replace hb10:=hb10.ext hXX;replace hb6:=hb6.ext hXX;replace hZ:=hZ.ext hXX;replace hM:=hM.ext hXX;replace hV:=hV.ext hXX)
       refine SW.storeAgg hb6 rfl rfl rfl rfl (one_h ⟨⟨some ⟨g,0,none⟩,2,c⟩,m,cp,s5,⟨B,(without h.Live a h.Live[k].Order).length,cB⟩⟩) fun w9 hR2 hg => ?_
       have hG:=hb6.gr hg
       replace hw:=hw.own hb6w hg
       (replace hZ:=hZ.grT hG rfl;replace hM:=hM.grT hG rfl;replace hV:=hV.grT hG rfl;replace hL5:=hL5.grT hG rfl)
       repeat' (first|(refine CW.ret ?_)|(first|refine Post.seq ?_|refine Post.np ?_)|refine SW.nil ?_|refine SW.pure rfl rfl ?_)
       exact Post.ret2c rfl rfl rfl hR2 rfl ⟨_,rfl,hw,⟨⟨some ⟨g,0,none⟩,2,c⟩,m,cp,s5,⟨B,(without h.Live a h.Live[k].Order).length,cB⟩⟩,rfl,⟨ecp,hM,hV,⟨[u0,u1],⟨hZ.row,All2.two hZ.z0 hZ.z1⟩⟩,⟨R5,hL5⟩⟩⟩
  ·rw [freeV_1 hq hc]
   repeat' (first|(first|refine CW.seq ?_|refine CW.region ?_|refine CW.condn_t rfl (by omega) ?_|refine CW.condf rfl ?_|refine CW.skip ?_)|(refine Post.seq ?_)|refine SW.nil ?_|refine SW.pure rfl rfl ?_|(show SW _ _ _ _ (⟨_,Op.fieldAddr _ _ _,_,_,_,none⟩::_) _ _;refine SW.st (st_field rfl) rfl ?_)|(show SW _ _ _ _ (⟨_,Op.build _ _,_,_,_,none⟩::_) _ _;refine SW.st (st_build rfl rfl) rfl ?_)|(show SW _ _ _ _ (⟨_,Op.binOp _ _ _ _ _,_,_,_,none⟩::_) _ _;refine SW.st (st_sub rfl rfl (by omega) (by omega)) rfl ?_)|(show SW _ _ _ _ (⟨_,Op.load _ _,_,_,_,none⟩::_) _ _;first|refine SW.st (st_loads rfl rfl ((fun _ _=>hb3.cell))) rfl ?_|refine SW.st (st_load rfl (hb3.cell (i:=2) (v := .int .i64 r.Cpus) rfl)) rfl ?_)|(show SW _ _ _ _ (⟨_,Op.call ⟨.value (.func _),_,_⟩,_,_,_,none⟩::_) _ _;first|(refine SW.call rfl rfl (c1 _ hw) ?_;intro v w1 hw1 hv;subst hv;replace hw:=Ext.trans hw hw1;replace hb3:=hb3.ext hw1;replace hb6:=hb6.ext hw1;clear hw1)|(refine SW.call rfl rfl (In_ans _ _ _ _) ?_;intro v w1 hw1 hv;subst hv;replace hw:=Ext.trans hw hw1;replace hb3:=hb3.ext hw1;replace hb6:=hb6.ext hw1;clear hw1)))
   all_goals first|(exfalso;omega)|skip
   all_goals
    refine SW.storeAgg hb6 rfl rfl rfl rfl (one_h .zero) fun w5 hR2 hg => ?_
    replace hw:=hw.own hb6w hg
    repeat' (first|(refine CW.ret ?_)|(first|refine Post.seq ?_|refine Post.seq_ret ?_)|refine SW.nil ?_|refine SW.pure rfl rfl ?_)
    exact Post.ret2c rfl rfl rfl hR2 rfl ⟨_,rfl,hw,HeapOut.zero 1 _ _⟩
open Go.RowKit
def LenZ (z:Zone) : Prop:=z.Free.length≤257∧z.Types.length≤32
theorem backP_len {s:Zone×Zone} (h:LenZ s.1∧LenZ s.2) (b:Block) : LenZ (backP s b).1∧LenZ (backP s b).2:=by
 unfold backP
 split
 ·exact ⟨⟨(backV_len _ _ _).1,(backV_len _ _ _).2.1⟩,h.2⟩
 ·exact ⟨h.1,(backV_len _ _ _).1,(backV_len _ _ _).2.1⟩
theorem backAll_len:∀ (l:List Block) {s:Zone×Zone},LenZ s.1∧LenZ s.2→LenZ (backAll s l).1∧LenZ (backAll s l).2
 | [],_,h=>h
 | b::l,s,h=>backAll_len l (s:=backP s b) (backP_len h b)
theorem LenZ.small {z:Zone} (h:LenZ z) : z.Free.length*24≤140737488355328∧z.Types.length*8≤140737488355328:=⟨Nat.le_trans (Nat.mul_le_mul_right 24 h.1) (by decide),by have:=h.2;omega⟩
theorem mem_insA {α : Type} {l:List α} {i:Nat} {b x : α} (h:x∈insAt l i b) : x=b∨x∈l:=by
 unfold insAt at h
 rw [List.mem_append,List.mem_append] at h
 rcases h with (h|h)|h
 ·exact .inr (List.mem_of_mem_take h)
 ·exact .inl (by simpa using h)
 ·exact .inr (List.mem_of_mem_drop h)
theorem setL_mem {L:List PList} {x y:PList} (h:y∈setL L x) : y=x∨y∈L:=by
 unfold setL at h
 split at h
 ·rcases List.mem_or_eq_of_mem_set h with h|h
  ·exact .inr h
  ·exact .inl h
 ·exact mem_insA h
theorem setL_len (L:List PList) (x:PList) : (setL L x).length≤L.length+1:=by
 unfold setL
 split
 ·simp
 ·rw [length_insAt _ (kpos_le L x)];omega
theorem pagesAt_len {h:Heap} {z0 z1:Zone} (f:FHeap h z0 z1) (x:PList) : (pagesAt h.Lists x).length≤8:=by
 cases e:khere h.Lists x with
 | false=>rw [pagesAt_f e];simp
 | true =>
  obtain ⟨h1,_⟩:=khere_t e
  rw [pagesAt_t e h1]
  exact (f.lists _ (List.getElem_mem h1)).2
theorem small_lists {h:Heap} {z0 z1:Zone} (f:FHeap h z0 z1) (x:PList) (hx:x.Pages.length≤9) : (setL h.Lists x).length*48≤140737488355328 ∧ ∀ l∈setL h.Lists x,l.Pages.length*8≤140737488355328:=by
 have:=f.count
 have:=setL_len h.Lists x
 refine ⟨by omega,fun l hl => ?_⟩
 rcases setL_mem hl with rfl|hl
 ·omega
 ·have:=(f.lists l hl).2;omega
theorem small_freeV (h:Heap) (cpu a:Int) (hs:h.small) : (freeV h cpu a).2.small:=by
 have hz:((8:Int),(⟨[],[],0,[],[]⟩ : Heap)).2.small:=by constructor<;>simp
 cases hq:heapB h
 ·rw [freeV_8 hq];exact hz
 ·by_cases hc : 0≤cpu∧cpu<h.Cpus
  ·cases hf:foundA h.Live a
   ·rw [freeV_4 hq hc hf];exact hz
   ·rw [freeV_0 hq hc hf]
    obtain ⟨z0,z1,f⟩:=fheap_of (heapB_iff.1 hq)
    obtain ⟨hk,_⟩:=found_at hf
    have hl0:=zone_len f.d.may0
    have hl1:=zone_len f.d.may1
    have hzz:LenZ z0∧LenZ z1:=⟨⟨by omega,hl0.2⟩,⟨by omega,hl1.2⟩⟩
    have hlive:(h.Live.eraseIdx (lbOf h.Live a)).length*24≤140737488355328:=by
     have:=hs.live
     have:=List.length_eraseIdx_le h.Live (lbOf h.Live a)
     omega
    by_cases ho : 0<h.Live[lbOf h.Live a].Order
    ·rw [freedV_big f.d.zones hk rfl ho]
     have hb:=backP_len (s:=(z0,z1)) hzz h.Live[lbOf h.Live a]
     refine ⟨by simp [freedBig],hs.mins,hs.lists,hlive,fun z hz => ?_,hs.pages⟩
     simp only [freedBig,List.mem_cons,List.not_mem_nil,or_false] at hz
     rcases hz with rfl|rfl
     ·exact hb.1.small
     ·exact hb.2.small
    ·rw [freedV_one f.d.zones hk rfl ho]
     have hp:=pagesAt_len f (keyOf z0 z1 cpu a)
     unfold freedOne
     split
     ·have hb:=backAll_len (((pagesAt h.Lists (keyOf z0 z1 cpu a)++[a]).take 4).map pageB) (s:=(z0,z1)) hzz
      obtain ⟨g1,g2⟩:=small_lists f (withP (keyOf z0 z1 cpu a) ((pagesAt h.Lists (keyOf z0 z1 cpu a)++[a]).drop 4)) (by simp only [withP,List.length_drop,List.length_append,List.length_singleton];omega)
      refine ⟨by simp,hs.mins,g1,hlive,fun z hz => ?_,g2⟩
      simp only [List.mem_cons,List.not_mem_nil,or_false] at hz
      rcases hz with rfl|rfl
      ·exact hb.1.small
      ·exact hb.2.small
     ·obtain ⟨g1,g2⟩:=small_lists f (withP (keyOf z0 z1 cpu a) (pagesAt h.Lists (keyOf z0 z1 cpu a)++[a])) (by simp only [withP,List.length_append,List.length_singleton];omega)
      refine ⟨by simp,hs.mins,g1,hlive,fun z hz => ?_,g2⟩
      simp only [List.mem_cons,List.not_mem_nil,or_false] at hz
      rcases hz with rfl|rfl
      ·exact hzz.1.small
      ·exact hzz.2.small
  ·rw [freeV_1 hq hc];exact hz
open Go.RowKit
theorem big_backV {z:Zone} (h:big64 z) (a o:Int) : big64 (backV z a o).2:=by
 have h0:big64 ⟨0,0,[],[]⟩:=by unfold big64;simp
 unfold backV
 (repeat' split)<;>first|exact h|exact h0
theorem big_backP {s:Zone×Zone} (h:big64 s.1∧big64 s.2) (b:Block) : big64 (backP s b).1∧big64 (backP s b).2:=by
 unfold backP
 split
 ·exact ⟨big_backV h.1 _ _,h.2⟩
 ·exact ⟨h.1,big_backV h.2 _ _⟩
theorem big_backAll:∀ (l:List Block) {s:Zone×Zone},big64 s.1∧big64 s.2→big64 (backAll s l).1∧big64 (backAll s l).2
 | [],_,h=>h
 | b::l,s,h=>big_backAll l (s:=backP s b) (big_backP h b)
theorem big_two {a b:Zone} (h:big64 a∧big64 b) : ∀ z∈[a,b],big64 z:=fun z hz=>by
 simp only [List.mem_cons,List.not_mem_nil,or_false] at hz
 rcases hz with rfl|rfl
 ·exact h.1
 ·exact h.2
theorem big_freeV (h:Heap) (cpu a:Int) (hs:∀ z∈h.Zones,big64 z) : ∀ z∈(freeV h cpu a).2.Zones,big64 z:=by
 have h0:∀ z∈(⟨[],[],0,[],[]⟩ : Heap).Zones,big64 z:=fun z hz=>by simp at hz
 unfold freeV
 split
 ·split
  ·split
   ·simp only [freedV]
    split
    ·rename_i z0 z1 hz
     have hb:big64 z0∧big64 z1:=⟨hs _ (by rw [hz];simp),hs _ (by rw [hz];simp)⟩
     split
     ·exact big_two (big_backP (s:=(z0,z1)) hb _)
     ·unfold freedOne
      split
      ·exact big_two (big_backAll _ (s:=(z0,z1)) hb)
      ·exact big_two hb
    ·exact h0
   ·exact h0
  ·exact h0
 ·exact h0
structure HOk (h:Heap) : Prop where
 small:h.small
 big:∀ z∈h.Zones,big64 z
theorem HOk.free {h:Heap} (a:HOk h) (cpu at_:Int) : HOk (freeV h cpu at_).2:=⟨small_freeV h cpu at_ a.small,big_freeV h cpu at_ a.big⟩
def cutSlab (c:KCache) (k:Nat) : KCache:=⟨c.Names,c.Size,c.Per,c.Order,c.Slabs.eraseIdx k,c.Active⟩
def idleC (c:KCache) : KCache:=⟨c.Names,c.Size,c.Per,c.Order,c.Slabs,List.replicate c.Active.length (-1)⟩
noncomputable def shrinkF:Nat→Heap×KCache→Heap×KCache
 | 0,p=>p
 | k+1,p=>shrinkF k (if h:k<p.2.Slabs.length then (if p.2.Slabs[k].Free=p.2.Per then ((freeV p.1 0 p.2.Slabs[k].At).2,cutSlab p.2 k) else p) else p)
theorem shrinkF_cut {k:Nat} {h:Heap} {c:KCache} (hk:k<c.Slabs.length) (e:c.Slabs[k].Free=c.Per) : shrinkF (k+1) (h,c)=shrinkF k ((freeV h 0 c.Slabs[k].At).2,cutSlab c k):=by
 simp only [shrinkF,hk,dite_true,e,if_true]
theorem shrinkF_keep {k:Nat} {h:Heap} {c:KCache} (hk:k<c.Slabs.length) (e : ¬ c.Slabs[k].Free=c.Per) : shrinkF (k+1) (h,c)=shrinkF k (h,c):=by
 simp only [shrinkF,hk,dite_true,if_neg e]
def sysAt (s:KSystem) (i:Nat) (p:Heap×KCache) : KSystem:=⟨s.Words,p.1,s.Caches.set i p.2⟩
structure COk (c:KCache) : Prop where
 small:c.small
 at_:∀ x∈c.Slabs,-9223372036854775808≤x.At∧x.At≤9223372036854775807
theorem COk.cut {c:KCache} (h:COk c) (k:Nat) : COk (cutSlab c k):=by
 have h1:=h.small.slabs
 have h2:=List.length_eraseIdx_le c.Slabs k
 exact ⟨⟨h.small.names,by simp only [cutSlab];omega,h.small.active⟩,fun x hx=>h.at_ x (List.mem_of_mem_eraseIdx hx)⟩
theorem COk.idle {c:KCache} (h:COk c) : COk (idleC c):=⟨⟨h.small.names,h.small.slabs,by simp only [idleC,List.length_replicate];exact h.small.active⟩,h.at_⟩
theorem shrinkF_ok:∀ (k:Nat) {p:Heap×KCache},HOk p.1→COk p.2→HOk (shrinkF k p).1∧COk (shrinkF k p).2
 | 0,_,h1,h2=>⟨h1,h2⟩
 | k+1,(h,c),h1,h2=>by
  unfold shrinkF
  simp only
  split
  ·split
   ·exact shrinkF_ok k (h1.free _ _) (h2.cut _)
   ·exact shrinkF_ok k h1 h2
  ·exact shrinkF_ok k h1 h2
theorem KSystem.fine.hok {s:KSystem} (h:s.fine) : HOk s.Heap:=⟨h.small.heap,h.zones⟩
theorem KSystem.fine.cok {s:KSystem} (h:s.fine) {i:Nat} (hi:i<s.Caches.length) : COk s.Caches[i]:=⟨h.small.each _ (List.getElem_mem hi),h.slabs _ (List.getElem_mem hi)⟩
theorem small_sysAt {s:KSystem} (h:s.small) (i:Nat) {p:Heap×KCache} (h1:HOk p.1) (h2:COk p.2) : (sysAt s i p).small:=by
 refine ⟨h.words,h1.small,by simp only [sysAt,List.length_set];exact h.caches,fun c hc => ?_⟩
 rcases List.mem_or_eq_of_mem_set hc with hc|rfl
 ·exact h.each c hc
 ·exact h2.small
open Go.RowKit
theorem idxOf_first2 {α : Type} {p : α → Bool} {l:List α} (h:l.any p=true) : ∃ (i:Nat) (hi:i<l.length),p l[i]=true∧(∀ (j:Nat) (hj:j<l.length),j<i→p l[j]=false)∧idxOf p l=(i:Int):=by
 have h1:l.findIdx p<l.length:=List.findIdx_lt_length_of_exists (by simpa using h)
 exact ⟨l.findIdx p,h1,List.findIdx_getElem (w:=h1),fun j hj hji=>by simpa using List.not_of_lt_findIdx hji,by unfold idxOf;rw [if_pos h]⟩
noncomputable def askV (s:KSystem) (n:ByteArray) (cpu:Int) : Int:=if sysB s then (if s.Caches.any (hasN n) then (if 0≤cpu∧cpu<s.Heap.Cpus then 0 else 1) else 4) else 8
theorem askV_8 {s:KSystem} {n:ByteArray} {cpu:Int} (h:sysB s=false) : askV s n cpu=8:=by simp [askV,h]
theorem askV_4 {s:KSystem} {n:ByteArray} {cpu:Int} (h:sysB s=true) (h1:s.Caches.any (hasN n)=false) : askV s n cpu=4:=by simp only [askV,h,h1,if_true,Bool.false_eq_true,if_false]
theorem askV_1 {s:KSystem} {n:ByteArray} {cpu:Int} (h:sysB s=true) (h1:s.Caches.any (hasN n)=true) (h2 : ¬ (0≤cpu∧cpu<s.Heap.Cpus)) : askV s n cpu=1:=by simp only [askV,h,h1,if_true,if_neg h2]
theorem askV_0 {s:KSystem} {n:ByteArray} {cpu:Int} (h:sysB s=true) (h1:s.Caches.any (hasN n)=true) (h2 : 0≤cpu∧cpu<s.Heap.Cpus) : askV s n cpu=0:=by simp only [askV,h,h1,if_true,if_pos h2]
theorem askV_ok {s:KSystem} {n:ByteArray} {cpu:Int} (h:askV s n cpu=0) : sysB s=true∧s.Caches.any (hasN n)=true∧0≤cpu∧cpu<s.Heap.Cpus:=by
 unfold askV at h
 split at h
 ·rename_i h0
  split at h
  ·rename_i h1
   split at h
   ·rename_i h2
    exact ⟨h0,h1,h2⟩
   ·omega
  ·omega
 ·omega
def AskOut (lo:Nat) (s:KSystem) (n:ByteArray) (cpu:Int) (v:Value) (w:World) : Prop :=
 (askV s n cpu≠0∧v = .tuple #[.agg (encSys .zero).toArray,.int .i64 0,.int .i64 (askV s n cpu)]) ∨
 (askV s n cpu=0 ∧ ∃ q cs,v = .tuple #[.agg (encSys q).toArray,.int .i64 (idxOf (hasN n) s.Caches),.int .i64 0]∧SX w lo q s cs∧SI w lo q s cs)
theorem sysAt_len {s:KSystem} {i:Nat} {p:Heap×KCache}:(sysAt s i p).Caches.length=s.Caches.length:=List.length_set
theorem sysAt_self {s:KSystem} {i:Nat} (hi:i<s.Caches.length) : sysAt s i (s.Heap,s.Caches[i])=s:=by
 cases s
 simp [sysAt]
section
variable {w w':World} {lo:Nat} {r:SRow} {s:KSystem} {cs:List CRow} {i:Nat} {p:Heap×KCache}
theorem SXR.rows (h:SX w lo r (sysAt s i p) cs) : cs.length=s.Caches.length∧r.Caches.n=s.Caches.length:=by
 have h1:=h.row.len
 have h2:=h.each.len
 rw [sysAt_len] at h2
 omega
theorem SXR.get (h:SX w lo r (sysAt s i p) cs) (hi:i<cs.length) (hi':i<s.Caches.length) : OwnC w lo cs[i] p.2:=by
 have:=h.each.get i hi (by rw [sysAt_len];exact hi')
 simpa [sysAt] using this
theorem SXR.slabsAt {n':Nat} {l':List Slab} (h:SX w lo r (sysAt s i p) cs) (hi:i<cs.length) (hi':i<s.Caches.length) (hO:Own w' lo 46 3 encSb cs[i].Slabs.A n' cs[i].Slabs.c l') (hg:w.grownBy w' (ownB cs[i].Slabs.A cs[i].Slabs.c)) :
  SXR w' lo r (sysAt s i (p.1,⟨p.2.Names,p.2.Size,p.2.Per,p.2.Order,l',p.2.Active⟩)) cs (cs.set i ⟨cs[i].Names,cs[i].Size,cs[i].Per,cs[i].Order,⟨cs[i].Slabs.A,n',cs[i].Slabs.c⟩,cs[i].Active⟩):=by
 have:=h.slabs hi (by rw [sysAt_len];exact hi') hO hg
 simpa [sysAt] using this
theorem SXR.namesAt {n':Nat} {l':List ByteArray} (h:SX w lo r (sysAt s i p) cs) (hi:i<cs.length) (hi':i<s.Caches.length) (hO:Own w' lo 9 1 encStr cs[i].Names.A n' cs[i].Names.c l') (hg:w.grownBy w' (ownB cs[i].Names.A cs[i].Names.c)) :
  SXR w' lo r (sysAt s i (p.1,⟨l',p.2.Size,p.2.Per,p.2.Order,p.2.Slabs,p.2.Active⟩)) cs (cs.set i ⟨⟨cs[i].Names.A,n',cs[i].Names.c⟩,cs[i].Size,cs[i].Per,cs[i].Order,cs[i].Slabs,cs[i].Active⟩):=by
 have:=h.names hi (by rw [sysAt_len];exact hi') hO hg
 simpa [sysAt] using this
theorem SXR.newSlabsAt {n' c':Nat} {A':Option Addr} {l':List Slab} (h:SX w lo r (sysAt s i p) cs) (hlo:lo≤w.heap.size) (hi:i<cs.length) (hi':i<s.Caches.length) (hx:Ext w w') (hO:Own w' w.heap.size 46 3 encSb A' n' c' l') :
  SXR w' lo r (sysAt s i (p.1,⟨p.2.Names,p.2.Size,p.2.Per,p.2.Order,l',p.2.Active⟩)) cs (cs.set i ⟨cs[i].Names,cs[i].Size,cs[i].Per,cs[i].Order,⟨A',n',c'⟩,cs[i].Active⟩):=by
 have:=h.newSlabs hlo hi (by rw [sysAt_len];exact hi') hx hO
 simpa [sysAt] using this
theorem SXR.activeAt {l':List Int} (h:SX w lo r (sysAt s i p) cs) (hI:SI w lo r (sysAt s i p) cs) (hi:i<cs.length) (hi':i<s.Caches.length) (hO:Own w' lo 3 1 encI cs[i].Active.A cs[i].Active.n cs[i].Active.c l') (hg:w.grownBy w' (ownB cs[i].Active.A cs[i].Active.c)) :
  SX w' lo r (sysAt s i (p.1,⟨p.2.Names,p.2.Size,p.2.Per,p.2.Order,p.2.Slabs,l'⟩)) cs∧SI w' lo r (sysAt s i (p.1,⟨p.2.Names,p.2.Size,p.2.Per,p.2.Order,p.2.Slabs,l'⟩)) cs:=by
 have:=h.active hI hi (by rw [sysAt_len];exact hi') hO hg
 simpa [sysAt] using this
theorem SXR.heapAt {H:HRow} {h':Heap} {cs0:List CRow} (h:SXR w lo r (sysAt s i p) cs0 cs) (hH:OwnH w lo H h') : SXR w lo ⟨r.Words,H,r.Caches⟩ (sysAt s i (h',p.2)) cs0 cs:=⟨h.words,hH,h.row,h.each,h.pair⟩
end
end Go.Proofs.YtigikedbffjeiaaGreat
