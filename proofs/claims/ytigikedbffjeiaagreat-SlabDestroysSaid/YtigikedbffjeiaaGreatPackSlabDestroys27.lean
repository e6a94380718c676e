/-
  Texts of the claim SlabDestroys, part 27: what its theorem leans on.
-/
import Derived.Test.YtigikedbffjeiaaGreatPackSlabDestroys26
import Derived.Test.YtigikedbffjeiaaGreatPackSlabDestroys25
import Derived.Test.YtigikedbffjeiaaGreatPackSlabDestroys24
set_option linter.unusedVariables false
set_option linter.unusedSimpArgs false
namespace Go.Proofs.YtigikedbffjeiaaGreat
open Go.RowKit
theorem erase_take_ne {α : Type} {l:List α} {j k:Nat} (hj:j<l.length) (h:j≠k) : (l.take (j+1)).eraseIdx k=(l.take j).eraseIdx k++[l[j]]:=by
 rw [List.take_succ_eq_append_getElem hj]
 rcases Nat.lt_or_gt_of_ne h with g|g
 ·rw [List.eraseIdx_of_length_le (by simp;omega),List.eraseIdx_of_length_le (by simp;omega)]
 ·rw [List.eraseIdx_append_of_lt_length (by simp;omega)]
theorem erase_take_eq {α : Type} {l:List α} {k:Nat} (hk:k<l.length) : (l.take (k+1)).eraseIdx k=(l.take k).eraseIdx k:=by
 have e:(l.take k).length=k:=by simp;omega
 have h1:(l.take k).eraseIdx k=l.take k:=List.eraseIdx_of_length_le (by omega)
 rw [h1,List.take_succ_eq_append_getElem hk,List.eraseIdx_append_of_length_le (by omega),e,Nat.sub_self]
 simp
set_option maxHeartbeats 4000000 in
theorem dropSlab_ans (wb w0:World) (r:SRow) (s:KSystem) (cs:List CRow) (i k:Nat) (p:Heap×KCache) (cpu:Int)
  (hx:Ext wb w0) (hS:SX w0 wb.heap.size r (sysAt s i p) cs) (hi:i<s.Caches.length) (hn:s.Caches.length≤1000000) (hk:k<p.2.Slabs.length) (h1:HOk p.1) (h2:COk p.2) :
  AnsX Tryz.prog 28 [.agg (encSys r).toArray,.int .i64 (i:Int),.int .i64 (k:Int),.int .i64 cpu] w0 fun v w' => ∃ H cs',v = .agg (encSys ⟨r.Words,H,r.Caches⟩).toArray∧Ext wb w'∧SX w' wb.heap.size ⟨r.Words,H,r.Caches⟩ (sysAt s i ((freeV p.1 cpu p.2.Slabs[k].At).2,cutSlab p.2 k)) cs'∧w0.grownBy w' (ownB r.Caches.A r.Caches.c):=by
 refine ansx_of Tryz.func28 rfl Tryz.ntmps28 rfl ?_
 refine CW.seq (CW.region (SW.box rfl rfl fun b4 w1 hw hb4b hb4 => ?_))
 refine SW.alloc rfl fun b8 w3 hw3 hb8b hb8 => ?_
 have hb8w:w0.heap.size≤b8:=Nat.le_trans hw.size hb8b
 have hne48:b4≠b8:=by have:=hb4.lt;omega
 (replace hw:=Ext.trans hw hw3;replace hb4:=hb4.ext hw3)
 obtain ⟨e1,e2⟩:=hS.rows
 have hic:i<cs.length:=by omega
 have hin:i<r.Caches.n:=by omega
 have hAc:=hS.row.sl.base
 have hC:=hS.get hic hi
 have q1:=hC.slabs.len
 have q2:=h2.small.slabs
 have hks:k<cs[i].Slabs.n:=by omega
 have hAs:=hC.slabs.sl.base
 have hat:=h2.at_ _ (List.getElem_mem hk)
 obtain ⟨x,hxk⟩ : ∃ x,p.2.Slabs[k]=x:=⟨_,rfl⟩
 have gA:=hC.slabs.sl.fld hks (j:=0) (show (encSb (p.2.Slabs[k]'(by omega)))[0]?=some (Value.int .i64 x.At) by rw [hxk];rfl)
 rw [hxk] at hat ⊢
 obtain ⟨u,hu⟩ : ∃ u,cs[i]=u:=⟨_,rfl⟩
 have gS:=hS.row.sl.fld hin (j:=4) (show (encC cs[i])[4]?=some (Value.slice u.Slabs.A u.Slabs.n u.Slabs.c) by rw [hu];rfl)
 rw [hu] at hC q1 hks hAs gA
 try simp only at hC q1
 have hSl:=hC.slabs.sl
 have hS0:=hS
 replace hS:=hS.ext hw
 repeat' (first|(refine CW.seq ?_)|(refine Post.seq ?_)|refine SW.nil ?_)
 refine CW.anyF 18 19 (fun _=>True) mixed (by kernel_rfl) fun w1 hw1 hRB => ?_
 replace hw:=Ext.trans hw hw1;replace hb4:=hb4.ext hw1;replace hb8:=hb8.ext hw1;replace hS:=hS.ext hw1;clear hw1
 refine SF.take 0 [] [] hRB rfl (by kernel_rfl) (by kernel_rfl) (by kernel_rfl) ?_
 repeat ((show SW _ _ _ _ (⟨_,Op.fieldAddr _ _ _,_,_,_,none⟩::_) _ _;refine SW.st (st_field rfl) rfl ?_))
 refine SW.tknil ?_
 refine SF.take 1 [] [] hRB rfl (by kernel_rfl) (by kernel_rfl) (by kernel_rfl) ?_
 repeat ((show SW _ _ _ _ (⟨_,Op.load _ _,_,_,_,none⟩::_) _ _;refine SW.st (st_loads rfl rfl ((heapIn hb4))) rfl ?_))
 refine SW.tknil ?_
 refine SF.take 2 [] [] hRB rfl (by kernel_rfl) (by kernel_rfl) (by kernel_rfl) ?_
 repeat (refine SW.pure rfl rfl ?_)
 refine SW.tknil ?_
 refine SF.take 3 [] [] hRB rfl (by kernel_rfl) (by kernel_rfl) (by kernel_rfl) ?_
 repeat ((show SW _ _ _ _ (⟨_,Op.fieldAddr _ _ _,_,_,_,none⟩::_) _ _;refine SW.st (st_field rfl) rfl ?_))
 refine SW.tknil ?_
 refine SF.take 4 [] [] hRB rfl (by kernel_rfl) (by kernel_rfl) (by kernel_rfl) ?_
 repeat ((show SW _ _ _ _ (⟨_,Op.load _ _,_,_,_,none⟩::_) _ _;refine SW.st (st_load rfl (hb4.cell (i:=6) (v := .slice r.Caches.A r.Caches.n r.Caches.c) rfl)) rfl ?_))
 refine SW.tknil ?_
 refine SF.take 5 [] [] hRB rfl (by kernel_rfl) (by kernel_rfl) (by kernel_rfl) ?_
 repeat (refine SW.pure rfl rfl ?_)
 refine SW.tknil ?_
 refine SF.take 6 [] [] hRB rfl (by kernel_rfl) (by kernel_rfl) (by kernel_rfl) ?_
 repeat ((show SW _ _ _ _ (⟨_,Op.indexAddr _ _ _,_,_,_,none⟩::_) _ _;refine SW.st (st_indexN rfl rfl (by assumption) (by omega)) rfl ?_))
 refine SW.tknil ?_
 refine SF.take 7 [] [] hRB rfl (by kernel_rfl) (by kernel_rfl) (by kernel_rfl) ?_
 repeat ((show SW _ _ _ _ (⟨_,Op.fieldAddr _ _ _,_,_,_,none⟩::_) _ _;refine SW.st (st_field rfl) rfl ?_))
 refine SW.tknil ?_
 refine SF.take 8 [] [] hRB rfl (by kernel_rfl) (by kernel_rfl) (by kernel_rfl) ?_
 repeat ((show SW _ _ _ _ (⟨_,Op.load _ _,_,_,_,none⟩::_) _ _;refine SW.st (st_loadx hw rfl gS) rfl ?_))
 refine SW.tknil ?_
 refine SF.take 9 [] [] hRB rfl (by kernel_rfl) (by kernel_rfl) (by kernel_rfl) ?_
 repeat (refine SW.pure rfl rfl ?_)
 refine SW.tknil ?_
 refine SF.take 10 [] [] hRB rfl (by kernel_rfl) (by kernel_rfl) (by kernel_rfl) ?_
 repeat ((show SW _ _ _ _ (⟨_,Op.indexAddr _ _ _,_,_,_,none⟩::_) _ _;refine SW.st (st_indexN rfl rfl (by assumption) (by omega)) rfl ?_))
 refine SW.tknil ?_
 refine SF.take 11 [] [] hRB rfl (by kernel_rfl) (by kernel_rfl) (by kernel_rfl) ?_
 repeat ((show SW _ _ _ _ (⟨_,Op.fieldAddr _ _ _,_,_,_,none⟩::_) _ _;refine SW.st (st_field rfl) rfl ?_))
 refine SW.tknil ?_
 refine SF.take 12 [] [] hRB rfl (by kernel_rfl) (by kernel_rfl) (by kernel_rfl) ?_
 repeat ((show SW _ _ _ _ (⟨_,Op.load _ _,_,_,_,none⟩::_) _ _;refine SW.st (st_loadx hw rfl gA) rfl ?_))
 refine SW.tknil ?_
 refine SF.two 13 17 rfl rfl (by kernel_rfl) rfl rfl ?_ ?_
 ·refine SW.call rfl rfl (HeapFree_ans r.Heap p.1 cpu x.At _ hS.heap.rd h1.small h1.big hat) fun v w4 hXX hv => ?_
  obtain ⟨H,rfl,hH⟩:=hv
  replace hH:=hH.low hw.size
  (replace hw:=Ext.trans hw hXX;replace hb4:=hb4.ext hXX;replace hb8:=hb8.ext hXX;replace hS:=hS.ext hXX)
  try replace hb9:=hb9.ext hXX
  refine SW.nil (Post.sf hXX ?_)
  refine SF.take 14 [] [] hRB rfl (by kernel_rfl) (by kernel_rfl) (by kernel_rfl) ?_
  repeat (refine SW.pure rfl rfl ?_)
  refine SW.tknil ?_
  refine SF.take 15 [] [] hRB rfl (by kernel_rfl) (by kernel_rfl) (by kernel_rfl) ?_
  repeat (refine SW.pure rfl rfl ?_)
  refine SW.tknil ?_
  refine SF.take2 16 [] hRB rfl (by kernel_rfl) (by kernel_rfl) (by kernel_rfl) (pureV_st rfl) (fun w2 hS=>pureV_st rfl) rfl ?_
  refine SF.one 17 rfl (by kernel_rfl) rfl ?_
  refine SW.alloc rfl fun b9 w4 hXX hb9b hb9 => ?_
  have hb9w:w0.heap.size≤b9:=Nat.le_trans hw.size hb9b
  try replace hH:=hH.ext hXX
  (replace hw:=Ext.trans hw hXX;replace hb4:=hb4.ext hXX;replace hb8:=hb8.ext hXX;replace hS:=hS.ext hXX)
  refine SW.nil (Post.sf hXX ?_)
  refine SF.turn rfl (by kernel_rfl) rfl ?_
  refine SW.storeAgg hb9 rfl rfl rfl rfl (one_h H) fun w5 hb9' hg => ?_
  have hG:=hb9.gr hg
  replace hw:=hw.own hb9w hg
  (replace hb4:=hb4.grT hG rfl;replace hb8:=hb8.grT hG rfl;replace hH:=hH.grT hG rfl;replace hS:=hS.grT hG rfl)
  replace hb9:=hb9'
  clear hb9' hg hG
  have hX8:=hS
  have hS:True:=trivial
  refine SW.nil (Post.sg hS ?_)
  refine SG.last rfl (by kernel_rfl) (by kernel_rfl) ?_
  replace hS:=hX8
  clear hX8
  repeat' (first|(first|refine CW.seq ?_|refine CW.region ?_)|(first|refine Post.seq ?_|refine Post.np ?_)|refine SW.nil ?_|refine SW.pure rfl rfl ?_|(show SW _ _ _ _ (⟨_,Op.fieldAddr _ _ _,_,_,_,none⟩::_) _ _;refine SW.st (st_field rfl) rfl ?_)|(show SW _ _ _ _ (⟨_,Op.load _ _,_,_,_,none⟩::_) _ _;refine SW.st (st_loads rfl rfl ((fun _ _=>hb9.cell))) rfl ?_))
  refine SW.storePart 1 hb4 rfl rfl rfl (Nat.le_of_ble_eq_true rfl) (one_h H) (encSys ⟨r.Words,H,r.Caches⟩) rfl fun w6 hb4' hg => ?_
  have hG:=hb4.gr hg
  replace hb8:=hb8.grown hg (by simpa using hne48.symm)
  replace hw:=hw.own hb4b hg
  replace hH:=hH.grT hG rfl
  replace hS:=hS.grT hG rfl
  replace hb4:=hb4'
  clear hb4' hg hG
  repeat' (first|(first|refine CW.seq ?_|refine CW.region ?_|refine CW.block ?_)|(refine Post.seq ?_)|refine SW.nil ?_|refine SW.pure rfl rfl ?_)
  have hwB:Ext w0 w6:=hw
  refine CW.loop (fun t:Nat×Nat×Option Addr×Nat=>[(1,.int .i64 (i:Int)),(2,.int .i64 (k:Int)),(4,.pointer (some ⟨b4,0,none⟩)),(8,.pointer (some ⟨b8,0,none⟩)),(11,.slice t.2.2.1 t.2.1 t.2.2.2),(12,.int .i64 (t.1:Int))])
   (fun t w'=>t.1≤u.Slabs.n∧t.2.1≤t.1∧Ext w6 w'∧Own w' w6.heap.size 46 3 encSb t.2.2.1 t.2.1 t.2.2.2 ((p.2.Slabs.take t.1).eraseIdx k)) (fun t=>u.Slabs.n-t.1) (0,0,none,0) ⟨rfl,rfl,rfl,rfl,rfl,rfl,trivial⟩ ⟨Nat.zero_le _,Nat.zero_le _,Ext.refl _,by simpa using Own.nil_ _ _ _ _ _ _⟩ ?_
  clear hw
  rintro ⟨j,m,A,c⟩ w7 ⟨hj,hm,hw,hL⟩
  simp only at hj hm hL ⊢
  have gC:=hb4.cell (i:=6) (v := .slice r.Caches.A r.Caches.n r.Caches.c) rfl
  have gS6:=hwB.cell gS
  have hSl6:=hSl.ext hwB
  by_cases hjn:j<u.Slabs.n
  ·have hjl:j<p.2.Slabs.length:=by omega
   by_cases hjk:j=k
   ·subst hjk
    repeat' (first|(first|refine CW.seq ?_|refine CW.region ?_|refine CW.block ?_|refine CW.condd_t rfl (by omega) ?_|refine CW.condn_f rfl (by omega) ?_|refine CW.skip ?_)|(first|refine Post.seq ?_|refine Post.blk ?_)|refine SW.nil ?_|refine SW.pure rfl rfl ?_|(show SW _ _ _ _ (⟨_,Op.fieldAddr _ _ _,_,_,_,none⟩::_) _ _;refine SW.st (st_field rfl) rfl ?_)|(show SW _ _ _ _ (⟨_,Op.binOp _ _ _ _ _,_,_,_,none⟩::_) _ _;refine SW.st (st_add rfl rfl (by omega) (by omega)) rfl ?_)|(show SW _ _ _ _ (⟨_,Op.indexAddr _ _ _,_,_,_,none⟩::_) _ _;refine SW.st (st_indexN rfl rfl (by assumption) (by omega)) rfl ?_)|(show SW _ _ _ _ (⟨_,Op.call ⟨.builtin .len,_,_⟩,_,_,_,none⟩::_) _ _;refine SW.st (st_len rfl) rfl ?_)|(show SW _ _ _ _ (⟨_,Op.load _ _,_,_,_,none⟩::_) _ _;first|refine SW.st (st_loadx hw rfl gC) rfl ?_|refine SW.st (st_loadx hw rfl gS6) rfl ?_))
    refine Post.again (j+1,m,A,c) ⟨rfl,rfl,rfl,rfl,rfl,rfl,trivial⟩ (by simp only;omega) ⟨by simp only;omega,by simp only;omega,hw,?_⟩
    simp only
    rw [erase_take_eq hjl]
    exact hL
   ·repeat' (first|(first|refine CW.seq ?_|refine CW.region ?_|refine CW.block ?_|refine CW.condd_t rfl (by omega) ?_|refine CW.condn_t rfl (by omega) ?_|refine CW.skip ?_)|(refine Post.seq ?_)|refine SW.nil ?_|refine SW.pure rfl rfl ?_|(show SW _ _ _ _ (⟨_,Op.fieldAddr _ _ _,_,_,_,none⟩::_) _ _;refine SW.st (st_field rfl) rfl ?_)|(show SW _ _ _ _ (⟨_,Op.indexAddr _ _ _,_,_,_,none⟩::_) _ _;refine SW.st (st_indexN rfl rfl (by assumption) (by omega)) rfl ?_)|(show SW _ _ _ _ (⟨_,Op.call ⟨.builtin .len,_,_⟩,_,_,_,none⟩::_) _ _;refine SW.st (st_len rfl) rfl ?_)|(show SW _ _ _ _ (⟨_,Op.load _ _,_,_,_,none⟩::_) _ _;first|refine SW.st (st_loadx hw rfl gC) rfl ?_|refine SW.st (st_loadx hw rfl gS6) rfl ?_|refine SW.st (st_loadsx hw rfl rfl ((hSl6.all hjn))) rfl ?_))
    refine SW.build1 rfl rfl rfl rfl rfl fun b w8 hXX hb hBb => ?_
    (replace hw:=Ext.trans hw hXX;replace hL:=hL.ext hXX)
    refine SW.append hL (Blk.sl1 (enc:=encSb) hBb) hw.size rfl rfl rfl (by omega) (by omega) fun A2 c2 w9 hO1 hg => ?_
    replace hw:=ext_grown hw hg (Nat.le_refl _) hL.row_ge
    repeat' (first|(refine CW.region ?_)|(first|refine Post.seq ?_|refine Post.blk ?_)|refine SW.nil ?_|refine SW.pure rfl rfl ?_|(show SW _ _ _ _ (⟨_,Op.binOp _ _ _ _ _,_,_,_,none⟩::_) _ _;refine SW.st (st_add rfl rfl (by omega) (by omega)) rfl ?_))
    refine Post.again (j+1,m+1,A2,c2) ⟨rfl,rfl,rfl,rfl,rfl,rfl,trivial⟩ (by simp only;omega) ⟨by simp only;omega,by simp only;omega,hw,?_⟩
    simp only
    rw [erase_take_ne hjl hjk]
    exact hO1
  ·obtain rfl:j=u.Slabs.n:=by omega
   rw [List.take_of_length_le (by omega)] at hL
   repeat' (first|(first|refine CW.seq ?_|refine CW.region ?_|refine CW.condd_f rfl (by omega) ?_|refine CW.exit ?_)|(first|refine Post.seq ?_|refine Post.seq_exit ?_|refine Post.hit ?_|refine Post.again_exit ?_)|refine SW.nil ?_|refine SW.pure rfl rfl ?_|(show SW _ _ _ _ (⟨_,Op.fieldAddr _ _ _,_,_,_,none⟩::_) _ _;refine SW.st (st_field rfl) rfl ?_)|(show SW _ _ _ _ (⟨_,Op.indexAddr _ _ _,_,_,_,none⟩::_) _ _;refine SW.st (st_indexN rfl rfl (by assumption) (by omega)) rfl ?_)|(show SW _ _ _ _ (⟨_,Op.call ⟨.builtin .len,_,_⟩,_,_,_,none⟩::_) _ _;refine SW.st (st_len rfl) rfl ?_)|(show SW _ _ _ _ (⟨_,Op.load _ _,_,_,_,none⟩::_) _ _;first|refine SW.st (st_loadx hw rfl gC) rfl ?_|refine SW.st (st_loadx hw rfl gS6) rfl ?_))
   have hS7:=(hS.heapAt (hH.low hx.size)).newSlabsAt (Nat.le_trans hx.size hwB.size) hic hi hw hL
   have hrow:=hS7.row
   have hb4':=hb4.ext hw
   have hb8':=hb8.ext hw
   refine SW.storeO i 4 ⟨cs[i].Names,cs[i].Size,cs[i].Per,cs[i].Order,⟨A,m,c⟩,cs[i].Active⟩ hrow rfl rfl rfl hin (by decide) rfl rfl fun w10 hrow' hg7 => ?_
   have hG7:=hrow.gr hg7
   have hS8:=hS7.rowSet hrow' hg7
   have hgg:=(hwB.trans hw).gr (ownB r.Caches.A r.Caches.c)
   have hgg2:=grown_trans hgg hg7 (.inl rfl)
   (replace hb4':=hb4'.grT hG7 rfl;replace hb8':=hb8'.grT hG7 rfl)
   repeat' (first|(first|refine CW.seq ?_|refine CW.region ?_)|(refine Post.seq ?_)|refine SW.nil ?_|(show SW _ _ _ _ (⟨_,Op.load _ _,_,_,_,none⟩::_) _ _;refine SW.st (st_loads rfl rfl ((fun _ _=>hb4'.cell))) rfl ?_))
   refine SW.storeAgg hb8' rfl rfl rfl rfl (one_s ⟨r.Words,H,r.Caches⟩) fun w11 hR2 hg => ?_
   have hG:=hb8'.gr hg
   repeat' (first|(refine CW.ret ?_)|(refine Post.seq ?_)|refine SW.nil ?_)
   refine Post.ret1c rfl rfl hR2 rfl ⟨_,rfl,H,_,rfl,?_,hS8.grT hG rfl,?_⟩
   ·exact (ext_grown (hx.trans (hwB.trans hw)) hg7 (Nat.le_refl _) hrow.row_ge).own (Nat.le_trans hx.size hb8w) hg
   ·exact grown_trans hgg2 hg (.inr fun i e=>by cases e;exact hb8w)
 ·refine SW.alloc rfl fun b9 w4 hXX hb9b hb9 => ?_
  have hb9w:w0.heap.size≤b9:=Nat.le_trans hw.size hb9b
  try replace hH:=hH.ext hXX
  (replace hw:=Ext.trans hw hXX;replace hb4:=hb4.ext hXX;replace hb8:=hb8.ext hXX;replace hS:=hS.ext hXX)
  refine SW.nil (Post.sf hXX ?_)
  refine SF.one 13 rfl (by kernel_rfl) rfl ?_
  refine SW.call rfl rfl (HeapFree_ans r.Heap p.1 cpu x.At _ hS.heap.rd h1.small h1.big hat) fun v w4 hXX hv => ?_
  obtain ⟨H,rfl,hH⟩:=hv
  replace hH:=hH.low hw.size
  (replace hw:=Ext.trans hw hXX;replace hb4:=hb4.ext hXX;replace hb8:=hb8.ext hXX;replace hS:=hS.ext hXX)
  try replace hb9:=hb9.ext hXX
  refine SW.nil (Post.sf hXX ?_)
  refine SF.take 14 [] [] hRB rfl (by kernel_rfl) (by kernel_rfl) (by kernel_rfl) ?_
  repeat (refine SW.pure rfl rfl ?_)
  refine SW.tknil ?_
  refine SF.take 15 [] [] hRB rfl (by kernel_rfl) (by kernel_rfl) (by kernel_rfl) ?_
  repeat (refine SW.pure rfl rfl ?_)
  refine SW.tknil ?_
  refine SF.take2 16 [] hRB rfl (by kernel_rfl) (by kernel_rfl) (by kernel_rfl) (pureV_st rfl) (fun w2 hS=>pureV_st rfl) rfl ?_
  refine SF.turn rfl (by kernel_rfl) rfl ?_
  refine SW.storeAgg hb9 rfl rfl rfl rfl (one_h H) fun w5 hb9' hg => ?_
  have hG:=hb9.gr hg
  replace hw:=hw.own hb9w hg
  (replace hb4:=hb4.grT hG rfl;replace hb8:=hb8.grT hG rfl;replace hH:=hH.grT hG rfl;replace hS:=hS.grT hG rfl)
  replace hb9:=hb9'
  clear hb9' hg hG
  have hX8:=hS
  have hS:True:=trivial
  refine SW.nil (Post.sg hS ?_)
  refine SG.last rfl (by kernel_rfl) (by kernel_rfl) ?_
  replace hS:=hX8
  clear hX8
  repeat' (first|(first|refine CW.seq ?_|refine CW.region ?_)|(first|refine Post.seq ?_|refine Post.np ?_)|refine SW.nil ?_|refine SW.pure rfl rfl ?_|(show SW _ _ _ _ (⟨_,Op.fieldAddr _ _ _,_,_,_,none⟩::_) _ _;refine SW.st (st_field rfl) rfl ?_)|(show SW _ _ _ _ (⟨_,Op.load _ _,_,_,_,none⟩::_) _ _;refine SW.st (st_loads rfl rfl ((fun _ _=>hb9.cell))) rfl ?_))
  refine SW.storePart 1 hb4 rfl rfl rfl (Nat.le_of_ble_eq_true rfl) (one_h H) (encSys ⟨r.Words,H,r.Caches⟩) rfl fun w6 hb4' hg => ?_
  have hG:=hb4.gr hg
  replace hb8:=hb8.grown hg (by simpa using hne48.symm)
  replace hw:=hw.own hb4b hg
  replace hH:=hH.grT hG rfl
  replace hS:=hS.grT hG rfl
  replace hb4:=hb4'
  clear hb4' hg hG
  repeat' (first|(first|refine CW.seq ?_|refine CW.region ?_|refine CW.block ?_)|(refine Post.seq ?_)|refine SW.nil ?_|refine SW.pure rfl rfl ?_)
  have hwB:Ext w0 w6:=hw
  refine CW.loop (fun t:Nat×Nat×Option Addr×Nat=>[(1,.int .i64 (i:Int)),(2,.int .i64 (k:Int)),(4,.pointer (some ⟨b4,0,none⟩)),(8,.pointer (some ⟨b8,0,none⟩)),(11,.slice t.2.2.1 t.2.1 t.2.2.2),(12,.int .i64 (t.1:Int))])
   (fun t w'=>t.1≤u.Slabs.n∧t.2.1≤t.1∧Ext w6 w'∧Own w' w6.heap.size 46 3 encSb t.2.2.1 t.2.1 t.2.2.2 ((p.2.Slabs.take t.1).eraseIdx k)) (fun t=>u.Slabs.n-t.1) (0,0,none,0) ⟨rfl,rfl,rfl,rfl,rfl,rfl,trivial⟩ ⟨Nat.zero_le _,Nat.zero_le _,Ext.refl _,by simpa using Own.nil_ _ _ _ _ _ _⟩ ?_
  clear hw
  rintro ⟨j,m,A,c⟩ w7 ⟨hj,hm,hw,hL⟩
  simp only at hj hm hL ⊢
  have gC:=hb4.cell (i:=6) (v := .slice r.Caches.A r.Caches.n r.Caches.c) rfl
  have gS6:=hwB.cell gS
  have hSl6:=hSl.ext hwB
  by_cases hjn:j<u.Slabs.n
  ·have hjl:j<p.2.Slabs.length:=by omega
   by_cases hjk:j=k
   ·subst hjk
    repeat' (first|(first|refine CW.seq ?_|refine CW.region ?_|refine CW.block ?_|refine CW.condd_t rfl (by omega) ?_|refine CW.condn_f rfl (by omega) ?_|refine CW.skip ?_)|(first|refine Post.seq ?_|refine Post.blk ?_)|refine SW.nil ?_|refine SW.pure rfl rfl ?_|(show SW _ _ _ _ (⟨_,Op.fieldAddr _ _ _,_,_,_,none⟩::_) _ _;refine SW.st (st_field rfl) rfl ?_)|(show SW _ _ _ _ (⟨_,Op.binOp _ _ _ _ _,_,_,_,none⟩::_) _ _;refine SW.st (st_add rfl rfl (by omega) (by omega)) rfl ?_)|(show SW _ _ _ _ (⟨_,Op.indexAddr _ _ _,_,_,_,none⟩::_) _ _;refine SW.st (st_indexN rfl rfl (by assumption) (by omega)) rfl ?_)|(show SW _ _ _ _ (⟨_,Op.call ⟨.builtin .len,_,_⟩,_,_,_,none⟩::_) _ _;refine SW.st (st_len rfl) rfl ?_)|(show SW _ _ _ _ (⟨_,Op.load _ _,_,_,_,none⟩::_) _ _;first|refine SW.st (st_loadx hw rfl gC) rfl ?_|refine SW.st (st_loadx hw rfl gS6) rfl ?_))
    refine Post.again (j+1,m,A,c) ⟨rfl,rfl,rfl,rfl,rfl,rfl,trivial⟩ (by simp only;omega) ⟨by simp only;omega,by simp only;omega,hw,?_⟩
    simp only
    rw [erase_take_eq hjl]
    exact hL
   ·repeat' (first|(first|refine CW.seq ?_|refine CW.region ?_|refine CW.block ?_|refine CW.condd_t rfl (by omega) ?_|refine CW.condn_t rfl (by omega) ?_|refine CW.skip ?_)|(refine Post.seq ?_)|refine SW.nil ?_|refine SW.pure rfl rfl ?_|(show SW _ _ _ _ (⟨_,Op.fieldAddr _ _ _,_,_,_,none⟩::_) _ _;refine SW.st (st_field rfl) rfl ?_)|(show SW _ _ _ _ (⟨_,Op.indexAddr _ _ _,_,_,_,none⟩::_) _ _;refine SW.st (st_indexN rfl rfl (by assumption) (by omega)) rfl ?_)|(show SW _ _ _ _ (⟨_,Op.call ⟨.builtin .len,_,_⟩,_,_,_,none⟩::_) _ _;refine SW.st (st_len rfl) rfl ?_)|(show SW _ _ _ _ (⟨_,Op.load _ _,_,_,_,none⟩::_) _ _;first|refine SW.st (st_loadx hw rfl gC) rfl ?_|refine SW.st (st_loadx hw rfl gS6) rfl ?_|refine SW.st (st_loadsx hw rfl rfl ((hSl6.all hjn))) rfl ?_))
    refine SW.build1 rfl rfl rfl rfl rfl fun b w8 hXX hb hBb => ?_
    (replace hw:=Ext.trans hw hXX;replace hL:=hL.ext hXX)
    refine SW.append hL (Blk.sl1 (enc:=encSb) hBb) hw.size rfl rfl rfl (by omega) (by omega) fun A2 c2 w9 hO1 hg => ?_
    replace hw:=ext_grown hw hg (Nat.le_refl _) hL.row_ge
    repeat' (first|(refine CW.region ?_)|(first|refine Post.seq ?_|refine Post.blk ?_)|refine SW.nil ?_|refine SW.pure rfl rfl ?_|(show SW _ _ _ _ (⟨_,Op.binOp _ _ _ _ _,_,_,_,none⟩::_) _ _;refine SW.st (st_add rfl rfl (by omega) (by omega)) rfl ?_))
    refine Post.again (j+1,m+1,A2,c2) ⟨rfl,rfl,rfl,rfl,rfl,rfl,trivial⟩ (by simp only;omega) ⟨by simp only;omega,by simp only;omega,hw,?_⟩
    simp only
    rw [erase_take_ne hjl hjk]
    exact hO1
  ·obtain rfl:j=u.Slabs.n:=by omega
   rw [List.take_of_length_le (by omega)] at hL
   repeat' (first|(first|refine CW.seq ?_|refine CW.region ?_|refine CW.condd_f rfl (by omega) ?_|refine CW.exit ?_)|(first|refine Post.seq ?_|refine Post.seq_exit ?_|refine Post.hit ?_|refine Post.again_exit ?_)|refine SW.nil ?_|refine SW.pure rfl rfl ?_|(show SW _ _ _ _ (⟨_,Op.fieldAddr _ _ _,_,_,_,none⟩::_) _ _;refine SW.st (st_field rfl) rfl ?_)|(show SW _ _ _ _ (⟨_,Op.indexAddr _ _ _,_,_,_,none⟩::_) _ _;refine SW.st (st_indexN rfl rfl (by assumption) (by omega)) rfl ?_)|(show SW _ _ _ _ (⟨_,Op.call ⟨.builtin .len,_,_⟩,_,_,_,none⟩::_) _ _;refine SW.st (st_len rfl) rfl ?_)|(show SW _ _ _ _ (⟨_,Op.load _ _,_,_,_,none⟩::_) _ _;first|refine SW.st (st_loadx hw rfl gC) rfl ?_|refine SW.st (st_loadx hw rfl gS6) rfl ?_))
   have hS7:=(hS.heapAt (hH.low hx.size)).newSlabsAt (Nat.le_trans hx.size hwB.size) hic hi hw hL
   have hrow:=hS7.row
   have hb4':=hb4.ext hw
   have hb8':=hb8.ext hw
   refine SW.storeO i 4 ⟨cs[i].Names,cs[i].Size,cs[i].Per,cs[i].Order,⟨A,m,c⟩,cs[i].Active⟩ hrow rfl rfl rfl hin (by decide) rfl rfl fun w10 hrow' hg7 => ?_
   have hG7:=hrow.gr hg7
   have hS8:=hS7.rowSet hrow' hg7
   have hgg:=(hwB.trans hw).gr (ownB r.Caches.A r.Caches.c)
   have hgg2:=grown_trans hgg hg7 (.inl rfl)
   (replace hb4':=hb4'.grT hG7 rfl;replace hb8':=hb8'.grT hG7 rfl)
   repeat' (first|(first|refine CW.seq ?_|refine CW.region ?_)|(refine Post.seq ?_)|refine SW.nil ?_|(show SW _ _ _ _ (⟨_,Op.load _ _,_,_,_,none⟩::_) _ _;refine SW.st (st_loads rfl rfl ((fun _ _=>hb4'.cell))) rfl ?_))
   refine SW.storeAgg hb8' rfl rfl rfl rfl (one_s ⟨r.Words,H,r.Caches⟩) fun w11 hR2 hg => ?_
   have hG:=hb8'.gr hg
   repeat' (first|(refine CW.ret ?_)|(refine Post.seq ?_)|refine SW.nil ?_)
   refine Post.ret1c rfl rfl hR2 rfl ⟨_,rfl,H,_,rfl,?_,hS8.grT hG rfl,?_⟩
   ·exact (ext_grown (hx.trans (hwB.trans hw)) hg7 (Nat.le_refl _) hrow.row_ge).own (Nat.le_trans hx.size hb8w) hg
   ·exact grown_trans hgg2 hg (.inr fun i e=>by cases e;exact hb8w)
set_option maxHeartbeats 4000000 in
theorem shrunk_ans (wb w0:World) (r:SRow) (s:KSystem) (cs:List CRow) (i:Nat) (hf:s.fine)
  (hx:Ext wb w0) (hS:SX w0 wb.heap.size r s cs) (hI:SI w0 wb.heap.size r s cs) (hi:i<s.Caches.length) (hn:s.Caches.length≤1000000) :
  AnsX Tryz.prog 19 [.agg (encSys r).toArray,.int .i64 (i:Int)] w0 fun v w' => ∃ H cs',v = .agg (encSys ⟨r.Words,H,r.Caches⟩).toArray∧Ext wb w'∧SX w' wb.heap.size ⟨r.Words,H,r.Caches⟩ (sysAt s i (shrinkF s.Caches[i].Slabs.length (s.Heap,idleC s.Caches[i]))) cs'∧(∀ j x,Blk w0 j 30 x→Blk w' j 30 x):=by
 refine ansx_of Tryz.func19 rfl Tryz.ntmps19 rfl ?_
 refine CW.seq (CW.region (SW.box rfl rfl fun b2 w1 hw hb2b hb2 => ?_))
 refine SW.alloc rfl fun b4 w3 hw3 hb4b hb4 => ?_
 have hb4w:w0.heap.size≤b4:=Nat.le_trans hw.size hb4b
 have hne:b4≠b2:=by have:=hb2.lt;omega
 (replace hw:=Ext.trans hw hw3;replace hb2:=hb2.ext hw3)
 have h1:=hf.hok
 have h2:=hf.cok hi
 have e0:=sysAt_self hi
 obtain ⟨c,hc⟩ : ∃ c,s.Caches[i]=c:=⟨_,rfl⟩
 rw [hc] at h2 e0 ⊢
 rw [← e0] at hS hI
 obtain ⟨e1,e2⟩:=hS.rows
 have hic:i<cs.length:=by omega
 have hin:i<r.Caches.n:=by omega
 have hAc:=hS.row.sl.base
 have hC:=hS.get hic hi
 have q1:=hC.active.len
 have q2:=h2.small.active
 have q3:=hC.slabs.len
 have q4:=h2.small.slabs
 obtain ⟨u,hu⟩ : ∃ u,cs[i]=u:=⟨_,rfl⟩
 rw [hu] at hC q1 q3
 simp only at q1 q3
 clear hC
 replace hS:=hS.ext hw
 replace hI:=hI.ext hw
 have hbw2:wb.heap.size≤b2:=Nat.le_trans hx.size hb2b
 have hbw4:wb.heap.size≤b4:=Nat.le_trans hx.size hb4w
 replace hx:=hx.trans hw
 have hkp:∀ j x,Blk w0 j 30 x→Blk w3 j 30 x:=fun j x h=>h.ext hw
 repeat' (first|(first|refine CW.seq ?_|refine CW.region ?_|refine CW.block ?_)|(refine Post.seq ?_)|refine SW.nil ?_|refine SW.pure rfl rfl ?_)
 obtain ⟨K,hK⟩ : ∃ K:Env→World→Prop,K=fun L' w'=>subEnv L' [(1,.int .i64 (i:Int)),(2,.pointer (some ⟨b2,0,none⟩)),(4,.pointer (some ⟨b4,0,none⟩))]∧Ext wb w'∧Blk w' b2 30 (encSys r)∧Blk w' b4 30 (encSys .zero)∧SX w' wb.heap.size r (sysAt s i (s.Heap,idleC c)) cs∧(∀ j x,Blk w0 j 30 x→Blk w' j 30 x):=⟨_,rfl⟩
 refine CW.cutb K ?_ ?_
 ·refine CW.loop (fun k:Nat=>[(1,.int .i64 (i:Int)),(2,.pointer (some ⟨b2,0,none⟩)),(4,.pointer (some ⟨b4,0,none⟩)),(5,.int .i64 (k:Int))])
   (fun k w'=>k≤u.Active.n∧Ext wb w'∧Blk w' b2 30 (encSys r)∧Blk w' b4 30 (encSys .zero)∧SX w' wb.heap.size r (sysAt s i (s.Heap,⟨c.Names,c.Size,c.Per,c.Order,c.Slabs,List.replicate k (-1)++c.Active.drop k⟩)) cs∧SI w' wb.heap.size r (sysAt s i (s.Heap,⟨c.Names,c.Size,c.Per,c.Order,c.Slabs,List.replicate k (-1)++c.Active.drop k⟩)) cs∧(∀ j x,Blk w0 j 30 x→Blk w' j 30 x)) (fun k=>u.Active.n-k) 0
   ⟨rfl,rfl,rfl,rfl,trivial⟩ ⟨by omega,hx,hb2,hb4,by simpa using hS,by simpa using hI,hkp⟩ ?_
  clear hw hx hb2 hb4 hS hI hkp
  rintro k w1 ⟨hk,hx,hb2,hb4,hS,hI,hkp⟩
  have hw:=Ext.refl w1
  have hC:=hS.get hic hi
  rw [hu] at hC
  have hAa:=hC.active.sl.base
  have gC:=hb2.cell (i:=6) (v := .slice r.Caches.A r.Caches.n r.Caches.c) rfl
  have gS:=hS.row.sl.fld hin (j:=5) (show (encC cs[i])[5]?=some (Value.slice u.Active.A u.Active.n u.Active.c) by rw [hu];rfl)
  by_cases hkn:k<u.Active.n
  ·repeat' (first|(first|refine CW.seq ?_|refine CW.region ?_|refine CW.block ?_|refine CW.condd_t rfl (by omega) ?_|refine CW.skip ?_)|(refine Post.seq ?_)|refine SW.nil ?_|refine SW.pure rfl rfl ?_|(show SW _ _ _ _ (⟨_,Op.fieldAddr _ _ _,_,_,_,none⟩::_) _ _;refine SW.st (st_field rfl) rfl ?_)|(show SW _ _ _ _ (⟨_,Op.indexAddr _ _ _,_,_,_,none⟩::_) _ _;refine SW.st (st_indexN rfl rfl (by assumption) (by omega)) rfl ?_)|(show SW _ _ _ _ (⟨_,Op.call ⟨.builtin .len,_,_⟩,_,_,_,none⟩::_) _ _;refine SW.st (st_len rfl) rfl ?_)|(show SW _ _ _ _ (⟨_,Op.load _ _,_,_,_,none⟩::_) _ _;first|refine SW.st (st_load rfl gC) rfl ?_|refine SW.st (st_load rfl gS) rfl ?_))
   refine SW.storeI k hC.active rfl rfl hkn fun w2 hO hg => ?_
   have hG:=hC.active.gr hg
   simp only at hO
   rw [idle_step (by omega)] at hO
   have hSI:=hS.activeAt hI hic hi (by rw [hu];exact hO) (by rw [hu];exact hg)
   replace hx:=ext_grown hx hg (Nat.le_refl _) hC.active.row_ge
   (replace hb2:=hb2.grT hG rfl;replace hb4:=hb4.grT hG rfl)
   repeat' (first|(refine CW.region ?_)|(first|refine Post.seq ?_|refine Post.blk ?_)|refine SW.nil ?_|refine SW.pure rfl rfl ?_|(show SW _ _ _ _ (⟨_,Op.binOp _ _ _ _ _,_,_,_,none⟩::_) _ _;refine SW.st (st_add rfl rfl (by omega) (by omega)) rfl ?_))
   exact Post.again (k+1) ⟨rfl,rfl,rfl,rfl,trivial⟩ (by omega) ⟨by omega,hx,hb2,hb4,hSI.1,hSI.2,fun j x h=>(hkp j x h).grT hG rfl⟩
  ·obtain rfl:k=u.Active.n:=by omega
   repeat' (first|(first|refine CW.seq ?_|refine CW.region ?_|refine CW.condd_f rfl (by omega) ?_|refine CW.exit ?_)|(first|refine Post.seq ?_|refine Post.seq_exit ?_|refine Post.hit ?_|refine Post.again_exit ?_)|refine SW.nil ?_|refine SW.pure rfl rfl ?_|(show SW _ _ _ _ (⟨_,Op.fieldAddr _ _ _,_,_,_,none⟩::_) _ _;refine SW.st (st_field rfl) rfl ?_)|(show SW _ _ _ _ (⟨_,Op.indexAddr _ _ _,_,_,_,none⟩::_) _ _;refine SW.st (st_indexN rfl rfl (by assumption) (by omega)) rfl ?_)|(show SW _ _ _ _ (⟨_,Op.call ⟨.builtin .len,_,_⟩,_,_,_,none⟩::_) _ _;refine SW.st (st_len rfl) rfl ?_)|(show SW _ _ _ _ (⟨_,Op.load _ _,_,_,_,none⟩::_) _ _;first|refine SW.st (st_load rfl gC) rfl ?_|refine SW.st (st_load rfl gS) rfl ?_))
   refine Post.cutn ?_
   rw [hK]
   refine ⟨⟨rfl,rfl,rfl,trivial⟩,hx,hb2,hb4,?_,hkp⟩
   have e3:List.replicate u.Active.n (-1)++c.Active.drop u.Active.n=List.replicate c.Active.length (-1):=by
    rw [q1,List.drop_of_length_le (by omega),List.append_nil]
   rw [e3] at hS
   exact hS
 ·clear hw hx hb2 hb4 hS hI hkp
  subst hK
  rintro L' w1 ⟨hsub,hx,hb2,hb4,hS,hkp⟩
  refine Post.sub hsub ?_
  have hC:=hS.get hic hi
  have hw:=Ext.refl w1
  have q5:=hC.slabs.len
  have q6:(idleC c).Slabs=c.Slabs:=rfl
  rw [q6] at q5
  repeat' (first|(first|refine CW.seq ?_|refine CW.region ?_|refine CW.block ?_)|(refine Post.seq ?_)|refine SW.nil ?_|refine SW.pure rfl rfl ?_|(show SW _ _ _ _ (⟨_,Op.fieldAddr _ _ _,_,_,_,none⟩::_) _ _;refine SW.st (st_field rfl) rfl ?_)|(show SW _ _ _ _ (⟨_,Op.binOp _ _ _ _ _,_,_,_,none⟩::_) _ _;refine SW.st (st_sub rfl rfl (by omega) (by omega)) rfl ?_)|(show SW _ _ _ _ (⟨_,Op.indexAddr _ _ _,_,_,_,none⟩::_) _ _;refine SW.st (st_indexN rfl rfl (by assumption) (by omega)) rfl ?_)|(show SW _ _ _ _ (⟨_,Op.call ⟨.builtin .len,_,_⟩,_,_,_,none⟩::_) _ _;refine SW.st (st_len rfl) rfl ?_)|(show SW _ _ _ _ (⟨_,Op.load _ _,_,_,_,none⟩::_) _ _;first|refine SW.st (st_load rfl (hb2.cell (i:=6) (v := .slice r.Caches.A r.Caches.n r.Caches.c) rfl)) rfl ?_|refine SW.st (st_load rfl (hS.row.sl.fld hin (j:=4) (u := .slice cs[i].Slabs.A cs[i].Slabs.n cs[i].Slabs.c) rfl)) rfl ?_))
  have h3:=h2.idle
  refine CW.loop (fun t:Nat×HRow×List CRow×Heap×KCache=>[(1,.int .i64 (i:Int)),(2,.pointer (some ⟨b2,0,none⟩)),(4,.pointer (some ⟨b4,0,none⟩)),(6,.int .i64 ((t.1:Int)-1))])
   (fun t w'=>t.1≤t.2.2.2.2.Slabs.length∧Ext wb w'∧Blk w' b2 30 (encSys ⟨r.Words,t.2.1,r.Caches⟩)∧Blk w' b4 30 (encSys .zero)∧SX w' wb.heap.size ⟨r.Words,t.2.1,r.Caches⟩ (sysAt s i t.2.2.2) t.2.2.1∧HOk t.2.2.2.1∧COk t.2.2.2.2∧shrinkF c.Slabs.length (s.Heap,idleC c)=shrinkF t.1 t.2.2.2∧(∀ j x,Blk w0 j 30 x→Blk w' j 30 x)) (fun t=>t.1) (c.Slabs.length,r.Heap,cs,s.Heap,idleC c)
   ?_ ⟨Nat.le_refl _,hx,hb2,hb4,hS,h1,h3,rfl,hkp⟩ ?_
  ·exact ⟨rfl,rfl,rfl,congrArg (fun z=>some (Value.int .i64 z)) (show ((cs[i].Slabs.n:Nat) : Int)-1=((c.Slabs.length:Nat) : Int)-1 by omega),trivial⟩
  clear hw hx hb2 hb4 hS hC hkp hsub h1 h2 h3 q5
  rintro ⟨k,H,cs',h,c'⟩ w2 ⟨hk,hx,hb2,hb4,hS,h1,h2,hfin,hkp⟩
  simp only at hk hb2 hS h1 h2 hfin ⊢
  have hw:=Ext.refl w2
  obtain ⟨e3,e4⟩:=hS.rows
  have hic':i<cs'.length:=by omega
  have hC:=hS.get hic' hi
  have q7:=hC.slabs.len
  have q8:=h2.small.slabs
  have q9:=hC.per
  have hAs:=hC.slabs.sl.base
  have hAc:=hS.row.sl.base
  simp only at hC q7 q8 q9 hAc
  have gC:=hb2.cell (i:=6) (v := .slice r.Caches.A r.Caches.n r.Caches.c) rfl
  cases k with
  | zero =>
   repeat' (first|(first|refine CW.seq ?_|refine CW.region ?_|refine CW.condd_f rfl (by omega) ?_|refine CW.exit ?_)|(first|refine Post.seq ?_|refine Post.seq_exit ?_|refine Post.hit ?_|refine Post.again_exit ?_)|refine SW.nil ?_|refine SW.pure rfl rfl ?_|(show SW _ _ _ _ (⟨_,Op.load _ _,_,_,_,none⟩::_) _ _;refine SW.st (st_loads rfl rfl ((fun _ _=>hb2.cell))) rfl ?_))
   refine SW.storeAgg hb4 rfl rfl rfl rfl (one_s ⟨r.Words,H,r.Caches⟩) fun w7 hR2 hg => ?_
   have hG:=hb4.gr hg
   replace hx:=hx.own hbw4 hg
   replace hS:=hS.grT hG rfl
   repeat' (first|(refine CW.ret ?_)|(refine Post.seq ?_)|refine SW.nil ?_)
   exact Post.ret1c rfl rfl hR2 rfl ⟨_,rfl,H,cs',rfl,hx,by rw [hfin];exact hS,fun j x hj=>(hkp j x hj).grown hg (by have:=hj.lt;simp;omega)⟩
  | succ k =>
   have ek:((k+1:Nat) : Int)-1=(k:Int):=by omega
   rw [ek]
   have hks:k<c'.Slabs.length:=by omega
   have hkn:k<cs'[i].Slabs.n:=by omega
   obtain ⟨y,hy⟩ : ∃ y,c'.Slabs[k]=y:=⟨_,rfl⟩
   have gF:=hC.slabs.sl.fld hkn (j:=1) (show (encSb (c'.Slabs[k]'(by omega)))[1]?=some (Value.int .i64 y.Free) by rw [hy];rfl)
   have gS:=hS.row.sl.fld hin (j:=4) (u := .slice cs'[i].Slabs.A cs'[i].Slabs.n cs'[i].Slabs.c) rfl
   have gP:=hS.row.sl.fld hin (j:=2) (u := .int .i64 cs'[i].Per) rfl
   by_cases hfull:y.Free=c'.Per
   ·repeat' (first|(first|refine CW.seq ?_|refine CW.region ?_|refine CW.block ?_|refine CW.condd_t rfl (by omega) ?_|refine CW.skip ?_|(apply CW.quiet1 mixed;(· kernel_rfl);rotate_left;intro w1 hw1;replace hw:=Ext.trans hw hw1;replace hb2:=hb2.ext hw1;replace hb4:=hb4.ext hw1;replace hS:=hS.ext hw1;clear hw1;rotate_right))|(refine Post.seq ?_)|refine SW.nil ?_|refine SW.pure rfl rfl ?_|(show SW _ _ _ _ (⟨_,Op.fieldAddr _ _ _,_,_,_,none⟩::_) _ _;refine SW.st (st_field rfl) rfl ?_)|(show SW _ _ _ _ (⟨_,Op.indexAddr _ _ _,_,_,_,none⟩::_) _ _;refine SW.st (st_indexN rfl rfl (by assumption) (by omega)) rfl ?_)|(show SW _ _ _ _ (⟨_,Op.load _ _,_,_,_,none⟩::_) _ _;first|refine SW.st (st_load rfl gC) rfl ?_|refine SW.st (st_load rfl gS) rfl ?_|refine SW.st (st_load rfl gP) rfl ?_|refine SW.st (st_load rfl gF) rfl ?_|refine SW.st (st_loads rfl rfl ((fun _ _=>hb2.cell))) rfl ?_)|exact SW.qnil rfl)
    all_goals first|(exfalso;omega)|skip
    refine SW.callX rfl rfl (dropSlab_ans wb _ ⟨r.Words,H,r.Caches⟩ s cs' i k (h,c') 0 (hx.trans hw) hS hi hn hks h1 h2) fun v w3 hv => ?_
    obtain ⟨H',cs2,rfl,hx3,hS3,hg3⟩:=hv
    have hG3:=hS.row.gr hg3
    rw [hy] at hS3
    (replace hb2:=hb2.grT hG3 rfl;replace hb4:=hb4.grT hG3 rfl)
    skip
    refine SW.storeAgg hb2 rfl rfl rfl rfl (one_s ⟨r.Words,H',r.Caches⟩) fun w4 hb2' hg => ?_
    have hG:=hb2.gr hg
    replace hb4:=hb4.grown hg (by simpa using hne)
    replace hx3:=hx3.own hbw2 hg
    replace hS3:=hS3.grT hG rfl
    repeat' (first|(refine CW.region ?_)|(first|refine Post.seq ?_|refine Post.blk ?_)|refine SW.nil ?_|refine SW.pure rfl rfl ?_|(show SW _ _ _ _ (⟨_,Op.binOp _ _ _ _ _,_,_,_,none⟩::_) _ _;refine SW.st (st_sub rfl rfl (by omega) (by omega)) rfl ?_))
    refine Post.again (k,H',cs2,(freeV h 0 y.At).2,cutSlab c' k) ⟨rfl,rfl,rfl,rfl,trivial⟩ (by simp only;omega) ⟨?_,hx3,hb2',hb4,hS3,h1.free _ _,h2.cut _,?_,fun j x hj=>(((hkp j x hj).ext hw).grT hG3 rfl).grown hg (by have:=hj.lt;simp;omega)⟩
    ·simp only [cutSlab]
     rw [List.length_eraseIdx_of_lt hks]
     omega
    ·rw [hfin,shrinkF_cut hks (by rw [hy];exact hfull),hy]
   ·repeat' (first|(first|refine CW.seq ?_|refine CW.region ?_|refine CW.block ?_|refine CW.condd_t rfl (by omega) ?_|refine CW.condd_f rfl (by omega) ?_|refine CW.skip ?_|(apply CW.quiet1 mixed;(· kernel_rfl);rotate_left;intro w1 hw1;replace hw:=Ext.trans hw hw1;replace hb2:=hb2.ext hw1;replace hb4:=hb4.ext hw1;replace hS:=hS.ext hw1;clear hw1;rotate_right))|(first|refine Post.seq ?_|refine Post.blk ?_)|refine SW.nil ?_|refine SW.pure rfl rfl ?_|(show SW _ _ _ _ (⟨_,Op.fieldAddr _ _ _,_,_,_,none⟩::_) _ _;refine SW.st (st_field rfl) rfl ?_)|(show SW _ _ _ _ (⟨_,Op.binOp _ _ _ _ _,_,_,_,none⟩::_) _ _;refine SW.st (st_sub rfl rfl (by omega) (by omega)) rfl ?_)|(show SW _ _ _ _ (⟨_,Op.indexAddr _ _ _,_,_,_,none⟩::_) _ _;refine SW.st (st_indexN rfl rfl (by assumption) (by omega)) rfl ?_)|(show SW _ _ _ _ (⟨_,Op.load _ _,_,_,_,none⟩::_) _ _;first|refine SW.st (st_load rfl gC) rfl ?_|refine SW.st (st_load rfl gS) rfl ?_|refine SW.st (st_load rfl gP) rfl ?_|refine SW.st (st_load rfl gF) rfl ?_)|exact SW.qnil rfl)
    all_goals first|(exfalso;omega)|skip
    refine Post.again (k,H,cs',h,c') ⟨rfl,rfl,rfl,congrArg (fun z=>some (Value.int .i64 z)) (by omega),trivial⟩ (by simp only;omega) ⟨by simp only;omega,hx.trans hw,hb2,hb4,hS,h1,h2,?_,fun j x hj=>(hkp j x hj).ext hw⟩
    rw [hfin,shrinkF_keep hks (by rw [hy];exact hfull)]
open Go.RowKit
set_option maxHeartbeats 8000000 in
theorem DestroyedOf_ans (r:SRow) (s:KSystem) (n:ByteArray) (w:World) (hr:RdS w r s) (hf:s.fine) :
  Ans Tryz.prog 13 [.agg (encSys r).toArray,.string n] w fun v w' => ∃ u,DesR s n u∧SysOut w.heap.size u v w':=by
 refine ans_of Tryz.func13 rfl Tryz.ntmps13 rfl ?_
 have hs:=hf.small
 refine CW.seq (CW.region (SW.box rfl rfl fun b2 w1 hw hb2b hb2 => ?_))
 refine SW.alloc rfl fun b4 w3 hw3 hb4b hb4 => ?_
 have hb4w:w.heap.size≤b4:=Nat.le_trans hw.size hb4b
 have hne:b4≠b2:=by have:=hb2.lt;omega
 (replace hw:=Ext.trans hw hw3;replace hb2:=hb2.ext hw3)
 obtain ⟨e,hE⟩ : ∃ e,askV s n 0=e:=⟨_,rfl⟩
 have cA:∀ w',Ext w w'→Ans Tryz.prog 18 [.agg (encSys r).toArray,.string n,.int .i64 0] w' fun v _=>v = .int .i64 e:=fun w' hx=>by
  have:=askFault_ans r s n 0 w' (hr.ext hx) hf
  rwa [hE] at this
 by_cases he0:e=0
 ·subst he0
  obtain ⟨hq,ht,_⟩:=askV_ok hE
  obtain ⟨i,hi,hin0,_,hix⟩:=idxOf_first2 ht
  have c3:∀ w',Ext w w'→Ans Tryz.prog 20 [.agg (encSys r).toArray,.string n] w' fun v _=>v = .int .i64 (i:Int):=fun w' hx=>by
   have:=cacheOf_ans r s n w' (hr.ext hx) hs
   rwa [hix] at this
  have hM:=sysB_iff.1 hq
  have hm:=hM.most
  have h2:=hf.cok hi
  have q0:=(hM.each i hi).names_len hM.heap (fun j h=>hM.each j h)
  have hsort:=(hM.each i hi).names.sorted
  have hmem:n∈s.Caches[i].Names:=hasS_iff.1 hin0
  obtain ⟨hpl,hpn,hpu⟩:=posS_mem hsort hmem
  obtain ⟨rs,hc⟩:=hr.caches
  obtain ⟨z1,z2⟩:=hc.len
  have hir:i<rs.length:=by omega
  have hinr:i<r.Caches.n:=by omega
  have hck:=hc.each.get i hir hi
  have hAr:=hc.row.base
  have hAn:=hck.names.base
  have hAsr:=hck.slabs.base
  have q1:=hck.names.len
  have q2:=hck.slabs.len
  have q3:=h2.small.slabs
  have hper:=hck.per
  have g0:=hc.row.fld hinr (j:=0) (u := .slice rs[i].Names.A rs[i].Names.n rs[i].Names.c) rfl
  have g4:=hc.row.fld hinr (j:=4) (u := .slice rs[i].Slabs.A rs[i].Slabs.n rs[i].Slabs.c) rfl
  have g2:=hc.row.fld hinr (j:=2) (u := .int .i64 rs[i].Per) rfl
  repeat' (first|(first|refine CW.seq ?_|refine CW.region ?_|refine CW.condn_f rfl (by omega) ?_|refine CW.skip ?_)|(refine Post.seq ?_)|refine SW.nil ?_|refine SW.pure rfl rfl ?_|(show SW _ _ _ _ (⟨_,Op.load _ _,_,_,_,none⟩::_) _ _;refine SW.st (st_loads rfl rfl ((fun _ _=>hb2.cell))) rfl ?_)|(show SW _ _ _ _ (⟨_,Op.call ⟨.value (.func _),_,_⟩,_,_,_,none⟩::_) _ _;first|(refine SW.call rfl rfl (cA _ hw) ?_;intro v w1 hw1 hv;subst hv;replace hw:=Ext.trans hw hw1;replace hb2:=hb2.ext hw1;replace hb4:=hb4.ext hw1;clear hw1)|(refine SW.call rfl rfl (c3 _ hw) ?_;intro v w1 hw1 hv;subst hv;replace hw:=Ext.trans hw hw1;replace hb2:=hb2.ext hw1;replace hb4:=hb4.ext hw1;clear hw1)))
  all_goals first|(exfalso;omega)|skip
  clear cA c3
  refine SW.call rfl rfl (SystemCopyX_ans r s _ (hr.ext hw) hs) fun v w6 hXX hv => ?_
  obtain ⟨q,cs,rfl,hO,hI⟩:=hv
  replace hO:=hO.low hw.size
  replace hI:=hI.low hw.size
  (replace hw:=Ext.trans hw hXX;replace hb2:=hb2.ext hXX;replace hb4:=hb4.ext hXX)
  have hlt4:=hb4.lt
  refine SW.alloc rfl fun b8 w1 hw1 hb8b hb8 => ?_
  skip
  refine SW.storeAgg hb8 rfl rfl rfl rfl (one_s q) fun w2 hb8' hg => ?_
  have hXX:=hw1.own hb8b hg
  have hb8w:w.heap.size≤b8:=Nat.le_trans hw.size hb8b
  replace hw:=Ext.trans hw hXX
  replace hb2:=hb2.ext hXX
  replace hb4:=hb4.ext hXX
  replace hO:=hO.ext hXX
  replace hI:=hI.ext hXX
  replace hb8:=hb8'
  clear hb8' hw1 hg hXX
  have hne8:b4≠b8:=by omega
  obtain ⟨e1,e2⟩:=hO.len
  have hic:i<cs.length:=by omega
  have hin:i<q.Caches.n:=by omega
  by_cases hl : 1<s.Caches[i].Names.length
  ·have hD:=DesR.name hE hix hi hl
   obtain ⟨P,hPp⟩ : ∃ P,posS s.Caches[i].Names n=P:=⟨_,rfl⟩
   simp only [hPp] at hpl hD hpu hpn
   repeat' (first|(first|refine CW.seq ?_|refine CW.region ?_|refine CW.block ?_|refine CW.condd_t rfl (by omega) ?_)|(refine Post.seq ?_)|refine SW.nil ?_|refine SW.pure rfl rfl ?_|(show SW _ _ _ _ (⟨_,Op.fieldAddr _ _ _,_,_,_,none⟩::_) _ _;refine SW.st (st_field rfl) rfl ?_)|(show SW _ _ _ _ (⟨_,Op.indexAddr _ _ _,_,_,_,none⟩::_) _ _;refine SW.st (st_indexN rfl rfl (by assumption) (by omega)) rfl ?_)|(show SW _ _ _ _ (⟨_,Op.call ⟨.builtin .len,_,_⟩,_,_,_,none⟩::_) _ _;refine SW.st (st_len rfl) rfl ?_)|(show SW _ _ _ _ (⟨_,Op.load _ _,_,_,_,none⟩::_) _ _;first|refine SW.st (st_load rfl (hb2.cell (i:=6) (v := .slice r.Caches.A r.Caches.n r.Caches.c) rfl)) rfl ?_|refine SW.st (st_loadx hw rfl g0) rfl ?_))
   all_goals first|(exfalso;omega)|skip
   have hwB:Ext w w2:=hw
   have g0':=hwB.cell g0
   have hcn:=hck.names.ext hwB
   refine CW.loop (fun t:Nat×Nat×Option Addr×Nat=>[(1,.string n),(2,.pointer (some ⟨b2,0,none⟩)),(4,.pointer (some ⟨b4,0,none⟩)),(7,.int .i64 (i:Int)),(8,.pointer (some ⟨b8,0,none⟩)),(9,.slice t.2.2.1 t.2.1 t.2.2.2),(10,.int .i64 (t.1:Int))])
    (fun t w'=>t.1≤rs[i].Names.n∧t.2.1≤t.1∧Ext w2 w'∧Own w' w2.heap.size 9 1 encStr t.2.2.1 t.2.1 t.2.2.2 ((s.Caches[i].Names.take t.1).eraseIdx P)) (fun t=>rs[i].Names.n-t.1) (0,0,none,0)
    ⟨rfl,rfl,rfl,rfl,rfl,rfl,rfl,trivial⟩ ⟨Nat.zero_le _,Nat.zero_le _,Ext.refl _,by simpa using Own.nil_ _ _ _ _ _ _⟩ ?_
   clear hw
   rintro ⟨j,m,A,c⟩ w9 ⟨hj,hm',hw,hL⟩
   simp only at hj hm' hL ⊢
   have gC:=hb2.cell (i:=6) (v := .slice r.Caches.A r.Caches.n r.Caches.c) rfl
   by_cases hjn:j<rs[i].Names.n
   ·have hjl:j<s.Caches[i].Names.length:=by omega
    have gk:=hcn.one hjn (u := .string s.Caches[i].Names[j]) rfl
    by_cases hjP:j=P
    ·subst hjP
     have hne':decide (s.Caches[i].Names[j]≠n)=false:=decide_eq_false (fun h=>h hpn)
     repeat' (first|(first|refine CW.seq ?_|refine CW.region ?_|refine CW.block ?_|refine CW.condfr rfl (by with_reducible rfl) ?_|refine CW.condd_t rfl (by omega) ?_|refine CW.skip ?_)|(first|refine Post.seq ?_|refine Post.blk ?_)|refine SW.nil ?_|refine SW.pure rfl rfl ?_|(show SW _ _ _ _ (⟨_,Op.fieldAddr _ _ _,_,_,_,none⟩::_) _ _;refine SW.st (st_field rfl) rfl ?_)|(show SW _ _ _ _ (⟨_,Op.binOp _ _ _ _ _,_,_,_,none⟩::_) _ _;refine SW.st (st_add rfl rfl (by omega) (by omega)) rfl ?_)|(show SW _ _ _ _ (⟨_,Op.indexAddr _ _ _,_,_,_,none⟩::_) _ _;refine SW.st (st_indexN rfl rfl (by assumption) (by omega)) rfl ?_)|(show SW _ _ _ _ (⟨_,Op.call ⟨.builtin .len,_,_⟩,_,_,_,none⟩::_) _ _;refine SW.st (st_len rfl) rfl ?_)|(show SW _ _ _ _ (⟨_,Op.load _ _,_,_,_,none⟩::_) _ _;first|refine SW.st (st_loadx hw rfl gC) rfl ?_|refine SW.st (st_loadx hw rfl (g0')) rfl ?_|refine SW.st (st_loadx hw rfl gk) rfl ?_)|(refine SW.st ((st_neStr' rfl rfl).eq (congrArg Value.bool hne')) rfl ?_))
     refine Post.again (j+1,m,A,c) ⟨rfl,rfl,rfl,rfl,rfl,rfl,rfl,trivial⟩ (by simp only;omega) ⟨by simp only;omega,by simp only;omega,hw,?_⟩
     simp only
     rw [erase_take_eq hjl]
     exact hL
    ·have hne':decide (s.Caches[i].Names[j]≠n)=true:=decide_eq_true (fun h=>hjP (hpu j hjl h))
     repeat' (first|(first|refine CW.seq ?_|refine CW.region ?_|refine CW.block ?_|refine CW.condtr rfl (by with_reducible rfl) ?_|refine CW.condd_t rfl (by omega) ?_|refine CW.skip ?_)|(refine Post.seq ?_)|refine SW.nil ?_|refine SW.pure rfl rfl ?_|(show SW _ _ _ _ (⟨_,Op.fieldAddr _ _ _,_,_,_,none⟩::_) _ _;refine SW.st (st_field rfl) rfl ?_)|(show SW _ _ _ _ (⟨_,Op.indexAddr _ _ _,_,_,_,none⟩::_) _ _;refine SW.st (st_indexN rfl rfl (by assumption) (by omega)) rfl ?_)|(show SW _ _ _ _ (⟨_,Op.call ⟨.builtin .len,_,_⟩,_,_,_,none⟩::_) _ _;refine SW.st (st_len rfl) rfl ?_)|(show SW _ _ _ _ (⟨_,Op.load _ _,_,_,_,none⟩::_) _ _;first|refine SW.st (st_loadx hw rfl gC) rfl ?_|refine SW.st (st_loadx hw rfl (g0')) rfl ?_|refine SW.st (st_loadx hw rfl gk) rfl ?_)|(refine SW.st ((st_neStr' rfl rfl).eq (congrArg Value.bool hne')) rfl ?_))
     refine SW.build1 rfl rfl rfl rfl rfl fun b w10 hXX hb hBb => ?_
     (replace hw:=Ext.trans hw hXX;replace hL:=hL.ext hXX)
     refine SW.append hL (Blk.sl1 (enc:=encStr) hBb) hw.size rfl rfl rfl (by omega) (by omega) fun A2 c2 w11 hO1 hg => ?_
     replace hw:=ext_grown hw hg (Nat.le_refl _) hL.row_ge
     repeat' (first|(refine CW.region ?_)|(first|refine Post.seq ?_|refine Post.blk ?_)|refine SW.nil ?_|refine SW.pure rfl rfl ?_|(show SW _ _ _ _ (⟨_,Op.binOp _ _ _ _ _,_,_,_,none⟩::_) _ _;refine SW.st (st_add rfl rfl (by omega) (by omega)) rfl ?_))
     refine Post.again (j+1,m+1,A2,c2) ⟨rfl,rfl,rfl,rfl,rfl,rfl,rfl,trivial⟩ (by simp only;omega) ⟨by simp only;omega,by simp only;omega,hw,?_⟩
     simp only
     rw [erase_take_ne hjl hjP]
     exact hO1
   ·obtain rfl:j=rs[i].Names.n:=by omega
    rw [List.take_of_length_le (by omega)] at hL
    have hwN:=hw
    repeat' (first|(first|refine CW.seq ?_|refine CW.region ?_|refine CW.condd_f rfl (by omega) ?_|refine CW.exit ?_)|(first|refine Post.seq ?_|refine Post.seq_exit ?_|refine Post.hit ?_|refine Post.again_exit ?_)|refine SW.nil ?_|refine SW.pure rfl rfl ?_|(show SW _ _ _ _ (⟨_,Op.fieldAddr _ _ _,_,_,_,none⟩::_) _ _;refine SW.st (st_field rfl) rfl ?_)|(show SW _ _ _ _ (⟨_,Op.indexAddr _ _ _,_,_,_,none⟩::_) _ _;refine SW.st (st_indexN rfl rfl (by assumption) (by omega)) rfl ?_)|(show SW _ _ _ _ (⟨_,Op.call ⟨.builtin .len,_,_⟩,_,_,_,none⟩::_) _ _;refine SW.st (st_len rfl) rfl ?_)|(show SW _ _ _ _ (⟨_,Op.load _ _,_,_,_,none⟩::_) _ _;first|refine SW.st (st_loadx hw rfl gC) rfl ?_|refine SW.st (st_loadx hw rfl (g0')) rfl ?_))
    replace hw:=hwB
    (replace hw:=Ext.trans hw hwN;replace hb4:=hb4.ext hwN;replace hb8:=hb8.ext hwN;replace hO:=hO.ext hwN)
    replace hL:=hL.low hwB.size
    have hAc:=hO.row.sl.base
    repeat' (first|refine SW.pure rfl rfl ?_|(show SW _ _ _ _ (⟨_,Op.fieldAddr _ _ _,_,_,_,none⟩::_) _ _;refine SW.st (st_field rfl) rfl ?_)|(show SW _ _ _ _ (⟨_,Op.indexAddr _ _ _,_,_,_,none⟩::_) _ _;refine SW.st (st_indexN rfl rfl (by assumption) (by omega)) rfl ?_)|(show SW _ _ _ _ (⟨_,Op.load _ _,_,_,_,none⟩::_) _ _;refine SW.st (st_load rfl (hb8.cell (i:=6) (v := .slice q.Caches.A q.Caches.n q.Caches.c) rfl)) rfl ?_))
    have hC:=hO.each.get i hic hi
    refine SW.storeO i 0 ⟨⟨A,m,c⟩,cs[i].Size,cs[i].Per,cs[i].Order,cs[i].Slabs,cs[i].Active⟩ hO.row rfl rfl rfl hin (by decide) rfl rfl fun w12 hrow' hg6 => ?_
    have hG6:=hO.row.gr hg6
    replace hw:=ext_grown hw hg6 (Nat.le_refl _) hO.row.row_ge
    have hX:=hO.words.grT hG6 rfl
    have hY:=hO.heap.grT hG6 rfl
    have hE':=(All2.setAt (R':=OwnC w9 w.heap.size) (i:=i) (x:=⟨⟨A,m,c⟩,cs[i].Size,cs[i].Per,cs[i].Order,cs[i].Slabs,cs[i].Active⟩) (y:=cutName s.Caches[i] P) hO.each ⟨hC.size,hC.per,hC.order,hL,hC.slabs,hC.active⟩ (fun j h1 h2 hji ho=>ho)).mono fun _ _ h=>h.grT hG6 rfl
    (replace hb4:=hb4.grT hG6 rfl;replace hb8:=hb8.grT hG6 rfl)
    repeat' (first|(first|refine CW.seq ?_|refine CW.region ?_)|(refine Post.seq ?_)|refine SW.nil ?_|(show SW _ _ _ _ (⟨_,Op.load _ _,_,_,_,none⟩::_) _ _;refine SW.st (st_loads rfl rfl ((fun _ _=>hb8.cell))) rfl ?_))
    refine SW.storeAgg hb4 rfl rfl rfl rfl (one_s q) fun w13 hR2 hg => ?_
    have hG:=hb4.gr hg
    replace hw:=hw.own hb4w hg
    (replace hX:=hX.grT hG rfl;replace hY:=hY.grT hG rfl;replace hrow':=hrow'.grT hG rfl)
    replace hE':=hE'.mono fun _ _ h=>h.grT hG rfl
    repeat' (first|(refine CW.ret ?_)|(first|refine Post.seq ?_|refine Post.seq_ret ?_)|refine SW.nil ?_|refine SW.pure rfl rfl ?_)
    exact Post.ret2c rfl rfl rfl hR2 rfl ⟨_,rfl,hw,_,hD,⟨q,rfl,hX,hY,_,hrow',hE'⟩⟩
  ·repeat' (first|(first|refine CW.seq ?_|refine CW.region ?_|refine CW.block ?_|refine CW.condd_f rfl (by omega) ?_|refine CW.skip ?_)|(refine Post.seq ?_)|refine SW.nil ?_|refine SW.pure rfl rfl ?_|(show SW _ _ _ _ (⟨_,Op.fieldAddr _ _ _,_,_,_,none⟩::_) _ _;refine SW.st (st_field rfl) rfl ?_)|(show SW _ _ _ _ (⟨_,Op.indexAddr _ _ _,_,_,_,none⟩::_) _ _;refine SW.st (st_indexN rfl rfl (by assumption) (by omega)) rfl ?_)|(show SW _ _ _ _ (⟨_,Op.call ⟨.builtin .len,_,_⟩,_,_,_,none⟩::_) _ _;refine SW.st (st_len rfl) rfl ?_)|(show SW _ _ _ _ (⟨_,Op.load _ _,_,_,_,none⟩::_) _ _;first|refine SW.st (st_load rfl (hb2.cell (i:=6) (v := .slice r.Caches.A r.Caches.n r.Caches.c) rfl)) rfl ?_|refine SW.st (st_loadx hw rfl g0) rfl ?_))
   all_goals first|(exfalso;omega)|skip
   refine CW.loop (fun j:Nat=>[(2,.pointer (some ⟨b2,0,none⟩)),(4,.pointer (some ⟨b4,0,none⟩)),(7,.int .i64 (i:Int)),(8,.pointer (some ⟨b8,0,none⟩)),(11,.int .i64 (j:Int))])
    (fun j w'=>j≤rs[i].Slabs.n∧Ext w w'∧Blk w' b2 30 (encSys r)∧Blk w' b4 30 (encSys .zero)∧Blk w' b8 30 (encSys q)∧SX w' w.heap.size q s cs∧SI w' w.heap.size q s cs ∧ ∀ (k:Nat) (hk:k<s.Caches[i].Slabs.length),k<j → ¬ s.Caches[i].Slabs[k].Free<s.Caches[i].Per) (fun j=>rs[i].Slabs.n-j) 0
    ⟨rfl,rfl,rfl,rfl,rfl,trivial⟩ ⟨Nat.zero_le _,hw,hb2,hb4,hb8,hO,hI,fun k hk h=>by omega⟩ ?_
   clear hw hb2 hb4 hb8 hO hI
   rintro j w9 ⟨hj,hw,hb2,hb4,hb8,hO,hI,hno⟩
   by_cases hjn:j<rs[i].Slabs.n
   ·have hjl:j<s.Caches[i].Slabs.length:=by omega
    obtain ⟨y,hy⟩ : ∃ y,s.Caches[i].Slabs[j]=y:=⟨_,rfl⟩
    have gF:=hck.slabs.fld hjn (j:=1) (show (encSb (s.Caches[i].Slabs[j]'(by omega)))[1]?=some (Value.int .i64 y.Free) by rw [hy];rfl)
    by_cases hb:y.Free<s.Caches[i].Per
    ·have hbz:busyB s.Caches[i]=true:=List.any_eq_true.2 ⟨y,hy ▸ List.getElem_mem hjl,decide_eq_true hb⟩
     have hD:=DesR.busy hE hix hi hl hbz
     repeat' (first|(first|refine CW.seq ?_|refine CW.region ?_|refine CW.block ?_|refine CW.condd_t rfl (by omega) ?_|refine CW.skip ?_|(apply CW.quiet1 mixed;(· kernel_rfl);rotate_left;intro w1 hw1;replace hw:=Ext.trans hw hw1;replace hb2:=hb2.ext hw1;replace hb4:=hb4.ext hw1;clear hw1;rotate_right))|(refine Post.seq ?_)|refine SW.nil ?_|refine SW.pure rfl rfl ?_|(show SW _ _ _ _ (⟨_,Op.fieldAddr _ _ _,_,_,_,none⟩::_) _ _;refine SW.st (st_field rfl) rfl ?_)|(show SW _ _ _ _ (⟨_,Op.build _ _,_,_,_,none⟩::_) _ _;refine SW.st (st_build rfl rfl) rfl ?_)|(show SW _ _ _ _ (⟨_,Op.indexAddr _ _ _,_,_,_,none⟩::_) _ _;refine SW.st (st_indexN rfl rfl (by assumption) (by omega)) rfl ?_)|(show SW _ _ _ _ (⟨_,Op.call ⟨.builtin .len,_,_⟩,_,_,_,none⟩::_) _ _;refine SW.st (st_len rfl) rfl ?_)|(show SW _ _ _ _ (⟨_,Op.load _ _,_,_,_,none⟩::_) _ _;first|refine SW.st (st_load rfl (hb2.cell (i:=6) (v := .slice r.Caches.A r.Caches.n r.Caches.c) rfl)) rfl ?_|refine SW.st (st_loadx hw rfl g4) rfl ?_|refine SW.st (st_loadx hw rfl g2) rfl ?_|refine SW.st (st_loadx hw rfl gF) rfl ?_)|exact SW.qnil rfl)
     all_goals first|(exfalso;omega)|skip
     refine SW.storeAgg hb4 rfl rfl rfl rfl (one_s .zero) fun w10 hR2 hg => ?_
     replace hw:=hw.own hb4w hg
     repeat' (first|(refine CW.ret ?_)|(first|refine Post.seq ?_|refine Post.seq_ret ?_|refine Post.blk_ret ?_|refine Post.again_ret ?_)|refine SW.nil ?_|refine SW.pure rfl rfl ?_)
     exact Post.ret2c rfl rfl rfl hR2 rfl ⟨_,rfl,hw,_,hD,SysOut.zero 7 _ _⟩
    ·repeat' (first|(first|refine CW.seq ?_|refine CW.region ?_|refine CW.block ?_|refine CW.condd_t rfl (by omega) ?_|refine CW.condd_f rfl (by omega) ?_|refine CW.skip ?_|(apply CW.quiet1 mixed;(· kernel_rfl);rotate_left;intro w1 hw1;replace hw:=Ext.trans hw hw1;replace hb2:=hb2.ext hw1;replace hb4:=hb4.ext hw1;replace hb8:=hb8.ext hw1;replace hO:=hO.ext hw1;replace hI:=hI.ext hw1;clear hw1;rotate_right))|(first|refine Post.seq ?_|refine Post.blk ?_)|refine SW.nil ?_|refine SW.pure rfl rfl ?_|(show SW _ _ _ _ (⟨_,Op.fieldAddr _ _ _,_,_,_,none⟩::_) _ _;refine SW.st (st_field rfl) rfl ?_)|(show SW _ _ _ _ (⟨_,Op.binOp _ _ _ _ _,_,_,_,none⟩::_) _ _;refine SW.st (st_add rfl rfl (by omega) (by omega)) rfl ?_)|(show SW _ _ _ _ (⟨_,Op.indexAddr _ _ _,_,_,_,none⟩::_) _ _;refine SW.st (st_indexN rfl rfl (by assumption) (by omega)) rfl ?_)|(show SW _ _ _ _ (⟨_,Op.call ⟨.builtin .len,_,_⟩,_,_,_,none⟩::_) _ _;refine SW.st (st_len rfl) rfl ?_)|(show SW _ _ _ _ (⟨_,Op.load _ _,_,_,_,none⟩::_) _ _;first|refine SW.st (st_load rfl (hb2.cell (i:=6) (v := .slice r.Caches.A r.Caches.n r.Caches.c) rfl)) rfl ?_|refine SW.st (st_loadx hw rfl g4) rfl ?_|refine SW.st (st_loadx hw rfl g2) rfl ?_|refine SW.st (st_loadx hw rfl gF) rfl ?_)|exact SW.qnil rfl)
     all_goals first|(exfalso;omega)|skip
     refine Post.again (j+1) ⟨rfl,rfl,rfl,rfl,rfl,trivial⟩ (by omega) ⟨by omega,hw,hb2,hb4,hb8,hO,hI,fun k hk h => ?_⟩
     by_cases e:k=j
     ·subst e
      rw [hy]
      exact hb
     ·exact hno k hk (by omega)
   ·have hbz:busyB s.Caches[i]=false:=by
     refine List.any_eq_false.2 fun x hx => ?_
     obtain ⟨k,hk,rfl⟩:=List.getElem_of_mem hx
     simpa using hno k hk (by omega)
    have hD:=DesR.cache hE hix hi hl hbz
    repeat' (first|(first|refine CW.seq ?_|refine CW.region ?_|refine CW.condd_f rfl (by omega) ?_|refine CW.exit ?_)|(first|refine Post.seq ?_|refine Post.seq_exit ?_|refine Post.hit ?_|refine Post.again_exit ?_)|refine SW.nil ?_|refine SW.pure rfl rfl ?_|(show SW _ _ _ _ (⟨_,Op.fieldAddr _ _ _,_,_,_,none⟩::_) _ _;refine SW.st (st_field rfl) rfl ?_)|(show SW _ _ _ _ (⟨_,Op.indexAddr _ _ _,_,_,_,none⟩::_) _ _;refine SW.st (st_indexN rfl rfl (by assumption) (by omega)) rfl ?_)|(show SW _ _ _ _ (⟨_,Op.call ⟨.builtin .len,_,_⟩,_,_,_,none⟩::_) _ _;refine SW.st (st_len rfl) rfl ?_)|(show SW _ _ _ _ (⟨_,Op.load _ _,_,_,_,none⟩::_) _ _;first|refine SW.st (st_load rfl (hb2.cell (i:=6) (v := .slice r.Caches.A r.Caches.n r.Caches.c) rfl)) rfl ?_|refine SW.st (st_loadx hw rfl g4) rfl ?_|refine SW.st (st_loads rfl rfl ((fun _ _=>hb8.cell))) rfl ?_))
    refine SW.callX rfl rfl (shrunk_ans w _ q s cs i hf hw hO hI hi (by omega)) fun v w10 hv => ?_
    obtain ⟨H,cs',rfl,hx3,hS,hkp⟩:=hv
    clear hw hO hI
    have hw:=hx3
    replace hb4:=hkp _ _ hb4
    replace hb8:=hkp _ _ hb8
    skip
    refine SW.storeAgg hb8 rfl rfl rfl rfl (one_s ⟨q.Words,H,q.Caches⟩) fun w11 hb8' hg => ?_
    have hG:=hb8.gr hg
    replace hb4:=hb4.grown hg (by simpa using hne8)
    replace hw:=hw.own hb8w hg
    replace hS:=hS.grT hG rfl
    replace hb8:=hb8'
    clear hb8' hG hg
    have hrow:Own w11 w.heap.size 44 6 encC q.Caches.A q.Caches.n q.Caches.c cs':=hS.row
    have hAc2:=hrow.sl.base
    have hl2:=hrow.len
    have hE2:=hS.each.erase2 i
    rw [sysAt_erase] at hE2
    repeat' (first|(first|refine CW.seq ?_|refine CW.region ?_|refine CW.block ?_)|(refine Post.seq ?_)|refine SW.nil ?_|refine SW.pure rfl rfl ?_)
    have hwB:Ext w w11:=hw
    refine CW.loop (fun t:Nat×Nat×Option Addr×Nat=>[(4,.pointer (some ⟨b4,0,none⟩)),(7,.int .i64 (i:Int)),(8,.pointer (some ⟨b8,0,none⟩)),(12,.slice t.2.2.1 t.2.1 t.2.2.2),(13,.int .i64 (t.1:Int))])
     (fun t w'=>t.1≤q.Caches.n∧t.2.1≤t.1∧Ext w11 w'∧Own w' w11.heap.size 44 6 encC t.2.2.1 t.2.1 t.2.2.2 ((cs'.take t.1).eraseIdx i)) (fun t=>q.Caches.n-t.1) (0,0,none,0)
     ⟨rfl,rfl,rfl,rfl,rfl,trivial⟩ ⟨Nat.zero_le _,Nat.zero_le _,Ext.refl _,by simpa using Own.nil_ _ _ _ _ _ _⟩ ?_
    clear hw
    rintro ⟨k,m,A,c⟩ w12 ⟨hk,hm',hw,hL⟩
    simp only at hk hm' hL ⊢
    have gC:=hb8.cell (i:=6) (v := .slice q.Caches.A q.Caches.n q.Caches.c) rfl
    have hSl:=hrow.sl
    by_cases hkn:k<q.Caches.n
    ·have hkl:k<cs'.length:=by omega
     by_cases hki:k=i
     ·subst hki
      repeat' (first|(first|refine CW.seq ?_|refine CW.region ?_|refine CW.block ?_|refine CW.condd_t rfl (by omega) ?_|refine CW.condn_f rfl (by omega) ?_|refine CW.skip ?_)|(first|refine Post.seq ?_|refine Post.blk ?_)|refine SW.nil ?_|refine SW.pure rfl rfl ?_|(show SW _ _ _ _ (⟨_,Op.fieldAddr _ _ _,_,_,_,none⟩::_) _ _;refine SW.st (st_field rfl) rfl ?_)|(show SW _ _ _ _ (⟨_,Op.binOp _ _ _ _ _,_,_,_,none⟩::_) _ _;refine SW.st (st_add rfl rfl (by omega) (by omega)) rfl ?_)|(show SW _ _ _ _ (⟨_,Op.call ⟨.builtin .len,_,_⟩,_,_,_,none⟩::_) _ _;refine SW.st (st_len rfl) rfl ?_)|(show SW _ _ _ _ (⟨_,Op.load _ _,_,_,_,none⟩::_) _ _;refine SW.st (st_loadx hw rfl gC) rfl ?_))
      all_goals first|(exfalso;omega)|skip
      refine Post.again (k+1,m,A,c) ⟨rfl,rfl,rfl,rfl,rfl,trivial⟩ (by simp only;omega) ⟨by simp only;omega,by simp only;omega,hw,?_⟩
      simp only
      rw [erase_take_eq hkl]
      exact hL
     ·repeat' (first|(first|refine CW.seq ?_|refine CW.region ?_|refine CW.block ?_|refine CW.condd_t rfl (by omega) ?_|refine CW.condn_t rfl (by omega) ?_|refine CW.skip ?_)|(refine Post.seq ?_)|refine SW.nil ?_|refine SW.pure rfl rfl ?_|(show SW _ _ _ _ (⟨_,Op.fieldAddr _ _ _,_,_,_,none⟩::_) _ _;refine SW.st (st_field rfl) rfl ?_)|(show SW _ _ _ _ (⟨_,Op.indexAddr _ _ _,_,_,_,none⟩::_) _ _;refine SW.st (st_indexN rfl rfl (by assumption) (by omega)) rfl ?_)|(show SW _ _ _ _ (⟨_,Op.call ⟨.builtin .len,_,_⟩,_,_,_,none⟩::_) _ _;refine SW.st (st_len rfl) rfl ?_)|(show SW _ _ _ _ (⟨_,Op.load _ _,_,_,_,none⟩::_) _ _;first|refine SW.st (st_loadx hw rfl gC) rfl ?_|refine SW.st (st_loadsx hw rfl rfl ((hSl.all hkn))) rfl ?_))
      all_goals first|(exfalso;omega)|skip
      refine SW.build1 rfl rfl rfl rfl rfl fun b w13 hXX hb hBb => ?_
      (replace hw:=Ext.trans hw hXX;replace hL:=hL.ext hXX)
      refine SW.append hL (Blk.sl1 (enc:=encC) hBb) hw.size rfl rfl rfl (by omega) (by omega) fun A2 c2 w14 hO1 hg => ?_
      replace hw:=ext_grown hw hg (Nat.le_refl _) hL.row_ge
      repeat' (first|(refine CW.region ?_)|(first|refine Post.seq ?_|refine Post.blk ?_)|refine SW.nil ?_|refine SW.pure rfl rfl ?_|(show SW _ _ _ _ (⟨_,Op.binOp _ _ _ _ _,_,_,_,none⟩::_) _ _;refine SW.st (st_add rfl rfl (by omega) (by omega)) rfl ?_))
      refine Post.again (k+1,m+1,A2,c2) ⟨rfl,rfl,rfl,rfl,rfl,trivial⟩ (by simp only;omega) ⟨by simp only;omega,by simp only;omega,hw,?_⟩
      simp only
      rw [erase_take_ne hkl hki]
      exact hO1
    ·obtain rfl:k=q.Caches.n:=by omega
     rw [List.take_of_length_le (by omega)] at hL
     have hwN:=hw
     repeat' (first|(first|refine CW.seq ?_|refine CW.region ?_|refine CW.condd_f rfl (by omega) ?_|refine CW.exit ?_)|(first|refine Post.seq ?_|refine Post.seq_exit ?_|refine Post.hit ?_|refine Post.again_exit ?_)|refine SW.nil ?_|refine SW.pure rfl rfl ?_|(show SW _ _ _ _ (⟨_,Op.fieldAddr _ _ _,_,_,_,none⟩::_) _ _;refine SW.st (st_field rfl) rfl ?_)|(show SW _ _ _ _ (⟨_,Op.call ⟨.builtin .len,_,_⟩,_,_,_,none⟩::_) _ _;refine SW.st (st_len rfl) rfl ?_)|(show SW _ _ _ _ (⟨_,Op.load _ _,_,_,_,none⟩::_) _ _;refine SW.st (st_loadx hw rfl gC) rfl ?_))
     replace hw:=hwB
     (replace hw:=Ext.trans hw hwN;replace hb4:=hb4.ext hwN;replace hb8:=hb8.ext hwN;replace hS:=hS.ext hwN)
     replace hL:=hL.low hwB.size
     replace hE2:=hE2.mono fun _ _ h=>h.ext hwN
     have hX:=hS.words
     have hY:=hS.heap
     refine SW.storeB (i:=6) hb8 rfl rfl rfl rfl fun w13 hb8' hg => ?_
     have hG:=hb8.gr hg
     replace hb4:=hb4.grown hg (by simpa using hne8)
     replace hw:=hw.own hb8w hg
     (replace hX:=hX.grT hG rfl;replace hY:=hY.grT hG rfl;replace hL:=hL.grT hG rfl)
     replace hE2:=hE2.mono fun _ _ h=>h.grT hG rfl
     repeat' (first|(first|refine CW.seq ?_|refine CW.region ?_)|(refine Post.seq ?_)|refine SW.nil ?_|(show SW _ _ _ _ (⟨_,Op.load _ _,_,_,_,none⟩::_) _ _;refine SW.st (st_loads rfl rfl ((fun _ _=>hb8'.cell))) rfl ?_))
     refine SW.storeAgg hb4 rfl rfl rfl rfl (one_s ⟨q.Words,H,⟨A,m,c⟩⟩) fun w14 hR2 hg => ?_
     have hG:=hb4.gr hg
     replace hw:=hw.own hb4w hg
     (replace hX:=hX.grT hG rfl;replace hY:=hY.grT hG rfl;replace hL:=hL.grT hG rfl)
     replace hE2:=hE2.mono fun _ _ h=>h.grT hG rfl
     repeat' (first|(refine CW.ret ?_)|(refine Post.seq ?_)|refine SW.nil ?_|refine SW.pure rfl rfl ?_)
     exact Post.ret2c rfl rfl rfl hR2 rfl ⟨_,rfl,hw,_,hD,⟨⟨q.Words,H,⟨A,m,c⟩⟩,rfl,hX,hY,_,hL,hE2⟩⟩
 ·have hD:=DesR.ask (s:=s) (n:=n) (by rw [hE];exact he0)
  rw [hE] at hD
  repeat' (first|(first|refine CW.seq ?_|refine CW.region ?_|refine CW.condn_t rfl (by omega) ?_)|(refine Post.seq ?_)|refine SW.nil ?_|refine SW.pure rfl rfl ?_|(show SW _ _ _ _ (⟨_,Op.build _ _,_,_,_,none⟩::_) _ _;refine SW.st (st_build rfl rfl) rfl ?_)|(show SW _ _ _ _ (⟨_,Op.load _ _,_,_,_,none⟩::_) _ _;refine SW.st (st_loads rfl rfl ((fun _ _=>hb2.cell))) rfl ?_)|(show SW _ _ _ _ (⟨_,Op.call ⟨.value (.func _),_,_⟩,_,_,_,none⟩::_) _ _;(refine SW.call rfl rfl (cA _ hw) ?_;intro v w1 hw1 hv;subst hv;replace hw:=Ext.trans hw hw1;replace hb2:=hb2.ext hw1;replace hb4:=hb4.ext hw1;clear hw1)))
  all_goals first|(exfalso;omega)|skip
  refine SW.storeAgg hb4 rfl rfl rfl rfl (one_s .zero) fun w6 hR2 hg => ?_
  replace hw:=hw.own hb4w hg
  repeat' (first|(refine CW.ret ?_)|(first|refine Post.seq ?_|refine Post.seq_ret ?_)|refine SW.nil ?_|refine SW.pure rfl rfl ?_)
  exact Post.ret2c rfl rfl rfl hR2 rfl ⟨_,rfl,hw,_,hD,SysOut.zero e _ _⟩
end Go.Proofs.YtigikedbffjeiaaGreat
