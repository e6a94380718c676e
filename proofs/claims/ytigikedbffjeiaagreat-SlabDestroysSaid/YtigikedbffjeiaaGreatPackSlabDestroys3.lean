/-
  Texts of the claim SlabDestroys, part 3: what its theorem leans on.
-/
import Derived.Test.YtigikedbffjeiaaGreatPackSlabDestroys2
set_option linter.unusedVariables false
set_option linter.unusedSimpArgs false
namespace Go.Proofs.YtigikedbffjeiaaGreat
open Go.RowKit
structure Sli where
  A:Option Addr
  n:Nat
  c:Nat
def Sli.v (s:Sli) : Value := .slice s.A s.n s.c
def Sli.nil:Sli:=⟨none,0,0⟩
structure ZRow where
  From:Int
  To:Int
  Free:Sli
  Types:Sli
def encZ (z:ZRow) : List Value:=[.int .i64 z.From,.int .i64 z.To,z.Free.v,z.Types.v]
instance:Enc encZ 4:=⟨fun _=>rfl,fun r u hu=>by simp [encZ,Sli.v] at hu;rcases hu with rfl|rfl|rfl|rfl<;>rfl⟩
theorem one_z (r:ZRow) : ∀ v∈encZ r,v.oneCell'=true:=Enc.one (enc:=encZ) r
structure RdZ (w:World) (r:ZRow) (z:Zone) : Prop where
  from_:r.From=z.From
  to_:r.To=z.To
  free:Sl w 3 encBk r.Free.A r.Free.n z.Free
  types:Sl w 1 encI r.Types.A r.Types.n z.Types
structure OwnZ (w:World) (lo:Nat) (r:ZRow) (z:Zone) : Prop where
  from_:r.From=z.From
  to_:r.To=z.To
  free:Own w lo 94 3 encBk r.Free.A r.Free.n r.Free.c z.Free
  types:Own w lo 3 1 encI r.Types.A r.Types.n r.Types.c z.Types
theorem RdZ.ext {w w':World} {r:ZRow} {z:Zone} (h:RdZ w r z) (hx:Ext w w') : RdZ w' r z:=⟨h.from_,h.to_,h.free.ext hx,h.types.ext hx⟩
theorem OwnZ.ext {w w':World} {lo:Nat} {r:ZRow} {z:Zone} (h:OwnZ w lo r z) (hx:Ext w w') : OwnZ w' lo r z:=⟨h.from_,h.to_,h.free.ext hx,h.types.ext hx⟩
theorem OwnZ.low {w:World} {lo lo':Nat} {r:ZRow} {z:Zone} (h:OwnZ w lo r z) (hl:lo'≤lo) : OwnZ w lo' r z:=⟨h.from_,h.to_,h.free.low hl,h.types.low hl⟩
theorem OwnZ.rd {w:World} {lo:Nat} {r:ZRow} {z:Zone} (h:OwnZ w lo r z) : RdZ w r z:=⟨h.from_,h.to_,h.free.sl,h.types.sl⟩
theorem OwnZ.blk {w w':World} {lo b t:Nat} {r:ZRow} {z:Zone} {cs:List Value} (h:OwnZ w lo r z) (hB:Blk w b t cs) (hg:w.grownBy w' (some b)) (h1:Nat.beq t 94=false) (h2:Nat.beq t 3=false) : OwnZ w' lo r z :=
  ⟨h.from_,h.to_,h.free.grown hg (.inr (h.free.ne_blk hB h1)),h.types.grown hg (.inr (h.types.ne_blk hB h2))⟩
def Zone.zero:Zone:=⟨0,0,[],[]⟩
def ZRow.zero:ZRow:=⟨0,0,.nil,.nil⟩
theorem OwnZ.zero (w:World) (lo:Nat) : OwnZ w lo .zero .zero:=⟨rfl,rfl,Own.nil_ _ _ _ _ _ _,Own.nil_ _ _ _ _ _ _⟩
theorem sameZone_ans (r s:ZRow) (a b:Zone) (w:World) (ha:RdZ w r a) (hb:RdZ w s b) (hn:r.Free.n≤2305843009213693952) (hm:r.Types.n≤2305843009213693952) :
    Ans Tryz.prog 42 [.agg (encZ r).toArray,.agg (encZ s).toArray] w fun v _=>v = .bool (decide (a=b)):=by
  refine ans_of Tryz.func42 rfl Tryz.ntmps42 rfl ?_
  have e1:=ha.from_
  have e2:=ha.to_
  have e3:=hb.from_
  have e4:=hb.to_
  refine CW.seq (CW.region (SW.box rfl rfl fun b1 w1 hw hb1 hB => ?_))
  refine SW.box rfl rfl fun b2 w2 hw2 hb2 hB2 => ?_
  replace hw:=Ext.trans hw hw2
  replace hB:=hB.ext hw2
  repeat' (first|(first|refine CW.seq ?_|refine CW.region ?_|refine CW.ret ?_)|(refine Post.seq ?_)|refine SW.nil ?_|(show SW _ _ _ _ (⟨_,_,_,_,_,some _⟩::_) _ _;first|refine SW.want_t rfl rfl (by with_reducible rfl) ?_|refine SW.skip_t rfl rfl (by with_reducible rfl) rfl ?_|refine SW.splitd rfl rfl rfl (fun h => ?_) (fun h => ?_))|refine SW.pure rfl rfl ?_|(show SW _ _ _ _ (⟨_,Op.fieldAddr _ _ _,_,_,_,none⟩::_) _ _;refine SW.st (st_field rfl) rfl ?_)|(show SW _ _ _ _ (⟨_,Op.load _ _,_,_,_,none⟩::_) _ _;first|refine SW.st (st_load rfl (hB.cell rfl)) rfl ?_|refine SW.st (st_load rfl (hB2.cell rfl)) rfl ?_)|(show SW _ _ _ _ (⟨_,Op.call ⟨.value (.func _),_,_⟩,_,_,_,none⟩::_) _ _;first|(refine SW.call rfl rfl (sameBlocks_ans _ _ _ _ _ _ _ _ _ (ha.free.ext hw) (hb.free.ext hw) hn) ?_;intro v w1 hw1 hv;subst hv;replace hw:=Ext.trans hw hw1;replace hB:=hB.ext hw1;replace hB2:=hB2.ext hw1;clear hw1)|(refine SW.call rfl rfl (sameInts_ans _ _ _ _ _ _ _ _ _ (ha.types.ext hw) (hb.types.ext hw) hm) ?_;intro v w1 hw1 hv;subst hv;replace hw:=Ext.trans hw hw1;replace hB:=hB.ext hw1;replace hB2:=hB2.ext hw1;clear hw1)))
  all_goals refine Post.ret1 rfl rfl ⟨_,rfl,hw,?_⟩
  all_goals obtain ⟨a1,a2,a3,a4⟩:=a
  all_goals obtain ⟨b1,b2,b3,b4⟩:=b
  all_goals simp_all
theorem Zcopy_ans (r:ZRow) (z:Zone) (w:World) (hr:RdZ w r z) (hn:r.Free.n*24≤140737488355328) (hm:r.Types.n*8≤140737488355328) :
    Ans Tryz.prog 99 [.agg (encZ r).toArray] w fun v w' => ∃ s,v = .agg (encZ s).toArray∧OwnZ w' w.heap.size s z∧s.Free.n=r.Free.n∧s.Types.n=r.Types.n:=by
  refine ans_of Tryz.func99 rfl Tryz.ntmps99 rfl ?_
  refine CW.seq (CW.region (SW.box rfl rfl fun b w1 hw hb hB => ?_))
  refine SW.alloc rfl fun b2 w2 hw2 hb2 hB2 => ?_
  have hb2w:w.heap.size≤b2:=Nat.le_trans hw.size hb2
  have hne:b2≠b:=by have:=hB.lt;omega
  replace hw:=Ext.trans hw hw2
  replace hB:=hB.ext hw2
  have hbw:=hb
  repeat' (first|(refine CW.seq ?_)|(refine Post.seq ?_)|refine SW.nil ?_)
  refine CW.any 7 mixed (rb_tail (by kernel_rfl)) rfl fun w1 hw1 hRB => ?_
  replace hw:=Ext.trans hw hw1;replace hB:=hB.ext hw1;replace hB2:=hB2.ext hw1;clear hw1
  refine SA.take 0 hRB rfl (by kernel_rfl) (by kernel_rfl) rfl ?_
  repeat ((show SW _ _ _ _ (⟨_,Op.fieldAddr _ _ _,_,_,_,none⟩::_) _ _;refine SW.st (st_field rfl) rfl ?_))
  refine SW.tknil ?_
  refine SA.take 1 hRB rfl (by kernel_rfl) (by kernel_rfl) rfl ?_
  repeat ((show SW _ _ _ _ (⟨_,Op.load _ _,_,_,_,none⟩::_) _ _;refine SW.st (st_load rfl (hB.cell rfl)) rfl ?_))
  refine SW.tknil ?_
  refine SA.take 3 hRB rfl (by kernel_rfl) (by kernel_rfl) rfl ?_
  repeat ((show SW _ _ _ _ (⟨_,Op.fieldAddr _ _ _,_,_,_,none⟩::_) _ _;refine SW.st (st_field rfl) rfl ?_))
  refine SW.tknil ?_
  refine SA.take 4 hRB rfl (by kernel_rfl) (by kernel_rfl) rfl ?_
  repeat ((show SW _ _ _ _ (⟨_,Op.load _ _,_,_,_,none⟩::_) _ _;refine SW.st (st_load rfl (hB.cell rfl)) rfl ?_))
  refine SW.tknil ?_
  refine SA.one 2 rfl (by kernel_rfl) rfl ?_
  refine SW.call rfl rfl (CloneBlock_ans _ _ _ _ _ (hr.free.ext hw) hn) fun v w4 hXX hv => ?_
  obtain ⟨X,c4,rfl,hX⟩:=hv
  replace hX:=hX.low hw.size
  replace hw:=Ext.trans hw hXX
  replace hB:=hB.ext hXX
  replace hB2:=hB2.ext hXX
  refine SW.nil (Post.sa hXX ?_)
  refine SA.take 6 hRB rfl (by kernel_rfl) (by kernel_rfl) rfl ?_
  repeat ((show SW _ _ _ _ (⟨_,Op.fieldAddr _ _ _,_,_,_,none⟩::_) _ _;refine SW.st (st_field rfl) rfl ?_))
  refine SW.tknil ?_
  refine SA.one 5 rfl (by kernel_rfl) rfl ?_
  refine SW.call rfl rfl (CloneInt_ans _ _ _ _ _ (hr.types.ext hw) hm) fun v w4 hXX hv => ?_
  obtain ⟨Y,d4,rfl,hY⟩:=hv
  replace hY:=hY.low hw.size
  replace hX:=hX.ext hXX
  replace hw:=Ext.trans hw hXX
  replace hB:=hB.ext hXX
  replace hB2:=hB2.ext hXX
  refine SW.nil (Post.sa hXX ?_)
  refine SA.done (by kernel_rfl) ?_
  skip
  refine SW.storeB (i:=2) hB rfl rfl rfl rfl fun w5 hB' hg => ?_
  replace hw:=hw.own hbw hg
  replace hX:=hX.grown hg (.inr (hX.ne_blk hB rfl))
  replace hY:=hY.grown hg (.inr (hY.ne_blk hB rfl))
  replace hB2:=hB2.grown hg (by simpa using hne)
  repeat' ((show SW _ _ _ _ (⟨_,Op.fieldAddr _ _ _,_,_,_,none⟩::_) _ _;refine SW.st (st_field rfl) rfl ?_))
  refine SW.storeB (i:=3) hB' rfl rfl rfl rfl fun w6 hB'' hg => ?_
  replace hw:=hw.own hbw hg
  replace hX:=hX.grown hg (.inr (hX.ne_blk hB' rfl))
  replace hY:=hY.grown hg (.inr (hY.ne_blk hB' rfl))
  replace hB2:=hB2.grown hg (by simpa using hne)
  repeat' (first|(first|refine CW.seq ?_|refine CW.region ?_)|(first|refine Post.seq ?_|refine Post.np ?_)|refine SW.nil ?_|(show SW _ _ _ _ (⟨_,Op.load _ _,_,_,_,none⟩::_) _ _;refine SW.st (st_loads rfl rfl ((fun _ _=>hB''.cell))) rfl ?_))
  refine SW.storeAgg hB2 rfl rfl rfl rfl (one_z ⟨r.From,r.To,⟨X,r.Free.n,c4⟩,⟨Y,r.Types.n,d4⟩⟩) fun w7 hR2 hg => ?_
  replace hw:=hw.own hb2w hg
  replace hX:=hX.grown hg (.inr (hX.ne_blk hB2 rfl))
  replace hY:=hY.grown hg (.inr (hY.ne_blk hB2 rfl))
  repeat' (first|(refine CW.ret ?_)|(refine Post.seq ?_)|refine SW.nil ?_)
  exact Post.ret1c rfl rfl hR2 rfl ⟨_,rfl,hw,⟨r.From,r.To,⟨X,r.Free.n,c4⟩,⟨Y,r.Types.n,d4⟩⟩,rfl,⟨hr.from_,hr.to_,hX,hY⟩,rfl,rfl⟩
def zoneNewV (f t:Int) : Int×Zone:=if zoneOk f t then (0,⟨f,t,[],List.replicate ((t-f) / 8).toNat 1⟩) else (1,.zero)
def ZoneOut (lo:Nat) (r:Int×Zone) (v:Value) (w:World) : Prop := ∃ s:ZRow,v = .tuple #[.agg (encZ s).toArray,.int .i64 r.1]∧OwnZ w lo s r.2
theorem zoneNewV_f {f t:Int} (h : ¬ zoneOk f t) : zoneNewV f t=(1,.zero):=if_neg h
theorem zoneNewV_t {f t:Int} (h:zoneOk f t) : zoneNewV f t=(0,⟨f,t,[],List.replicate ((t-f) / 8).toNat 1⟩):=if_pos h
theorem tmod16 {x:Int} (h : 0≤x) : x.tmod 16=x % 16:=Int.tmod_eq_emod_of_nonneg h
theorem rep_set (k i:Nat) (h:i<k) : (List.replicate i (1:Int)++List.replicate (k-i) 0).set i 1=List.replicate (i+1) 1++List.replicate (k-(i+1)) 0:=by
  apply List.ext_getElem (by simp;omega)
  intro j h1 h2
  rw [List.getElem_set]
  by_cases hj:i=j
  · subst hj;simp
  · simp only [hj,if_false,List.getElem_append,List.length_replicate,List.getElem_replicate]
    by_cases h3:j<i
    · simp [h3,show j<i+1 by omega]
    · simp [h3,show ¬ j<i+1 by omega]
theorem Znew_ans (f t:Int) (w:World) (hf : -9223372036854775808≤f∧f≤9223372036854775807) (ht : -9223372036854775808≤t∧t≤9223372036854775807) : Ans Tryz.prog 116 [.int .i64 f,.int .i64 t] w (ZoneOut w.heap.size (zoneNewV f t)):=by
  refine ans_of Tryz.func116 rfl Tryz.ntmps116 rfl ?_
  refine CW.seq (CW.region (SW.alloc rfl fun b4 w1 hw hb4b hb4 => ?_))
  have hb4w:=hb4b
  by_cases hok:zoneOk f t
  · obtain ⟨h1,h2,h3,h4,h5⟩:=id hok
    have m1:=tmod16 h1
    have m2:=tmod16 (show 0≤t by omega)
    rw [zoneNewV_t hok]
    obtain ⟨k,hk⟩ : ∃ k:Nat,(t-f) / 8=k:=⟨((t-f) / 8).toNat,by omega⟩
    repeat' (first|(first|refine CW.seq ?_|refine CW.region ?_|refine CW.condn_f rfl (by omega) ?_|refine CW.skip ?_)|(refine Post.seq ?_)|refine SW.nil ?_|(show SW _ _ _ _ (⟨_,_,_,_,_,some _⟩::_) _ _;first|refine SW.want_f rfl rfl (by with_reducible rfl) ?_|refine SW.splitd_f rfl rfl rfl (by omega) ?_|refine SW.splitn_f rfl rfl rfl (by omega) ?_)|refine SW.pure rfl rfl ?_|(show SW _ _ _ _ (⟨_,Op.binOp _ _ _ _ _,_,_,_,none⟩::_) _ _;first|refine SW.st (st_sub rfl rfl (by omega) (by omega)) rfl ?_|refine SW.st (st_quo rfl rfl (by omega) (by omega) (by omega)) rfl ?_|refine SW.st (st_rem rfl rfl (by omega)) rfl ?_))
    refine SW.make (enc:=encI) (k:=k) 0 rfl rfl (by omega) (by omega) (by omega) rfl fun A c w2 hw2 hO => ?_
    replace hO:=hO.low hw.size
    (replace hw:=Ext.trans hw hw2;replace hb4:=hb4.ext hw2)
    repeat' ((show SW _ _ _ _ (⟨_,Op.build _ _,_,_,_,none⟩::_) _ _;refine SW.st (st_build rfl rfl) rfl ?_))
    refine SW.alloc rfl fun b6 w1 hw1 hb6b hb6 => ?_
    have hb6w:w.heap.size≤b6:=Nat.le_trans hw.size hb6b
    have hne_b4:b4≠b6:=by have:=hb4.lt;omega
    replace hw:=Ext.trans hw hw1
    replace hb4:=hb4.ext hw1
    replace hO:=hO.ext hw1
    refine SW.storeAgg hb6 rfl rfl rfl rfl (one_z ⟨f,t,.nil,⟨A,k,c⟩⟩) fun w2 hb6' hg => ?_
    replace hw:=hw.own hb6w hg
    replace hO:=hO.grown hg (.inr (hO.ne_blk hb6 rfl))
    replace hb4:=hb4.grown hg (by simpa using hne_b4)
    replace hb6:=hb6'
    clear hb6' hw1 hg hb6b
    have hA:=hO.sl.base
    repeat' (first|(first|refine CW.seq ?_|refine CW.region ?_|refine CW.block ?_)|(refine Post.seq ?_)|refine SW.nil ?_|refine SW.pure rfl rfl ?_|(show SW _ _ _ _ (⟨_,Op.fieldAddr _ _ _,_,_,_,none⟩::_) _ _;refine SW.st (st_field rfl) rfl ?_)|(show SW _ _ _ _ (⟨_,Op.call ⟨.builtin .len,_,_⟩,_,_,_,none⟩::_) _ _;refine SW.st (st_len rfl) rfl ?_)|(show SW _ _ _ _ (⟨_,Op.load _ _,_,_,_,none⟩::_) _ _;refine SW.st (st_load rfl (hb6.cell rfl)) rfl ?_))
    refine CW.loop (fun i:Nat=>[(4,.pointer (some ⟨b4,0,none⟩)),(6,.pointer (some ⟨b6,0,none⟩)),(40,.int .i64 (k:Int)),(41,.int .i64 (i:Int))])
      (fun i w'=>i≤k∧Ext w w'∧Blk w' b4 72 (encZ .zero)∧Blk w' b6 72 (encZ ⟨f,t,.nil,⟨A,k,c⟩⟩)∧Own w' w.heap.size 3 1 encI A k c (List.replicate i 1++List.replicate (k-i) 0)) (fun i=>k-i) 0
      ⟨rfl,rfl,rfl,rfl,trivial⟩ ⟨by omega,hw,hb4,hb6,by simpa using hO⟩ ?_
    clear hw hb4 hb6 hO
    rintro i w' ⟨hi,hw,hb4,hb6,hO⟩
    have hA:=hO.sl.base
    by_cases hik:i<k
    · repeat' (first|(first|refine CW.seq ?_|refine CW.region ?_|refine CW.block ?_|refine CW.condd_t rfl (by omega) ?_|refine CW.skip ?_)|(refine Post.seq ?_)|refine SW.nil ?_|refine SW.pure rfl rfl ?_|(show SW _ _ _ _ (⟨_,Op.fieldAddr _ _ _,_,_,_,none⟩::_) _ _;refine SW.st (st_field rfl) rfl ?_)|(show SW _ _ _ _ (⟨_,Op.indexAddr _ _ _,_,_,_,none⟩::_) _ _;refine SW.st (st_indexN rfl rfl (by assumption) (by omega)) rfl ?_)|(show SW _ _ _ _ (⟨_,Op.load _ _,_,_,_,none⟩::_) _ _;refine SW.st (st_load rfl (hb6.cell rfl)) rfl ?_))
      refine SW.storeI i hO rfl rfl hik fun w3 hO3 hg => ?_
      replace hw:=ext_grown hw hg (Nat.le_refl _) hO.row_ge
      replace hb4:=hb4.grown hg (fun e=>hO.ne_blk hb4 rfl e.symm)
      replace hb6:=hb6.grown hg (fun e=>hO.ne_blk hb6 rfl e.symm)
      rw [rep_set k i hik] at hO3
      repeat' (first|(refine CW.region ?_)|(first|refine Post.seq ?_|refine Post.blk ?_)|refine SW.nil ?_|refine SW.pure rfl rfl ?_|(show SW _ _ _ _ (⟨_,Op.binOp _ _ _ _ _,_,_,_,none⟩::_) _ _;refine SW.st (st_add rfl rfl (by omega) (by omega)) rfl ?_))
      exact Post.again (i+1) ⟨rfl,rfl,rfl,rfl,trivial⟩ (by omega) ⟨by omega,hw,hb4,hb6,hO3⟩
    · obtain rfl:i=k:=by omega
      simp only [Nat.sub_self,List.replicate_zero,List.append_nil] at hO
      repeat' (first|(first|refine CW.seq ?_|refine CW.region ?_|refine CW.condd_f rfl (by omega) ?_|refine CW.exit ?_)|(first|refine Post.seq ?_|refine Post.seq_exit ?_|refine Post.hit ?_|refine Post.again_exit ?_)|refine SW.nil ?_|refine SW.pure rfl rfl ?_|(show SW _ _ _ _ (⟨_,Op.load _ _,_,_,_,none⟩::_) _ _;refine SW.st (st_loads rfl rfl ((fun _ _=>hb6.cell))) rfl ?_))
      refine SW.storeAgg hb4 rfl rfl rfl rfl (one_z ⟨f,t,.nil,⟨A,i,c⟩⟩) fun w5 hR2 hg => ?_
      replace hw:=hw.own hb4w hg
      replace hO:=hO.grown hg (.inr (hO.ne_blk hb4 rfl))
      repeat' (first|(refine CW.ret ?_)|(refine Post.seq ?_)|refine SW.nil ?_|refine SW.pure rfl rfl ?_)
      refine Post.ret2c rfl rfl rfl hR2 rfl ⟨_,rfl,hw,⟨f,t,.nil,⟨A,i,c⟩⟩,rfl,rfl,rfl,Own.nil_ _ _ _ _ _ _,?_⟩
      simp only [hk,Int.toNat_natCast]
      exact hO
  · rw [zoneNewV_f hok]
    unfold zoneOk at hok
    have m1:=fun h => @tmod16 f h
    have m2:=fun h => @tmod16 t h
    by_cases h1 : 0≤f
    · have m1:=m1 h1
      by_cases h2:f≤t
      · have m2:=m2 (by omega)
        repeat' (first|(first|refine CW.seq ?_|refine CW.region ?_|refine CW.condtr rfl (by with_reducible rfl) ?_|refine CW.condn_t rfl (by omega) ?_)|(refine Post.seq ?_)|refine SW.nil ?_|(show SW _ _ _ _ (⟨_,_,_,_,_,some _⟩::_) _ _;first|refine SW.want_f rfl rfl (by with_reducible rfl) ?_|refine SW.skip_f rfl rfl (by with_reducible rfl) rfl ?_|refine SW.splitd_f rfl rfl rfl (by omega) ?_|refine SW.splitd rfl rfl rfl (fun h => ?_) (fun h => ?_)|refine SW.splitn rfl rfl rfl (fun h => ?_) (fun h => ?_))|refine SW.pure rfl rfl ?_|(show SW _ _ _ _ (⟨_,Op.build _ _,_,_,_,none⟩::_) _ _;refine SW.st (st_build rfl rfl) rfl ?_)|(show SW _ _ _ _ (⟨_,Op.binOp _ _ _ _ _,_,_,_,none⟩::_) _ _;refine SW.st (st_rem rfl rfl (by omega)) rfl ?_))
        all_goals
          first
            | (exfalso;omega)
            | (refine SW.storeAgg hb4 rfl rfl rfl rfl (one_z .zero) fun w5 hR2 hg => ?_
               replace hw:=hw.own hb4w hg
               repeat' (first|(refine CW.ret ?_)|(first|refine Post.seq ?_|refine Post.seq_ret ?_)|refine SW.nil ?_|refine SW.pure rfl rfl ?_)
               exact Post.ret2c rfl rfl rfl hR2 rfl ⟨_,rfl,hw,.zero,rfl,OwnZ.zero _ _⟩)
      · repeat' (first|(first|refine CW.seq ?_|refine CW.region ?_|refine CW.condtr rfl (by with_reducible rfl) ?_)|(refine Post.seq ?_)|refine SW.nil ?_|(show SW _ _ _ _ (⟨_,_,_,_,_,some _⟩::_) _ _;first|refine SW.want_f rfl rfl (by with_reducible rfl) ?_|refine SW.skip_f rfl rfl (by with_reducible rfl) rfl ?_|refine SW.splitd_t rfl rfl rfl (by omega) ?_|refine SW.splitd_f rfl rfl rfl (by omega) ?_|refine SW.splitd rfl rfl rfl (fun h => ?_) (fun h => ?_))|refine SW.pure rfl rfl ?_|(show SW _ _ _ _ (⟨_,Op.build _ _,_,_,_,none⟩::_) _ _;refine SW.st (st_build rfl rfl) rfl ?_))
        all_goals
          refine SW.storeAgg hb4 rfl rfl rfl rfl (one_z .zero) fun w5 hR2 hg => ?_
          replace hw:=hw.own hb4w hg
          repeat' (first|(refine CW.ret ?_)|(first|refine Post.seq ?_|refine Post.seq_ret ?_)|refine SW.nil ?_|refine SW.pure rfl rfl ?_)
          exact Post.ret2c rfl rfl rfl hR2 rfl ⟨_,rfl,hw,.zero,rfl,OwnZ.zero _ _⟩
    · repeat' (first|(first|refine CW.seq ?_|refine CW.region ?_|refine CW.condtr rfl (by with_reducible rfl) ?_)|(refine Post.seq ?_)|refine SW.nil ?_|(show SW _ _ _ _ (⟨_,_,_,_,_,some _⟩::_) _ _;first|refine SW.skip_f rfl rfl (by with_reducible rfl) rfl ?_|refine SW.splitd_t rfl rfl rfl (by omega) ?_)|refine SW.pure rfl rfl ?_|(show SW _ _ _ _ (⟨_,Op.build _ _,_,_,_,none⟩::_) _ _;refine SW.st (st_build rfl rfl) rfl ?_))
      all_goals
        refine SW.storeAgg hb4 rfl rfl rfl rfl (one_z .zero) fun w5 hR2 hg => ?_
        replace hw:=hw.own hb4w hg
        repeat' (first|(refine CW.ret ?_)|(first|refine Post.seq ?_|refine Post.seq_ret ?_)|refine SW.nil ?_|refine SW.pure rfl rfl ?_)
        exact Post.ret2c rfl rfl rfl hR2 rfl ⟨_,rfl,hw,.zero,rfl,OwnZ.zero _ _⟩
open Go.RowKit
def GrT (w w':World) (t:TypeId) : Prop := ∃ row,w.grownBy w' row ∧ ∀ k,row=some k → ∃ cs,w.heap[k]?=some (.cells cs t (0,0))
theorem Own.gr {α : Type} {w w':World} {lo:Nat} {e:TypeId} {sz:Nat} {enc : α → List Value} {A:Option Addr} {n c:Nat} {l:List α} (h:Own w lo e sz enc A n c l) (hg:w.grownBy w' (ownB A c)) : GrT w w' e:=by
 refine ⟨_,hg,fun k hk => ?_⟩
 rcases h.row with ⟨_,rfl⟩|⟨hc,g,cur,rfl,_,h2,_⟩
 ·simp [ownB] at hk
 ·simp [ownB,Nat.pos_iff_ne_zero.1 hc] at hk
  subst hk
  exact ⟨cur,h2⟩
theorem Blk.gr {w w':World} {b:Nat} {t:TypeId} {cs:List Value} (h:Blk w b t cs) (hg:w.grownBy w' (some b)) : GrT w w' t:=⟨_,hg,fun k hk=>by cases hk;exact ⟨_,h⟩⟩
theorem Own.grT {α : Type} {w w':World} {t lo:Nat} {e:TypeId} {sz:Nat} {enc : α → List Value} {A:Option Addr} {n c:Nat} {l:List α} (h:Own w lo e sz enc A n c l) (hG:GrT w w' t) (hne:Nat.beq t e=false) : Own w' lo e sz enc A n c l:=by
 obtain ⟨row,hg,hr⟩:=hG
 refine h.grown hg ?_
 rcases h.row with ⟨_,rfl⟩|⟨hc,g,cur,rfl,_,h2,_⟩
 ·simp [ownB]
 ·right
  rintro rfl
  obtain ⟨cs,h3⟩:=hr g (by simp [ownB,Nat.pos_iff_ne_zero.1 hc])
  rw [h2] at h3
  injection h3 with h3
  injection h3 with _ h _
  subst h
  simp at hne
theorem Blk.grT {w w':World} {b t:Nat} {t':TypeId} {cs:List Value} (h:Blk w b t' cs) (hG:GrT w w' t) (hne:Nat.beq t t'=false) : Blk w' b t' cs:=by
 obtain ⟨row,hg,hr⟩:=hG
 refine h.grown hg ?_
 rintro rfl
 obtain ⟨cs,h3⟩:=hr b rfl
 unfold Blk at h
 rw [h] at h3
 injection h3 with h3
 injection h3 with _ h _
 subst h
 simp at hne
theorem Own.lt_size {α : Type} {w:World} {lo:Nat} {e:TypeId} {sz:Nat} {enc : α → List Value} {A:Option Addr} {n c:Nat} {l:List α} (h:Own w lo e sz enc A n c l) : ∀ k,ownB A c=some k→k<w.heap.size:=by
 intro k hk
 rcases h.row with ⟨_,rfl⟩|⟨hc,g,cur,rfl,_,h2,_⟩
 ·simp [ownB] at hk
 ·simp [ownB,Nat.pos_iff_ne_zero.1 hc] at hk
  subst hk
  exact (Array.getElem?_eq_some_iff.1 h2).1
structure All2 {α β : Type} (R : α → β → Prop) (xs:List α) (ys:List β) : Prop where
 len:xs.length=ys.length
 get:∀ (i:Nat) (h1:i<xs.length) (h2:i<ys.length),R xs[i] ys[i]
theorem All2.mono {α β : Type} {R R' : α → β → Prop} {xs:List α} {ys:List β} (h:All2 R xs ys) (hm:∀ a b,R a b→R' a b) : All2 R' xs ys:=⟨h.len,fun i h1 h2=>hm _ _ (h.get i h1 h2)⟩
theorem All2.nil {α β : Type} {R : α → β → Prop}:All2 R ([] : List α) ([] : List β):=⟨rfl,fun i h1 h2=>by simp at h1⟩
theorem All2.snoc {α β : Type} {R : α → β → Prop} {xs:List α} {ys:List β} (h:All2 R xs ys) {x : α} {y : β} (hr:R x y) : All2 R (xs++[x]) (ys++[y]):=by
 refine ⟨by simp [h.len],fun i h1 h2 => ?_⟩
 have hl:=h.len
 by_cases hi:i<xs.length
 ·rw [List.getElem_append_left hi,List.getElem_append_left (by omega)]
  exact h.get i hi (by omega)
 ·have e:i=xs.length:=by simp at h1;omega
  subst e
  simp [hl]
  exact hr
structure LRow where
 Cpu:Int
 Zone:Int
 Ty:Int
 Pages:Sli
def encL (r:LRow) : List Value:=[.int .i64 r.Cpu,.int .i64 r.Zone,.int .i64 r.Ty,r.Pages.v]
instance:Enc encL 4:=⟨fun _=>rfl,fun r u hu=>by simp [encL,Sli.v] at hu;rcases hu with rfl|rfl|rfl|rfl<;>rfl⟩
structure HRow where
 Zones:Sli
 Mins:Sli
 Cpus:Int
 Lists:Sli
 Live:Sli
def encH (r:HRow) : List Value:=[r.Zones.v,r.Mins.v,.int .i64 r.Cpus,r.Lists.v,r.Live.v]
instance:Enc encH 5:=⟨fun _=>rfl,fun r u hu=>by simp [encH,Sli.v] at hu;rcases hu with rfl|rfl|rfl|rfl|rfl<;>rfl⟩
def HRow.zero:HRow:=⟨.nil,.nil,0,.nil,.nil⟩
def Heap.zero:Heap:=⟨[],[],0,[],[]⟩
structure RdL (w:World) (r:LRow) (l:PList) : Prop where
 cpu:r.Cpu=l.Cpu
 zone:r.Zone=l.Zone
 ty:r.Ty=l.Ty
 pages:Sl w 1 encI r.Pages.A r.Pages.n l.Pages
structure OwnL (w:World) (lo:Nat) (r:LRow) (l:PList) : Prop where
 cpu:r.Cpu=l.Cpu
 zone:r.Zone=l.Zone
 ty:r.Ty=l.Ty
 pages:Own w lo 3 1 encI r.Pages.A r.Pages.n r.Pages.c l.Pages
theorem RdL.ext {w w':World} {r:LRow} {l:PList} (h:RdL w r l) (hx:Ext w w') : RdL w' r l:=⟨h.cpu,h.zone,h.ty,h.pages.ext hx⟩
theorem OwnL.ext {w w':World} {lo:Nat} {r:LRow} {l:PList} (h:OwnL w lo r l) (hx:Ext w w') : OwnL w' lo r l:=⟨h.cpu,h.zone,h.ty,h.pages.ext hx⟩
theorem OwnL.low {w:World} {lo lo':Nat} {r:LRow} {l:PList} (h:OwnL w lo r l) (hl:lo'≤lo) : OwnL w lo' r l:=⟨h.cpu,h.zone,h.ty,h.pages.low hl⟩
theorem OwnL.rd {w:World} {lo:Nat} {r:LRow} {l:PList} (h:OwnL w lo r l) : RdL w r l:=⟨h.cpu,h.zone,h.ty,h.pages.sl⟩
theorem OwnL.grT {w w':World} {t lo:Nat} {r:LRow} {l:PList} (h:OwnL w lo r l) (hG:GrT w w' t) (hne:Nat.beq t 3=false) : OwnL w' lo r l:=⟨h.cpu,h.zone,h.ty,h.pages.grT hG hne⟩
theorem OwnZ.grT {w w':World} {t lo:Nat} {r:ZRow} {z:Zone} (h:OwnZ w lo r z) (hG:GrT w w' t) (hne:(Nat.beq t 3 || Nat.beq t 94)=false) : OwnZ w' lo r z:=by
 simp only [Bool.or_eq_false_iff] at hne
 exact ⟨h.from_,h.to_,h.free.grT hG hne.2,h.types.grT hG hne.1⟩
structure RdZs (w:World) (s:Sli) (zs:List ZRow) (l:List Zone) : Prop where
 row:Sl w 4 encZ s.A s.n zs
 each:All2 (RdZ w) zs l
structure OwnZs (w:World) (lo:Nat) (s:Sli) (zs:List ZRow) (l:List Zone) : Prop where
 row:Own w lo 72 4 encZ s.A s.n s.c zs
 each:All2 (OwnZ w lo) zs l
structure RdLs (w:World) (s:Sli) (ls:List LRow) (l:List PList) : Prop where
 row:Sl w 4 encL s.A s.n ls
 each:All2 (RdL w) ls l
structure OwnLs (w:World) (lo:Nat) (s:Sli) (ls:List LRow) (l:List PList) : Prop where
 row:Own w lo 75 4 encL s.A s.n s.c ls
 each:All2 (OwnL w lo) ls l
section
variable {w w':World} {lo lo' t:Nat} {s:Sli} {zs:List ZRow} {z:List Zone} {ls:List LRow} {l:List PList}
theorem RdZs.ext (h:RdZs w s zs z) (hx:Ext w w') : RdZs w' s zs z:=⟨h.row.ext hx,h.each.mono fun _ _ h=>h.ext hx⟩
theorem RdLs.ext (h:RdLs w s ls l) (hx:Ext w w') : RdLs w' s ls l:=⟨h.row.ext hx,h.each.mono fun _ _ h=>h.ext hx⟩
theorem OwnZs.ext (h:OwnZs w lo s zs z) (hx:Ext w w') : OwnZs w' lo s zs z:=⟨h.row.ext hx,h.each.mono fun _ _ h=>h.ext hx⟩
theorem OwnLs.ext (h:OwnLs w lo s ls l) (hx:Ext w w') : OwnLs w' lo s ls l:=⟨h.row.ext hx,h.each.mono fun _ _ h=>h.ext hx⟩
theorem OwnZs.low (h:OwnZs w lo s zs z) (hl:lo'≤lo) : OwnZs w lo' s zs z:=⟨h.row.low hl,h.each.mono fun _ _ h=>h.low hl⟩
theorem OwnLs.low (h:OwnLs w lo s ls l) (hl:lo'≤lo) : OwnLs w lo' s ls l:=⟨h.row.low hl,h.each.mono fun _ _ h=>h.low hl⟩
theorem OwnZs.rd (h:OwnZs w lo s zs z) : RdZs w s zs z:=⟨h.row.sl,h.each.mono fun _ _ h=>h.rd⟩
theorem OwnLs.rd (h:OwnLs w lo s ls l) : RdLs w s ls l:=⟨h.row.sl,h.each.mono fun _ _ h=>h.rd⟩
theorem OwnZs.grT (h:OwnZs w lo s zs z) (hG:GrT w w' t) (hne:(Nat.beq t 72 || (Nat.beq t 3 || Nat.beq t 94))=false) : OwnZs w' lo s zs z:=by
 rw [Bool.or_eq_false_iff] at hne
 exact ⟨h.row.grT hG hne.1,h.each.mono fun _ _ h=>h.grT hG hne.2⟩
theorem OwnLs.grT (h:OwnLs w lo s ls l) (hG:GrT w w' t) (hne:(Nat.beq t 75 || Nat.beq t 3)=false) : OwnLs w' lo s ls l:=by
 rw [Bool.or_eq_false_iff] at hne
 exact ⟨h.row.grT hG hne.1,h.each.mono fun _ _ h=>h.grT hG hne.2⟩
theorem OwnZs.nil (w:World) (lo:Nat) : OwnZs w lo .nil [] []:=⟨Own.nil_ _ _ _ _ _ _,.nil⟩
theorem OwnLs.nil (w:World) (lo:Nat) : OwnLs w lo .nil [] []:=⟨Own.nil_ _ _ _ _ _ _,.nil⟩
theorem RdZs.len (h:RdZs w s zs z) : zs.length=s.n∧z.length=s.n:=⟨h.row.len,by rw [← h.each.len,h.row.len]⟩
theorem RdLs.len (h:RdLs w s ls l) : ls.length=s.n∧l.length=s.n:=⟨h.row.len,by rw [← h.each.len,h.row.len]⟩
end
structure RdH (w:World) (r:HRow) (h:Heap) : Prop where
 cpus:r.Cpus=h.Cpus
 mins:Sl w 1 encI r.Mins.A r.Mins.n h.Mins
 live:Sl w 3 encBk r.Live.A r.Live.n h.Live
 zones:∃ zs,RdZs w r.Zones zs h.Zones
 lists:∃ ls,RdLs w r.Lists ls h.Lists
structure OwnH (w:World) (lo:Nat) (r:HRow) (h:Heap) : Prop where
 cpus:r.Cpus=h.Cpus
 mins:Own w lo 3 1 encI r.Mins.A r.Mins.n r.Mins.c h.Mins
 live:Own w lo 94 3 encBk r.Live.A r.Live.n r.Live.c h.Live
 zones:∃ zs,OwnZs w lo r.Zones zs h.Zones
 lists:∃ ls,OwnLs w lo r.Lists ls h.Lists
section
variable {w w':World} {lo lo' t:Nat} {r:HRow} {h:Heap}
theorem RdH.ext (a:RdH w r h) (hx:Ext w w') : RdH w' r h:=by
 obtain ⟨zs,hz⟩:=a.zones
 obtain ⟨ls,hl⟩:=a.lists
 exact ⟨a.cpus,a.mins.ext hx,a.live.ext hx,⟨zs,hz.ext hx⟩,⟨ls,hl.ext hx⟩⟩
theorem OwnH.ext (a:OwnH w lo r h) (hx:Ext w w') : OwnH w' lo r h:=by
 obtain ⟨zs,hz⟩:=a.zones
 obtain ⟨ls,hl⟩:=a.lists
 exact ⟨a.cpus,a.mins.ext hx,a.live.ext hx,⟨zs,hz.ext hx⟩,⟨ls,hl.ext hx⟩⟩
theorem OwnH.low (a:OwnH w lo r h) (hl':lo'≤lo) : OwnH w lo' r h:=by
 obtain ⟨zs,hz⟩:=a.zones
 obtain ⟨ls,hl⟩:=a.lists
 exact ⟨a.cpus,a.mins.low hl',a.live.low hl',⟨zs,hz.low hl'⟩,⟨ls,hl.low hl'⟩⟩
theorem OwnH.rd (a:OwnH w lo r h) : RdH w r h:=by
 obtain ⟨zs,hz⟩:=a.zones
 obtain ⟨ls,hl⟩:=a.lists
 exact ⟨a.cpus,a.mins.sl,a.live.sl,⟨zs,hz.rd⟩,⟨ls,hl.rd⟩⟩
theorem OwnH.grT (a:OwnH w lo r h) (hG:GrT w w' t) (hne:(Nat.beq t 3 || (Nat.beq t 94 || (Nat.beq t 72 || Nat.beq t 75)))=false) : OwnH w' lo r h:=by
 obtain ⟨zs,hz⟩:=a.zones
 obtain ⟨ls,hl⟩:=a.lists
 simp only [Bool.or_eq_false_iff] at hne
 obtain ⟨h1,h2,h3,h4⟩:=hne
 exact ⟨a.cpus,a.mins.grT hG h1,a.live.grT hG h2,⟨zs,hz.grT hG (by simp [h1,h2,h3])⟩,⟨ls,hl.grT hG (by simp [h1,h4])⟩⟩
theorem OwnH.zero (w:World) (lo:Nat) : OwnH w lo .zero .zero:=⟨rfl,Own.nil_ _ _ _ _ _ _,Own.nil_ _ _ _ _ _ _,⟨[],.nil _ _⟩,⟨[],.nil _ _⟩⟩
end
structure Heap.small (h:Heap) : Prop where
 zones:h.Zones.length*64≤140737488355328
 mins:h.Mins.length*8≤140737488355328
 lists:h.Lists.length*48≤140737488355328
 live:h.Live.length*24≤140737488355328
 free:∀ z∈h.Zones,z.Free.length*24≤140737488355328∧z.Types.length*8≤140737488355328
 pages:∀ l∈h.Lists,l.Pages.length*8≤140737488355328
end Go.Proofs.YtigikedbffjeiaaGreat
set_option linter.unusedVariables false
set_option maxRecDepth 100000
namespace Go.Proofs.YtigikedbffjeiaaGreat
open Go.ChangeShapes Go.WideShapes Go.ChangeAt Go.RowKit Go.Deep Go.Joins
section
variable {H:Type} {enc:TypeId×Value→H} {W:World} {base:Nat} {spare:Nat→Bool} {held:Bool} {fuel:Nat} {cs:List Value} {x:DataW H×List MemPlace}
theorem weightsAll_mem {P:Program} {e:TypeId}:∀ {l:List (DataW H)} {d:DataW H},d∈l → ∀ n∈d.weights P e,n∈DataW.weightsAll P e l
 | a::r,d,h,n,hn=>by
  simp only [DataW.weightsAll,List.mem_append]
  rcases List.mem_cons.1 h with rfl|h
  ·exact .inl hn
  ·exact .inr (weightsAll_mem h n hn)
theorem all2_of {α β : Type} {R : α → β → Prop}:∀ (l:List α),(∀ a∈l,∃ b,R a b) → ∃ bs:List β,All2 R l bs
 | [],_=>⟨[],.nil⟩
 | a::r,h=>by
  obtain ⟨b,hb⟩:=h a (by simp)
  obtain ⟨bs,hbs⟩:=all2_of r (fun x hx=>h x (by simp [hx]))
  refine ⟨b::bs,by simp [hbs.len],fun i h1 h2 => ?_⟩
  cases i with
  | zero=>exact hb
  | succ i=>exact hbs.get i (by simpa using h1) (by simpa using h2)
theorem open_slw {α : Type} {t e sz b:Nat} [S:SliceTy Tryz.prog t e sz] (hc:Tryz.prog.cellsOf e=sz) (hby:Tryz.prog.bytesOf e=b) {en : α → List Value} {Good : α → Prop}
  (hel:∀ fuel cs x,DataW.trod enc Tryz.prog W base spare held fuel e cs=some x→(∀ y∈x.1.weights Tryz.prog e,y≤reachBytes) → ∃ a : α,cs=en a∧Good a) (h:DataW.trod enc Tryz.prog W base spare held fuel t cs=some x) (hw:∀ y∈x.1.weights Tryz.prog t,y≤reachBytes) :
  ∃ A n c l,cs=[.slice A n c]∧Sl W sz en A n l∧n*b≤140737488351232 ∧ ∀ a∈l,Good a:=by
 rcases open_slice S.und h with ⟨h1,h2⟩|⟨a,len,cap,m,k,D,Pl,h1,hb,hl,hm,hmm,hx,hi⟩
 ·exact ⟨none,0,0,[],h1,Sl.nil_ _ _ _ _,by simp,by simp⟩
 ·have hlm:len≤m:=by rw [hmm];split<;>omega
  have hx1:x.1 = .slice ((List.range len).map D) ((List.range (m-len)).map fun j=>D (len+j)):=by rw [hx]
  have hnb:len*b≤140737488351232:=by
   have:=hw ((((List.range len).map D).length+((List.range (m-len)).map fun j=>D (len+j)).length)*Tryz.prog.bytesOf e) (by rw [hx1];simp [DataW.weights,S.und])
   rw [hby] at this
   simp only [reachBytes] at this
   refine Nat.le_trans (Nat.mul_le_mul_right _ ?_) this
   simp
  have hex:∀ i,i<len → ∃ q : α,Good q ∧ ∀ j u,(en q)[j]?=some u→W.cell? ((a.add (i*sz)).add j)=some u:=fun i hlt=>by
   obtain ⟨cs',hcs,ht⟩:=hi i (by omega)
   obtain ⟨q,rfl,hg⟩:=hel _ _ _ ht (fun y hy=>by
    apply hw
    rw [hx1]
    simp only [DataW.weights,S.und,List.mem_cons,List.mem_append]
    exact .inr (.inl (weightsAll_mem (List.mem_map.2 ⟨i,by simpa using hlt,rfl⟩) y hy)))
   obtain ⟨_,hcl,hat⟩:=World.cells?_some hcs
   rw [hc] at hcl hat
   refine ⟨q,hg,fun j u hu => ?_⟩
   have hj:j<(en q).length:=by
    rcases Nat.lt_or_ge j (en q).length with h|h
    ·exact h
    ·simp [List.getElem?_eq_none h] at hu
   rw [hat j (by omega)]
   exact hu
  by_cases h0:len=0
  ·subst h0
   exact ⟨some a,0,cap,[],h1,Sl.nil_ _ _ _ _,by simp,by simp⟩
  have hch:∃ f:Nat → α,∀ i,i<len→Good (f i) ∧ ∀ j u,(en (f i))[j]?=some u→W.cell? ((a.add (i*sz)).add j)=some u:=by
   have hne:Nonempty α := ⟨(hex 0 (by omega)).choose⟩
   exact ⟨fun i=>if h:i<len then (hex i h).choose else Classical.choice hne,fun i h=>by simp only [h,dif_pos];exact (hex i h).choose_spec⟩
  obtain ⟨f,hf⟩:=hch
  refine ⟨some a,len,cap,(List.range len).map f,h1,⟨by simp,fun _=>rfl,fun i hi' j u hu => ?_⟩,hnb,?_⟩
  ·simp at hi'
   exact (hf i hi').2 j u (by simpa using hu)
  ·intro q hq
   obtain ⟨i,hi',rfl⟩:=List.mem_map.1 hq
   exact (hf i (by simpa using hi')).1
theorem elw_int {t:TypeId} (ht:Tryz.prog.underlying t=some (.int .i64)) : ∀ fuel cs x,DataW.trod enc Tryz.prog W base spare held fuel t cs=some x→(∀ y∈x.1.weights Tryz.prog t,y≤reachBytes) → ∃ z:Int,cs=encI z∧in64 z:=fun _ _ _ h _=>el_int ht h
theorem elw_block:∀ fuel cs x,DataW.trod enc Tryz.prog W base spare held fuel 94 cs=some x→(∀ y∈x.1.weights Tryz.prog 94,y≤reachBytes) → ∃ r:Block,cs=encBk r∧True:=fun _ _ _ h _=>el_block h
def Zone.good (z:Zone) : Prop:=in64 z.From∧in64 z.To∧z.Free.length*24≤140737488351232∧z.Types.length*8≤140737488351232
theorem elw_zone:∀ fuel cs x,DataW.trod enc Tryz.prog W base spare held fuel 72 cs=some x→(∀ y∈x.1.weights Tryz.prog 72,y≤reachBytes) → ∃ r:ZRow,cs=encZ r ∧ ∃ z:Zone,RdZ W r z∧z.good:=by
 intro fuel cs x h hw
 obtain ⟨xs,n,_,rfl,hlen,hxl,hf⟩:=DataW.trod_struct Tryz.underlying72 h
 have hc:Tryz.prog.cellsOf 72=4:=by kernel_rfl
 have hi:Tryz.prog.cellsOf 3=1:=by kernel_rfl
 have hi2:Tryz.prog.cellsOf 25=1:=by kernel_rfl
 have hi3:Tryz.prog.cellsOf 22=1:=by kernel_rfl
 rw [hc] at hlen
 match cs,hlen with
 | [c0,c1,c2,c3],_ =>
  match xs,hxl with
  | [y0,y1,y2,y3],_ =>
   have h0:DataW.trod enc Tryz.prog W base spare held n 3 (List.take (Tryz.prog.cellsOf 3) (List.drop 0 [c0,c1,c2,c3]))=some y0:=hf 0 _ rfl
   have h1:DataW.trod enc Tryz.prog W base spare held n 3 (List.take (Tryz.prog.cellsOf 3) (List.drop 1 [c0,c1,c2,c3]))=some y1:=hf 1 _ rfl
   have h2:DataW.trod enc Tryz.prog W base spare held n 25 (List.take (Tryz.prog.cellsOf 25) (List.drop 2 [c0,c1,c2,c3]))=some y2:=hf 2 _ rfl
   have h3:DataW.trod enc Tryz.prog W base spare held n 22 (List.take (Tryz.prog.cellsOf 22) (List.drop 3 [c0,c1,c2,c3]))=some y3:=hf 3 _ rfl
   rw [hi] at h0 h1
   rw [hi2] at h2
   rw [hi3] at h3
   have w2:=bd_field Tryz.underlying72 (j:=2) rfl rfl hw
   have w3:=bd_field Tryz.underlying72 (j:=3) rfl rfl hw
   obtain ⟨a,ha,wa⟩:=el_int Tryz.underlying3 h0
   obtain ⟨b,hb,wb⟩:=el_int Tryz.underlying3 h1
   obtain ⟨A2,n2,k2,l2,e2,s2,b2,_⟩:=open_slw (t:=25) (b:=24) (by kernel_rfl) (by kernel_rfl) elw_block h2 w2
   obtain ⟨A3,n3,k3,l3,e3,s3,b3,_⟩:=open_slw (t:=22) (b:=8) (by kernel_rfl) (by kernel_rfl) (elw_int Tryz.underlying3) h3 w3
   simp [encI] at ha hb e2 e3
   subst ha hb e2 e3
   refine ⟨⟨a,b,⟨A2,n2,k2⟩,⟨A3,n3,k3⟩⟩,rfl,⟨a,b,l2,l3⟩,⟨rfl,rfl,s2,s3⟩,wa,wb,?_,?_⟩
   ·simp only [s2.len];exact b2
   ·simp only [s3.len];exact b3
theorem elw_list:∀ fuel cs x,DataW.trod enc Tryz.prog W base spare held fuel 75 cs=some x→(∀ y∈x.1.weights Tryz.prog 75,y≤reachBytes) → ∃ r:LRow,cs=encL r ∧ ∃ l:PList,RdL W r l∧l.Pages.length*8≤140737488351232:=by
 intro fuel cs x h hw
 obtain ⟨xs,n,_,rfl,hlen,hxl,hf⟩:=DataW.trod_struct Tryz.underlying75 h
 have hc:Tryz.prog.cellsOf 75=4:=by kernel_rfl
 have hi:Tryz.prog.cellsOf 3=1:=by kernel_rfl
 have hi3:Tryz.prog.cellsOf 22=1:=by kernel_rfl
 rw [hc] at hlen
 match cs,hlen with
 | [c0,c1,c2,c3],_ =>
  match xs,hxl with
  | [y0,y1,y2,y3],_ =>
   have h0:DataW.trod enc Tryz.prog W base spare held n 3 (List.take (Tryz.prog.cellsOf 3) (List.drop 0 [c0,c1,c2,c3]))=some y0:=hf 0 _ rfl
   have h1:DataW.trod enc Tryz.prog W base spare held n 3 (List.take (Tryz.prog.cellsOf 3) (List.drop 1 [c0,c1,c2,c3]))=some y1:=hf 1 _ rfl
   have h2:DataW.trod enc Tryz.prog W base spare held n 3 (List.take (Tryz.prog.cellsOf 3) (List.drop 2 [c0,c1,c2,c3]))=some y2:=hf 2 _ rfl
   have h3:DataW.trod enc Tryz.prog W base spare held n 22 (List.take (Tryz.prog.cellsOf 22) (List.drop 3 [c0,c1,c2,c3]))=some y3:=hf 3 _ rfl
   rw [hi] at h0 h1 h2
   rw [hi3] at h3
   have w3:=bd_field Tryz.underlying75 (j:=3) rfl rfl hw
   obtain ⟨a,ha,wa⟩:=el_int Tryz.underlying3 h0
   obtain ⟨b,hb,wb⟩:=el_int Tryz.underlying3 h1
   obtain ⟨c,hcc,wc⟩:=el_int Tryz.underlying3 h2
   obtain ⟨A3,n3,k3,l3,e3,s3,b3,_⟩:=open_slw (t:=22) (b:=8) (by kernel_rfl) (by kernel_rfl) (elw_int Tryz.underlying3) h3 w3
   simp [encI] at ha hb hcc e3
   subst ha hb hcc e3
   refine ⟨⟨a,b,c,⟨A3,n3,k3⟩⟩,rfl,⟨a,b,c,l3⟩,⟨rfl,rfl,rfl,s3⟩,?_⟩
   simp only [s3.len];exact b3
structure Heap.good (h:Heap) : Prop where
 small:h.small
 zones:∀ z∈h.Zones,z.good
theorem elw_heap:∀ fuel cs x,DataW.trod enc Tryz.prog W base spare held fuel 27 cs=some x→(∀ y∈x.1.weights Tryz.prog 27,y≤reachBytes) → ∃ r:HRow,cs=encH r ∧ ∃ h:Heap,RdH W r h∧h.good:=by
 intro fuel cs x h hw
 obtain ⟨xs,n,_,rfl,hlen,hxl,hf⟩:=DataW.trod_struct Tryz.underlying27 h
 have hc:Tryz.prog.cellsOf 27=5:=by kernel_rfl
 have hi:Tryz.prog.cellsOf 3=1:=by kernel_rfl
 have hi1:Tryz.prog.cellsOf 22=1:=by kernel_rfl
 have hi2:Tryz.prog.cellsOf 23=1:=by kernel_rfl
 have hi3:Tryz.prog.cellsOf 24=1:=by kernel_rfl
 have hi4:Tryz.prog.cellsOf 25=1:=by kernel_rfl
 rw [hc] at hlen
 match cs,hlen with
 | [c0,c1,c2,c3,c4],_ =>
  match xs,hxl with
  | [y0,y1,y2,y3,y4],_ =>
   have h0:DataW.trod enc Tryz.prog W base spare held n 23 (List.take (Tryz.prog.cellsOf 23) (List.drop 0 [c0,c1,c2,c3,c4]))=some y0:=hf 0 _ rfl
   have h1:DataW.trod enc Tryz.prog W base spare held n 22 (List.take (Tryz.prog.cellsOf 22) (List.drop 1 [c0,c1,c2,c3,c4]))=some y1:=hf 1 _ rfl
   have h2:DataW.trod enc Tryz.prog W base spare held n 3 (List.take (Tryz.prog.cellsOf 3) (List.drop 2 [c0,c1,c2,c3,c4]))=some y2:=hf 2 _ rfl
   have h3:DataW.trod enc Tryz.prog W base spare held n 24 (List.take (Tryz.prog.cellsOf 24) (List.drop 3 [c0,c1,c2,c3,c4]))=some y3:=hf 3 _ rfl
   have h4:DataW.trod enc Tryz.prog W base spare held n 25 (List.take (Tryz.prog.cellsOf 25) (List.drop 4 [c0,c1,c2,c3,c4]))=some y4:=hf 4 _ rfl
   rw [hi2] at h0
   rw [hi1] at h1
   rw [hi] at h2
   rw [hi3] at h3
   rw [hi4] at h4
   have w0:=bd_field Tryz.underlying27 (j:=0) rfl rfl hw
   have w1:=bd_field Tryz.underlying27 (j:=1) rfl rfl hw
   have w3:=bd_field Tryz.underlying27 (j:=3) rfl rfl hw
   have w4:=bd_field Tryz.underlying27 (j:=4) rfl rfl hw
   obtain ⟨A0,n0,k0,l0,e0,s0,b0,g0⟩:=open_slw (t:=23) (b:=64) (by kernel_rfl) (by kernel_rfl) elw_zone h0 w0
   obtain ⟨A1,n1,k1,l1,e1,s1,b1,_⟩:=open_slw (t:=22) (b:=8) (by kernel_rfl) (by kernel_rfl) (elw_int Tryz.underlying3) h1 w1
   obtain ⟨b,hb,wb⟩:=el_int Tryz.underlying3 h2
   obtain ⟨A3,n3,k3,l3,e3,s3,b3,g3⟩:=open_slw (t:=24) (b:=48) (by kernel_rfl) (by kernel_rfl) elw_list h3 w3
   obtain ⟨A4,n4,k4,l4,e4,s4,b4,_⟩:=open_slw (t:=25) (b:=24) (by kernel_rfl) (by kernel_rfl) elw_block h4 w4
   obtain ⟨Z,hZ⟩:=all2_of l0 g0
   obtain ⟨L,hL⟩:=all2_of l3 g3
   simp [encI] at e0 e1 hb e3 e4
   subst e0 e1 hb e3 e4
   refine ⟨⟨⟨A0,n0,k0⟩,⟨A1,n1,k1⟩,b,⟨A3,n3,k3⟩,⟨A4,n4,k4⟩⟩,rfl,⟨Z,l1,b,L,l4⟩,⟨rfl,s1,s4,⟨l0,s0,hZ.mono fun _ _ h=>h.1⟩,⟨l3,s3,hL.mono fun _ _ h=>h.1⟩⟩,⟨?_,?_,?_,?_,?_,?_⟩,?_⟩
   ·simp only [← hZ.len,s0.len];omega
   ·simp only [s1.len];omega
   ·simp only [← hL.len,s3.len];omega
   ·simp only [s4.len];omega
   ·intro z hz
    obtain ⟨i,hi,rfl⟩:=List.getElem_of_mem hz
    have:=(hZ.get i (by have:=hZ.len;simp only at hi;omega) hi).2
    exact ⟨by have:=this.2.2.1;simp only at this ⊢;omega,by have:=this.2.2.2;simp only at this ⊢;omega⟩
   ·intro z hz
    obtain ⟨i,hi,rfl⟩:=List.getElem_of_mem hz
    have:=(hL.get i (by have:=hL.len;simp only at hi;omega) hi).2
    simp only at this ⊢
    omega
   ·intro z hz
    obtain ⟨i,hi,rfl⟩:=List.getElem_of_mem hz
    exact (hZ.get i (by have:=hZ.len;simp only at hi;omega) hi).2
end
end Go.Proofs.YtigikedbffjeiaaGreat
