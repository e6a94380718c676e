/-
  Texts of the claim SlabFrees, part 22: what its theorem leans on.
-/
import Derived.Test.YtigikedbffjeiaaGreatPackSlabFrees6
import Derived.Test.YtigikedbffjeiaaGreatPackSlabFrees4
import Derived.Test.YtigikedbffjeiaaGreatPackSlabFrees12
import Derived.Test.YtigikedbffjeiaaGreatPackSlabFrees16
import Derived.Test.YtigikedbffjeiaaGreatPackSlabFrees21
set_option linter.unusedVariables false
set_option linter.unusedSimpArgs false
namespace Go.Proofs.YtigikedbffjeiaaGreat
open Go.RowKit
noncomputable def typeV (z:Zone) (a:Int) : Int×Int:=if zoneB z then (if z.From≤a∧a<z.To then (z.Types.getD ((a-z.From) / 8).toNat 0,0) else (0,1)) else (0,8)
open Go.RowKit
theorem Zbuddy.TypeAt_ans (r:ZRow) (z:Zone) (a:Int) (w:World) (hr:RdZ w r z) (hf:r.Free.n≤2305843009213693952) (ht:r.Types.n≤1000000000000000000) (h1 : -9223372036854775808≤r.From∧r.From≤9223372036854775807) (h2 : -9223372036854775808≤r.To∧r.To≤9223372036854775807) :
  Ans Tryz.prog 77 [.agg (encZ r).toArray,.int .i64 a] w fun v _=>v = .tuple #[.int .i64 (typeV z a).1,.int .i64 (typeV z a).2]:=by
 refine ans_of Tryz.func77 rfl Tryz.ntmps77 rfl ?_
 refine CW.seq (CW.region (SW.box rfl rfl fun b1 w1 hw hb1b hb1 => ?_))
 have eF:=hr.from_
 have eT:=hr.to_
 have hTl:=hr.types.len
 obtain ⟨q,hq⟩ : ∃ q,zoneB z=q:=⟨_,rfl⟩
 have c1:∀ w',Ext w w'→Ans Tryz.prog 87 [.agg (encZ r).toArray] w' fun v _=>v = .int .i64 (if q then 0 else 8):=fun w' h=>by
  have:=Zcheck_ans r z w' (hr.ext h) hf (by omega) h1 h2
  rwa [hq] at this
 have c2:∀ w',Ext w w'→Ans Tryz.prog 100 [.agg (encZ r).toArray] w' fun v _=>v = .bool q:=fun w' h=>by
  have:=ZoneMay_ans r z w' (hr.ext h) hf ht h1 h2
  rwa [hq] at this
 cases q
 ·have e:typeV z a=(0,8):=by simp [typeV,hq]
  rw [e]
  simp only [Bool.false_eq_true,if_false] at c1
  repeat' (first|(first|refine CW.seq ?_|refine CW.region ?_|refine CW.condn_t rfl (by omega) ?_|refine CW.ret ?_)|(first|refine Post.seq ?_|refine Post.seq_ret ?_)|refine SW.nil ?_|refine SW.pure rfl rfl ?_|(show SW _ _ _ _ (⟨_,Op.load _ _,_,_,_,none⟩::_) _ _;refine SW.st (st_loads rfl rfl ((fun _ _=>hb1.cell))) rfl ?_)|(show SW _ _ _ _ (⟨_,Op.call ⟨.value (.func _),_,_⟩,_,_,_,none⟩::_) _ _;(refine SW.call rfl rfl (c1 _ hw) ?_;intro v w1 hw1 hv;subst hv;replace hw:=Ext.trans hw hw1;replace hb1:=hb1.ext hw1;clear hw1)))
  exact Post.ret2 rfl rfl rfl ⟨_,rfl,hw,rfl⟩
 ·simp only [if_true] at c1
  have hz:=zoneB_iff.1 hq
  obtain ⟨o1,o2,o3,o4,o5⟩:=hz.ok
  have hA:=hr.types.base
  by_cases hin:z.From≤a∧a<z.To
  ·obtain ⟨k,hk,hkl⟩:=typeIdx hz hin.1 hin.2
   have hkn:k<r.Types.n:=by omega
   have e:typeV z a=(z.Types[k],0):=by simp [typeV,hq,hin,hk,List.getD_eq_getElem?_getD,List.getElem?_eq_getElem hkl]
   rw [e]
   obtain ⟨i1,i2⟩:=id hin
   repeat' (first|(first|refine CW.seq ?_|refine CW.region ?_|refine CW.condd_f rfl (by omega) ?_|refine CW.condn_f rfl (by omega) ?_|refine CW.skip ?_|refine CW.ret ?_)|(refine Post.seq ?_)|refine SW.nil ?_|(show SW _ _ _ _ (⟨_,_,_,_,_,some _⟩::_) _ _;first|refine SW.want_f rfl rfl (by with_reducible rfl) ?_|refine SW.splitd_f rfl rfl rfl (by omega) ?_)|refine SW.pure rfl rfl ?_|(show SW _ _ _ _ (⟨_,Op.fieldAddr _ _ _,_,_,_,none⟩::_) _ _;refine SW.st (st_field rfl) rfl ?_)|(show SW _ _ _ _ (⟨_,Op.binOp _ _ _ _ _,_,_,_,none⟩::_) _ _;first|refine SW.st (st_sub rfl rfl (by omega) (by omega)) rfl ?_|refine SW.st (st_quo rfl rfl (by omega) (by omega) (by omega)) rfl ?_)|(show SW _ _ _ _ (⟨_,Op.indexAddr _ _ _,_,_,_,none⟩::_) _ _;refine SW.st (st_indexI (k) rfl rfl (by assumption) (by omega) (by omega)) rfl ?_)|(show SW _ _ _ _ (⟨_,Op.load _ _,_,_,_,none⟩::_) _ _;first|refine SW.st (st_loads rfl rfl ((fun _ _=>hb1.cell))) rfl ?_|refine SW.st (st_load rfl (hb1.cell rfl)) rfl ?_|refine SW.st (st_loadx hw rfl (hr.types.one hkn rfl)) rfl ?_)|(show SW _ _ _ _ (⟨_,Op.call ⟨.value (.func _),_,_⟩,_,_,_,none⟩::_) _ _;(refine SW.call rfl rfl (c1 _ hw) ?_;intro v w1 hw1 hv;subst hv;replace hw:=Ext.trans hw hw1;replace hb1:=hb1.ext hw1;clear hw1)))
   all_goals first|(exfalso;omega)|skip
   exact Post.ret2 rfl rfl rfl ⟨_,rfl,hw,rfl⟩
  ·have e:typeV z a=(0,1):=by simp only [typeV,hq,if_true,if_neg hin]
   rw [e]
   repeat' (first|(first|refine CW.seq ?_|refine CW.region ?_|refine CW.condtr rfl (by with_reducible rfl) ?_|refine CW.condd_t rfl (by omega) ?_|refine CW.condn_f rfl (by omega) ?_|refine CW.skip ?_|refine CW.ret ?_)|(first|refine Post.seq ?_|refine Post.seq_ret ?_)|refine SW.nil ?_|(show SW _ _ _ _ (⟨_,_,_,_,_,some _⟩::_) _ _;first|refine SW.want_f rfl rfl (by with_reducible rfl) ?_|refine SW.skip_f rfl rfl (by with_reducible rfl) rfl ?_|refine SW.splitd rfl rfl rfl (fun h => ?_) (fun h => ?_))|refine SW.pure rfl rfl ?_|(show SW _ _ _ _ (⟨_,Op.fieldAddr _ _ _,_,_,_,none⟩::_) _ _;refine SW.st (st_field rfl) rfl ?_)|(show SW _ _ _ _ (⟨_,Op.load _ _,_,_,_,none⟩::_) _ _;first|refine SW.st (st_loads rfl rfl ((fun _ _=>hb1.cell))) rfl ?_|refine SW.st (st_load rfl (hb1.cell rfl)) rfl ?_)|(show SW _ _ _ _ (⟨_,Op.call ⟨.value (.func _),_,_⟩,_,_,_,none⟩::_) _ _;(refine SW.call rfl rfl (c1 _ hw) ?_;intro v w1 hw1 hv;subst hv;replace hw:=Ext.trans hw hw1;replace hb1:=hb1.ext hw1;clear hw1)))
   all_goals first|(exfalso;omega)|skip
   all_goals exact Post.ret2 rfl rfl rfl ⟨_,rfl,hw,rfl⟩
def HeapOut (lo:Nat) (o:Int×Heap) (v:Value) (w:World) : Prop := ∃ s:HRow,v = .tuple #[.agg (encH s).toArray,.int .i64 o.1]∧OwnH w lo s o.2
theorem HeapOut.zero (e:Int) (lo:Nat) (w:World) : HeapOut lo (e,⟨[],[],0,[],[]⟩) (.tuple #[.agg (encH .zero).toArray,.int .i64 e]) w:=⟨.zero,rfl,OwnH.zero w lo⟩
theorem All2.two {α β : Type} {R : α → β → Prop} {a b : α} {c d : β} (h1:R a c) (h2:R b d) : All2 R [a,b] [c,d]:=All2.snoc (All2.snoc All2.nil h1) h2
open Go.RowKit
theorem typeV_at {z:Zone} {a:Int} (h:ZoneMay z) (h1:z.From≤a) (h2:a<z.To) : typeV z a=(typeZ z a,0):=by
 simp only [typeV,zoneB_t h,if_true,if_pos (And.intro h1 h2)];rfl
set_option maxHeartbeats 8000000 in
theorem Free_ans (r:HRow) (h:Heap) (cpu a:Int) (w:World) (hr:RdH w r h) (hs:h.small) (hzn:∀ z∈h.Zones,big64 z) (ha : -9223372036854775808≤a∧a≤9223372036854775807) :
  Ans Tryz.prog 46 [.agg (encH r).toArray,.int .i64 cpu,.int .i64 a] w (HeapOut w.heap.size (freeV h cpu a)):=by
 refine ans_of Tryz.func46 rfl Tryz.ntmps46 rfl ?_
 refine CW.seq (CW.region (SW.box rfl rfl fun b3 w1 hw hb3b hb3 => ?_))
 have hb3w:=hb3b
 refine SW.alloc rfl fun b6 w2 hw2 hb6b hb6 => ?_
 have hb6w:w.heap.size≤b6:=Nat.le_trans hw.size hb6b
 have hne36:b3≠b6:=by have:=hb3.lt;omega
 (replace hw:=Ext.trans hw hw2;replace hb3:=hb3.ext hw2)
 have eC:=hr.cpus
 obtain ⟨q,hq⟩ : ∃ q,heapB h=q:=⟨_,rfl⟩
 have c1:∀ w',Ext w w'→Ans Tryz.prog 54 [.agg (encH r).toArray] w' fun v _=>v = .int .i64 (if q then 0 else 8):=fun w' hx=>by
  have:=Pcheck_ans r h w' (hr.ext hx) hs hzn
  rwa [hq] at this
 cases q
 ·simp only [Bool.false_eq_true,if_false] at c1
  rw [freeV_8 hq]
  repeat' (first|(first|refine CW.seq ?_|refine CW.region ?_|refine CW.condn_t rfl (by omega) ?_)|(refine Post.seq ?_)|refine SW.nil ?_|refine SW.pure rfl rfl ?_|(show SW _ _ _ _ (⟨_,Op.build _ _,_,_,_,none⟩::_) _ _;refine SW.st (st_build rfl rfl) rfl ?_)|(show SW _ _ _ _ (⟨_,Op.load _ _,_,_,_,none⟩::_) _ _;refine SW.st (st_loads rfl rfl ((fun _ _=>hb3.cell))) rfl ?_)|(show SW _ _ _ _ (⟨_,Op.call ⟨.value (.func _),_,_⟩,_,_,_,none⟩::_) _ _;(refine SW.call rfl rfl (c1 _ hw) ?_;intro v w1 hw1 hv;subst hv;replace hw:=Ext.trans hw hw1;replace hb3:=hb3.ext hw1;replace hb6:=hb6.ext hw1;clear hw1)))
  refine SW.storeAgg hb6 rfl rfl rfl rfl (one_h .zero) fun w5 hR2 hg => ?_
  replace hw:=hw.own hb6w hg
  repeat' (first|(refine CW.ret ?_)|(first|refine Post.seq ?_|refine Post.seq_ret ?_)|refine SW.nil ?_|refine SW.pure rfl rfl ?_)
  exact Post.ret2c rfl rfl rfl hR2 rfl ⟨_,rfl,hw,HeapOut.zero 8 _ _⟩
 ·simp only [if_true] at c1
  have hm:=heapB_iff.1 hq
  obtain ⟨z0,z1,f⟩:=fheap_of hm
  by_cases hc : 0≤cpu∧cpu<h.Cpus
  ·repeat' (first|(first|refine CW.seq ?_|refine CW.region ?_|refine CW.condd_f rfl (by omega) ?_|refine CW.condn_f rfl (by omega) ?_|refine CW.skip ?_)|(refine Post.seq ?_)|refine SW.nil ?_|(show SW _ _ _ _ (⟨_,_,_,_,_,some _⟩::_) _ _;first|refine SW.want_f rfl rfl (by with_reducible rfl) ?_|refine SW.splitd_f rfl rfl rfl (by omega) ?_)|refine SW.pure rfl rfl ?_|(show SW _ _ _ _ (⟨_,Op.fieldAddr _ _ _,_,_,_,none⟩::_) _ _;refine SW.st (st_field rfl) rfl ?_)|(show SW _ _ _ _ (⟨_,Op.load _ _,_,_,_,none⟩::_) _ _;first|refine SW.st (st_loads rfl rfl ((fun _ _=>hb3.cell))) rfl ?_|refine SW.st (st_load rfl (hb3.cell (i:=2) (v := .int .i64 r.Cpus) rfl)) rfl ?_)|(show SW _ _ _ _ (⟨_,Op.call ⟨.value (.func _),_,_⟩,_,_,_,none⟩::_) _ _;(refine SW.call rfl rfl (c1 _ hw) ?_;intro v w1 hw1 hv;subst hv;replace hw:=Ext.trans hw hw1;replace hb3:=hb3.ext hw1;replace hb6:=hb6.ext hw1;clear hw1)))
   all_goals first|(exfalso;omega)|skip
   clear c1
   have hvl:=hr.live.len
   have s2:=hs.live
   have hlt:=live_lt f.live
   refine SW.call rfl rfl (plive_ans r h.Live a _ (hr.live.ext hw) hlt (fun b hb=>by obtain ⟨k,hk,rfl⟩:=List.getElem_of_mem hb;exact (f.live.each k hk).2.1) (by omega) ha) fun v w4 hw4 hv => ?_
   (replace hw:=Ext.trans hw hw4;replace hb3:=hb3.ext hw4;replace hb6:=hb6.ext hw4)
   cases hf:foundA h.Live a
   ·rw [freeV_4 hq hc hf]
    obtain ⟨i,rfl⟩:=hv.2 hf
    repeat' (first|(first|refine CW.seq ?_|refine CW.region ?_|refine CW.condt rfl ?_)|(refine Post.seq ?_)|refine SW.nil ?_|refine SW.pure rfl rfl ?_|(show SW _ _ _ _ (⟨_,Op.build _ _,_,_,_,none⟩::_) _ _;refine SW.st (st_build rfl rfl) rfl ?_))
    refine SW.storeAgg hb6 rfl rfl rfl rfl (one_h .zero) fun w5 hR2 hg => ?_
    replace hw:=hw.own hb6w hg
    repeat' (first|(refine CW.ret ?_)|(first|refine Post.seq ?_|refine Post.seq_ret ?_)|refine SW.nil ?_|refine SW.pure rfl rfl ?_)
    exact Post.ret2c rfl rfl rfl hR2 rfl ⟨_,rfl,hw,HeapOut.zero 4 _ _⟩
   ·rw [freeV_0 hq hc hf]
    have hv:=hv.1 hf
    subst hv
    obtain ⟨hk,hka⟩:=found_at hf
    obtain ⟨k,ek⟩ : ∃ k,lbOf h.Live a=k:=⟨_,rfl⟩
    simp only [ek] at hk hka ⊢
    have hlk:=f.live.each k hk
    have hNx:=f.next hk
    repeat' (first|(first|refine CW.seq ?_|refine CW.region ?_|refine CW.condf rfl ?_|refine CW.skip ?_)|(refine Post.seq ?_)|refine SW.nil ?_|refine SW.pure rfl rfl ?_|(show SW _ _ _ _ (⟨_,Op.load _ _,_,_,_,none⟩::_) _ _;refine SW.st (st_loads rfl rfl ((fun _ _=>hb3.cell))) rfl ?_))
    refine SW.call rfl rfl (HcopyS_ans r h _ (hr.ext hw) hs) fun v w4 hw4 hv => ?_
    obtain ⟨s,rfl,hO⟩:=hv
    have hM:=hO.own.mins.low hw.size
    have hV:=hO.own.live.low hw.size
    have ecp:=hO.own.cpus
    obtain ⟨g,c,u0,u1,ls,eZ,hZ,hL,hSp,hSf⟩:=hO.split f.d.zones
    have hZ:ZsOwn w4 w.heap.size g c u0 u1 (z0,z1):=⟨hZ.row.low hw.size,hZ.z0.low hw.size,hZ.z1.low hw.size,Nat.le_trans hw.size hZ.glo,hZ.pos⟩
    replace hL:=hL.low hw.size
    clear hO
    (replace hw:=Ext.trans hw hw4;replace hb3:=hb3.ext hw4;replace hb6:=hb6.ext hw4)
    obtain ⟨sz,m,cp,li,lv⟩:=s
    simp only at eZ hM hV hL hSp hSf ecp
    subst eZ
    refine SW.storeAgg hb3 rfl rfl rfl rfl (one_h ⟨⟨some ⟨g,0,none⟩,2,c⟩,m,cp,li,lv⟩) fun w5 hb3' hg => ?_
    have hG:=hb3.gr hg
    replace hw:=hw.own hb3w hg
    replace hb6:=hb6.grown hg (by simpa using Ne.symm hne36)
    (replace hZ:=hZ.grT hG rfl;replace hM:=hM.grT hG rfl;replace hV:=hV.grT hG rfl;replace hL:=hL.grT hG rfl)
    replace hb3:=hb3'
    clear hb3' hg hG
    have hvn:=hV.len
    have hkn:k<lv.n:=by omega
    have hAv:=hV.sl.base
    repeat' (first|(first|refine CW.seq ?_|refine CW.region ?_)|(refine Post.seq ?_)|refine SW.nil ?_|refine SW.pure rfl rfl ?_|(show SW _ _ _ _ (⟨_,Op.fieldAddr _ _ _,_,_,_,none⟩::_) _ _;refine SW.st (st_field rfl) rfl ?_)|(show SW _ _ _ _ (⟨_,Op.indexAddr _ _ _,_,_,_,none⟩::_) _ _;refine SW.st (st_indexN rfl rfl (by assumption) (by omega)) rfl ?_)|(show SW _ _ _ _ (⟨_,Op.load _ _,_,_,_,none⟩::_) _ _;first|refine SW.st (st_load rfl (hb3.cell (i:=4) (v := .slice lv.A lv.n lv.c) rfl)) rfl ?_|refine SW.st (st_loads rfl rfl ((hV.sl.all hkn))) rfl ?_))
    have hltv:=hV.lt_size
    refine SW.alloc rfl fun b11 w1 hw1 hb11b hb11 => ?_
    skip
    refine SW.storeAgg hb11 rfl rfl rfl rfl (Enc.one (enc:=encBk) _) fun w2 hb11' hg => ?_
    have hXX:=hw1.own hb11b hg
    have hb11w:w.heap.size≤b11:=Nat.le_trans hw.size hb11b
    replace hw:=Ext.trans hw hXX
    replace hb3:=hb3.ext hXX
    replace hb6:=hb6.ext hXX
    replace hZ:=hZ.ext hXX
    replace hM:=hM.ext hXX
    replace hV:=hV.ext hXX
    replace hL:=hL.ext hXX
    replace hb11:=hb11'
    clear hb11' hw1 hg hXX
    have hne11:ownB lv.A lv.c≠some b11:=fun e=>by have:=hltv _ e;omega
    repeat' (first|(first|refine CW.seq ?_|refine CW.region ?_)|(refine Post.seq ?_)|refine SW.nil ?_|refine SW.pure rfl rfl ?_|(show SW _ _ _ _ (⟨_,Op.fieldAddr _ _ _,_,_,_,none⟩::_) _ _;refine SW.st (st_field rfl) rfl ?_)|(show SW _ _ _ _ (⟨_,Op.binOp _ _ _ _ _,_,_,_,none⟩::_) _ _;refine SW.st (st_add rfl rfl (by omega) (by omega)) rfl ?_)|(show SW _ _ _ _ (⟨_,Op.load _ _,_,_,_,none⟩::_) _ _;refine SW.st (st_load rfl (hb3.cell (i:=4) (v := .slice lv.A lv.n lv.c) rfl)) rfl ?_))
    refine SW.callX rfl rfl (DeleteBlock_ans lv.A lv.n lv.c w.heap.size h.Live _ hV k hkn (by omega) hw.size) fun v w6 hv => ?_
    obtain ⟨rfl,hV',hg⟩:=hv
    have hG:=hV.gr hg
    replace hw:=ext_grown hw hg (Nat.le_refl _) hV.row_ge
    replace hZ:=hZ.atLive hSf hg hG
    replace hb11:=hb11.grown hg (fun e=>hne11 e.symm)
    (replace hb3:=hb3.grT hG rfl;replace hb6:=hb6.grT hG rfl;replace hM:=hM.grT hG rfl;replace hL:=hL.grT hG rfl)
    replace hV:=hV'
    clear hV' hg hG
    repeat' ((show SW _ _ _ _ (⟨_,Op.fieldAddr _ _ _,_,_,_,none⟩::_) _ _;refine SW.st (st_field rfl) rfl ?_))
    refine SW.storeB (i:=4) hb3 rfl rfl rfl rfl fun w7 hb3' hg => ?_
    have hG:=hb3.gr hg
    replace hw:=hw.own hb3w hg
    replace hb6:=hb6.grown hg (by simpa using Ne.symm hne36)
    (replace hZ:=hZ.grT hG rfl;replace hM:=hM.grT hG rfl;replace hV:=hV.grT hG rfl;replace hL:=hL.grT hG rfl;replace hb11:=hb11.grT hG rfl)
    replace hb3:Blk w7 b3 27 (encH ⟨⟨some ⟨g,0,none⟩,2,c⟩,m,cp,li,⟨lv.A,lv.n-1,lv.c⟩⟩):=hb3'
    clear hb3' hg hG hne11 hltv
    have hg6:b6≠g:=fun e=>hZ.row.ne_blk hb6 rfl (by rw [hZ.own,e])
    have hg3:b3≠g:=fun e=>hZ.row.ne_blk hb3 rfl (by rw [hZ.own,e])
    by_cases ho : 0<h.Live[k].Order
    ·rw [freedV_big f.d.zones hk ek ho]
     repeat' (first|(first|refine CW.seq ?_|refine CW.region ?_|refine CW.condd_t rfl (by omega) ?_)|(refine Post.seq ?_)|refine SW.nil ?_|refine SW.pure rfl rfl ?_|(show SW _ _ _ _ (⟨_,Op.fieldAddr _ _ _,_,_,_,none⟩::_) _ _;refine SW.st (st_field rfl) rfl ?_)|(show SW _ _ _ _ (⟨_,Op.load _ _,_,_,_,none⟩::_) _ _;refine SW.st (st_load rfl (hb11.cell rfl)) rfl ?_))
     refine SW.callX rfl rfl (back2_ans m cp li ⟨lv.A,lv.n-1,lv.c⟩ u0 u1 _ _ h.Live[k] w.heap.size g c b3 _ hb3 hZ hw.size f.d.start hNx) fun v w8 hv => ?_
     obtain ⟨hg,u2,u3,hZ'⟩:=hv
     have hG:=hZ.gr hg
     replace hw:=hw.own hZ.glo hg
     (replace hb3:=hb3.grT hG rfl;replace hb6:=hb6.grT hG rfl;replace hM:=hM.grT hG rfl;replace hV:=hV.grT hG rfl;replace hL:=hL.grT hG rfl)
     clear hZ hg hG hb11
     repeat' (first|(first|refine CW.seq ?_|refine CW.region ?_)|(refine Post.seq ?_)|refine SW.nil ?_|(show SW _ _ _ _ (⟨_,Op.load _ _,_,_,_,none⟩::_) _ _;refine SW.st (st_loads rfl rfl ((fun _ _=>hb3.cell))) rfl ?_))
     refine SW.storeAgg hb6 rfl rfl rfl rfl (one_h ⟨⟨some ⟨g,0,none⟩,2,c⟩,m,cp,li,⟨lv.A,lv.n-1,lv.c⟩⟩) fun w9 hR2 hg => ?_
     have hG:=hb6.gr hg
     replace hw:=hw.own hb6w hg
     replace hZ':=hZ'.grT hG rfl
     (replace hM:=hM.grT hG rfl;replace hV:=hV.grT hG rfl;replace hL:=hL.grT hG rfl)
     repeat' (first|(refine CW.ret ?_)|(first|refine Post.seq ?_|refine Post.seq_ret ?_)|refine SW.nil ?_|refine SW.pure rfl rfl ?_)
     exact Post.ret2c rfl rfl rfl hR2 rfl ⟨_,rfl,hw,⟨⟨some ⟨g,0,none⟩,2,c⟩,m,cp,li,⟨lv.A,lv.n-1,lv.c⟩⟩,rfl,⟨ecp,hM,hV,⟨[u2,u3],⟨hZ'.row,All2.two hZ'.z0 hZ'.z1⟩⟩,⟨ls,hL⟩⟩⟩
    ·rw [freedV_one f.d.zones hk ek ho]
     have ho0:h.Live[k].Order=0:=by have:=hlk.1.1;omega
     have hA2:=hNx.at_
     rw [hka] at hA2
     have eT0:u0.To=z0.To:=hZ.z0.to_
     have hmd:=f.d.mid
     have ht1:=f.d.to1
     have hsel:∃ (zi:Nat) (ui:ZRow) (zz:Zone),∃ k0:zi<2,[u0,u1][zi]'k0=ui∧(if a<u0.To then (0:Int) else 1)=(zi:Int)∧OwnZ w7 w.heap.size ui zz∧ZoneMay zz∧(zz.From≤a∧a<zz.To)∧keyOf z0 z1 cpu a=⟨cpu,(zi:Int),typeZ zz a,[]⟩:=by
      by_cases hx:a<z0.To
      ·exact ⟨0,u0,z0,by omega,rfl,by rw [if_pos (by omega)];rfl,hZ.z0,f.d.may0,⟨by have:=f.d.from0;omega,hx⟩,by unfold keyOf;rw [if_pos hx,if_pos hx];rfl⟩
      ·exact ⟨1,u1,z1,by omega,rfl,by rw [if_neg (by omega)];rfl,hZ.z1,f.d.may1,⟨by omega,by omega⟩,by unfold keyOf;rw [if_neg hx,if_neg hx];rfl⟩
     obtain ⟨zi,ui,zz,k0,hui,hzi,hoz,hmz,⟨hz1,hz2⟩,hkey⟩:=hsel
     have cz:∀ w',Sl w' 4 encZ (some ⟨g,0,none⟩) 2 [u0,u1]→Ans Tryz.prog 76 [.agg (encH ⟨⟨some ⟨g,0,none⟩,2,c⟩,m,cp,li,⟨lv.A,lv.n-1,lv.c⟩⟩).toArray,.int .i64 a] w' fun v _=>v = .int .i64 (zi:Int):=fun w' h=>by
      have:=zone2_ans ⟨⟨some ⟨g,0,none⟩,2,c⟩,m,cp,li,⟨lv.A,lv.n-1,lv.c⟩⟩ u0 u1 a w' h
      rwa [hzi] at this
     have hAz:=hZ.row.sl.base
     obtain ⟨t,ht⟩ : ∃ t,typeZ zz a=t:=⟨_,rfl⟩
     obtain ⟨q1,q2,q3,q4⟩:=may_fit hoz hmz
     repeat' (first|(first|refine CW.seq ?_|refine CW.region ?_|refine CW.condd_f rfl (by omega) ?_|refine CW.skip ?_)|(refine Post.seq ?_)|refine SW.nil ?_|refine SW.pure rfl rfl ?_|(show SW _ _ _ _ (⟨_,Op.fieldAddr _ _ _,_,_,_,none⟩::_) _ _;refine SW.st (st_field rfl) rfl ?_)|(show SW _ _ _ _ (⟨_,Op.load _ _,_,_,_,none⟩::_) _ _;first|refine SW.st (st_load rfl (hb11.cell rfl)) rfl ?_|refine SW.st (st_loads rfl rfl ((fun _ _=>hb3.cell))) rfl ?_)|(show SW _ _ _ _ (⟨_,Op.call ⟨.value (.func _),_,_⟩,_,_,_,none⟩::_) _ _;(refine SW.call rfl rfl (cz _ hZ.row.sl) ?_;intro v w1 hw1 hv;subst hv;replace hw:=Ext.trans hw hw1;replace hb3:=hb3.ext hw1;replace hb6:=hb6.ext hw1;replace hb11:=hb11.ext hw1;replace hZ:=hZ.ext hw1;replace hM:=hM.ext hw1;replace hV:=hV.ext hw1;replace hL:=hL.ext hw1;replace hoz:=hoz.ext hw1;clear hw1)))
     have fz:=hZ.row.sl.all k0
     simp only [hui] at fz
     repeat' (first|refine SW.pure rfl rfl ?_|(show SW _ _ _ _ (⟨_,Op.indexAddr _ _ _,_,_,_,none⟩::_) _ _;refine SW.st (st_indexN rfl rfl (by assumption) (by omega)) rfl ?_)|(show SW _ _ _ _ (⟨_,Op.load _ _,_,_,_,none⟩::_) _ _;first|refine SW.st (st_load rfl (hb3.cell (i:=0) (v := .slice (some ⟨g,0,none⟩) 2 c) rfl)) rfl ?_|refine SW.st (st_loads rfl rfl fz) rfl ?_))
     refine SW.call rfl rfl (Zbuddy.TypeAt_ans ui zz a _ hoz.rd (by omega) (by omega) ⟨by omega,by omega⟩ ⟨by omega,by omega⟩) fun v w8 hw8 hv => ?_
     rw [typeV_at hmz hz1 hz2,ht] at hv
     simp only at hv
     subst hv
     (replace hw:=Ext.trans hw hw8;replace hb3:=hb3.ext hw8;replace hb6:=hb6.ext hw8;replace hZ:=hZ.ext hw8;replace hM:=hM.ext hw8;replace hV:=hV.ext hw8;replace hL:=hL.ext hw8)
     clear hoz hb11 fz cz
     repeat' (first|(first|refine CW.seq ?_|refine CW.region ?_)|(refine Post.seq ?_)|refine SW.nil ?_|refine SW.pure rfl rfl ?_|(show SW _ _ _ _ (⟨_,Op.build _ _,_,_,_,none⟩::_) _ _;refine SW.st (st_build rfl rfl) rfl ?_))
     have hltL:=hL.row.lt_size
     have hlt3:=hb3.lt
     have hlt6:=hb6.lt
     refine SW.alloc rfl fun b15 w1 hw1 hb15b hb15 => ?_
     skip
     refine SW.storeAgg hb15 rfl rfl rfl rfl (one_l ⟨cpu,zi,t,.nil⟩) fun w2 hb15' hg => ?_
     have hXX:=hw1.own hb15b hg
     have hb15w:w.heap.size≤b15:=Nat.le_trans hw.size hb15b
     replace hw:=Ext.trans hw hXX
     replace hb3:=hb3.ext hXX
     replace hb6:=hb6.ext hXX
     replace hZ:=hZ.ext hXX
     replace hM:=hM.ext hXX
     replace hV:=hV.ext hXX
     replace hL:=hL.ext hXX
     replace hb15:=hb15'
     clear hb15' hw1 hg hXX
     repeat' (first|(first|refine CW.seq ?_|refine CW.region ?_)|(refine Post.seq ?_)|refine SW.nil ?_|refine SW.pure rfl rfl ?_|(show SW _ _ _ _ (⟨_,Op.load _ _,_,_,_,none⟩::_) _ _;refine SW.st (st_loads rfl rfl ((fun _ _=>hb15.cell))) rfl ?_))
     replace hb6:Blk w2 b6 27 (encH .zero):=hb6
     have hpw:∀ l∈h.Lists,l.Pages.length≤1000:=fun l hl=>by have:=(f.lists l hl).2;omega
     obtain ⟨F,hF⟩ : ∃ F:World→Prop,F=fun v=>Blk v b6 27 (encH .zero)∧Blk v b15 75 (encL ⟨cpu,zi,t,.nil⟩)∧ZsOwn v w.heap.size g c u0 u1 (z0,z1)∧Own v w.heap.size 3 1 encI m.A m.n m.c h.Mins∧Own v w.heap.size 94 3 encBk lv.A (lv.n-1) lv.c (h.Live.eraseIdx k):=⟨_,rfl⟩
     have hl6:=hb6.lt
     have hl15:=hb15.lt
     have hL6:ownB li.A li.c≠some b6:=hL.row.ne_blk hb6 rfl
     have hFr:Frm F w2:=by
      rw [hF]
      exact ⟨⟨hb6,hb15,hZ,hM,hV⟩,fun v v' hx hP=>⟨hP.1.ext hx,hP.2.1.ext hx,hP.2.2.1.ext hx,hP.2.2.2.1.ext hx,hP.2.2.2.2.ext hx⟩⟩
     have hFt:∀ (v v':World) (row:Option Nat),v.grownBy v' row→(∀ k,row=some k→k=b3∨ownB li.A li.c=some k∨w2.heap.size≤k)→F v→F v':=fun v v' row hg hrr hP=>by
      rw [hF] at hP ⊢
      refine ⟨hP.1.grown hg (fun e => ?_),hP.2.1.grown hg (fun e => ?_),hP.2.2.1.parts hg ((hZ.row.away hL hb3 rfl rfl).ne hrr) ((hZ.z0.free.away hL hb3 rfl rfl).ne hrr) ((hZ.z0.types.away hL hb3 rfl rfl).ne hrr) ((hZ.z1.free.away hL hb3 rfl rfl).ne hrr) ((hZ.z1.types.away hL hb3 rfl rfl).ne hrr),hP.2.2.2.1.apart hg ((hM.away hL hb3 rfl rfl).ne hrr),hP.2.2.2.2.apart hg ((hV.away hL hb3 rfl rfl).ne hrr)⟩
      ·rcases hrr b6 e.symm with h|h|h
       ·exact hne36 h.symm
       ·exact hL6 h
       ·omega
      ·rcases hrr b15 e.symm with h|h|h
       ·omega
       ·have:=hltL _ h;omega
       ·omega
     have hFp:∀ (i:Nat) (hi:i<ls.length) (v v':World),v.grownBy v' (ownB ls[i].Pages.A ls[i].Pages.c)→F v→F v':=fun i hi v v' hg hP=>by
      rw [hF] at hP ⊢
      have hpi:=(hL.each.get i hi (by rw [← hL.each.len];exact hi)).pages
      exact ⟨hP.1.grown hg (fun e=>hpi.ne_blk hb6 rfl e.symm),hP.2.1.grown hg (fun e=>hpi.ne_blk hb15 rfl e.symm),hP.2.2.1.parts hg (hZ.row.ne_ownF hpi rfl) (hZ.z0.free.ne_ownF hpi rfl) (fun k e e2=>hSp.types i hi k e2 u0 (by simp) e) (hZ.z1.free.ne_ownF hpi rfl) (fun k e e2=>hSp.types i hi k e2 u1 (by simp) e),hP.2.2.2.1.apart hg (fun k e e2=>hSp.mins i hi k e2 e),hP.2.2.2.2.apart hg (hV.ne_ownF hpi rfl)⟩
     obtain ⟨x,hx⟩ : ∃ x:PList,x=⟨cpu,zi,t,[]⟩:=⟨_,rfl⟩
     have hxk:rowKey ⟨cpu,zi,t,.nil⟩ x:=by subst hx;exact ⟨rfl,rfl,rfl⟩
     obtain ⟨hcl,_⟩:=hL.rd.len
     have hcnt:=f.count
     have hlnn:li.n≤256:=by have:=hL.rd.len.2;omega
     refine SW.callX rfl rfl (push_ans ⟨some ⟨g,0,none⟩,2,c⟩ m cp li ⟨lv.A,lv.n-1,lv.c⟩ h.Lists ls x ⟨cpu,zi,t,.nil⟩ a F b3 w _ hw hb3w hb3 hL hxk rfl (by rw [hx]) hSp.sep f.sorted (by omega) hpw hFr hFt hFp) fun v w9 hv => ?_
     obtain ⟨hw',hF9,li2,ls2,hb3',hL',_⟩:=hv
     rw [hF] at hF9
     obtain ⟨hb6',hb15',hZ',hM',hV'⟩:=hF9
     clear hw hb3 hL hb6 hb15 hZ hM hV hFr hFt hFp hL6 hl6 hl15 hlt3 hlt6 hltL
     have hw:=hw'
     have hb3:=hb3'
     have hL:=hL'
     have hb6:=hb6'
     have hb15:=hb15'
     have hZ:=hZ'
     have hM:=hM'
     have hV:=hV'
     clear hw' hb3' hL' hb6' hb15' hZ' hM' hV'
     obtain ⟨pg,hpg⟩ : ∃ pg,pagesAt h.Lists x++[a]=pg:=⟨_,rfl⟩
     have hkey2:keyOf z0 z1 cpu a=x:=by rw [hkey,ht,hx]
     rw [hkey2,hpg]
     rw [hpg] at hL
     obtain ⟨xx,hxx⟩ : ∃ xx:PList,(⟨x.Cpu,x.Zone,x.Ty,pg⟩ : PList)=xx:=⟨_,rfl⟩
     rw [hxx] at hL
     have kxx:keyEq x xx:=by rw [← hxx];exact ⟨rfl,rfl,rfl⟩
     obtain ⟨e1,e2⟩:=kpos_key (L:=h.Lists) kxx
     obtain ⟨e3,e4⟩:=setL_pos (L:=h.Lists) (x:=xx)
     obtain ⟨e5,e6⟩:=kpos_key (L:=setL h.Lists xx) kxx
     obtain ⟨p0,hp0⟩ : ∃ p0,kpos h.Lists xx=p0:=⟨_,rfl⟩
     rw [hp0] at e1 e3
     have hgetx:=setL_get (L:=h.Lists) (x:=xx)
     rw [hp0] at hgetx
     obtain ⟨hplt,hpx⟩:=List.getElem?_eq_some_iff.1 hgetx
     obtain ⟨l3,l4⟩:=hL.rd.len
     have hpn:p0<li2.n:=by omega
     have hpls:p0<ls2.length:=by omega
     have hlen2:li2.n≤257:=by
      rw [← l4,setL]
      split
      ·simp;omega
      ·rw [length_insAt _ (kpos_le _ _)];omega
     have cl:∀ w',RdLs w' li2 ls2 (setL h.Lists xx)→Ans Tryz.prog 79 [.agg (encH ⟨⟨some ⟨g,0,none⟩,2,c⟩,m,cp,li2,⟨lv.A,lv.n-1,lv.c⟩⟩).toArray,.agg (encL ⟨cpu,zi,t,.nil⟩).toArray] w' fun v _=>v = .tuple #[.int .i64 (p0:Int),.bool true]:=fun w' hh=>by
      have:=plist_ans ⟨⟨some ⟨g,0,none⟩,2,c⟩,m,cp,li2,⟨lv.A,lv.n-1,lv.c⟩⟩ (setL h.Lists xx) ls2 x ⟨cpu,zi,t,.nil⟩ w' hh hxk (by simp only;omega)
      rwa [e5,e3,e6,e4] at this
     repeat' (first|(first|refine CW.seq ?_|refine CW.region ?_)|(refine Post.seq ?_)|refine SW.nil ?_|refine SW.pure rfl rfl ?_|(show SW _ _ _ _ (⟨_,Op.fieldAddr _ _ _,_,_,_,none⟩::_) _ _;refine SW.st (st_field rfl) rfl ?_)|(show SW _ _ _ _ (⟨_,Op.load _ _,_,_,_,none⟩::_) _ _;first|refine SW.st (st_loads rfl rfl ((fun _ _=>hb3.cell))) rfl ?_|refine SW.st (st_loads rfl rfl ((fun _ _=>hb15.cell))) rfl ?_)|(show SW _ _ _ _ (⟨_,Op.call ⟨.value (.func _),_,_⟩,_,_,_,none⟩::_) _ _;(refine SW.call rfl rfl (cl _ hL.rd) ?_;intro v w1 hw1 hv;subst hv;replace hw:=Ext.trans hw hw1;replace hb3:=hb3.ext hw1;replace hb6:=hb6.ext hw1;replace hZ:=hZ.ext hw1;replace hM:=hM.ext hw1;replace hV:=hV.ext hw1;replace hL:=hL.ext hw1;clear hw1)))
     clear cl hb15
     have hAl:=hL.row.sl.base
     have hP0:=hL.each.get p0 hpls hplt
     rw [hpx] at hP0
     have hpl:=hP0.pages.sl.len
     have hxp:xx.Pages=pg:=by rw [← hxx]
     rw [hxp] at hpl
     have g3:=hL.row.sl.fld hpn (j:=3) (u := .slice ls2[p0].Pages.A ls2[p0].Pages.n ls2[p0].Pages.c) rfl
     by_cases h8 : 8<pg.length
     ·have hkh:khere h.Lists x=true:=by
       cases e:khere h.Lists x with
       | true=>rfl
       | false=>rw [pagesAt_f e] at hpg;rw [← hpg] at h8;simp at h8
      have hk0:p0<h.Lists.length:=by rw [← e1];exact (khere_t hkh).1
      have hpa:pagesAt h.Lists x=h.Lists[p0].Pages:=by
       rw [pagesAt_t hkh (by omega)]
       simp only [e1]
      rw [hpa] at hpg
      have hp8:=(f.lists _ (List.getElem_mem hk0)).2
      have hpg9:pg.length=h.Lists[p0].Pages.length+1:=by rw [← hpg];simp
      have htk:∀ j,j≤4→pg.take j=h.Lists[p0].Pages.take j:=fun j hj=>by rw [← hpg,List.take_append_of_le_length (by omega)]
      have hget:∀ (j:Nat) (hj:j<pg.length) (hj':j<h.Lists[p0].Pages.length),pg[j]=h.Lists[p0].Pages[j]:=fun j hj hj'=>by
       simp only [← hpg]
       exact List.getElem_append_left hj'
      have efr:freedOne h z0 z1 x pg (h.Live.eraseIdx k)=⟨[(backAll (z0,z1) ((pg.take 4).map pageB)).1,(backAll (z0,z1) ((pg.take 4).map pageB)).2],h.Mins,h.Cpus,setL h.Lists (withP x (pg.drop 4)),h.Live.eraseIdx k⟩:=by
       unfold freedOne
       rw [if_pos h8]
      rw [efr]
      have hcap:=hP0.pages.le
      repeat' (first|(first|refine CW.seq ?_|refine CW.region ?_|refine CW.block ?_|refine CW.condd_t rfl (by omega) ?_)|(refine Post.seq ?_)|refine SW.nil ?_|refine SW.pure rfl rfl ?_|(show SW _ _ _ _ (⟨_,Op.fieldAddr _ _ _,_,_,_,none⟩::_) _ _;refine SW.st (st_field rfl) rfl ?_)|(show SW _ _ _ _ (⟨_,Op.indexAddr _ _ _,_,_,_,none⟩::_) _ _;refine SW.st (st_indexN rfl rfl (by assumption) (by omega)) rfl ?_)|(show SW _ _ _ _ (⟨_,Op.call ⟨.builtin .len,_,_⟩,_,_,_,none⟩::_) _ _;refine SW.st (st_len rfl) rfl ?_)|(show SW _ _ _ _ (⟨_,Op.load _ _,_,_,_,none⟩::_) _ _;first|refine SW.st (st_load rfl (hb3.cell (i:=3) (v := .slice li2.A li2.n li2.c) rfl)) rfl ?_|refine SW.st (st_load rfl g3) rfl ?_)|(refine SW.st (st_sliceHi (k:=4) rfl rfl (by omega)) rfl ?_))
      refine CW.loop (fun t:Nat×ZRow×ZRow=>[(3,.pointer (some ⟨b3,0,none⟩)),(6,.pointer (some ⟨b6,0,none⟩)),(16,.int .i64 (p0:Int)),(107,.slice ls2[p0].Pages.A 4 ls2[p0].Pages.c),(108,.int .i64 4),(109,.int .i64 (t.1:Int))])
       (fun t w'=>t.1≤4∧Ext w w'∧Blk w' b3 27 (encH ⟨⟨some ⟨g,0,none⟩,2,c⟩,m,cp,li2,⟨lv.A,lv.n-1,lv.c⟩⟩)∧Blk w' b6 27 (encH .zero)∧ZsOwn w' w.heap.size g c t.2.1 t.2.2 (backAll (z0,z1) ((pg.take t.1).map pageB))∧Own w' w.heap.size 3 1 encI m.A m.n m.c h.Mins∧Own w' w.heap.size 94 3 encBk lv.A (lv.n-1) lv.c (h.Live.eraseIdx k)∧OwnLs w' w.heap.size li2 ls2 (setL h.Lists xx)) (fun t=>4-t.1) (0,u0,u1)
       ⟨rfl,rfl,rfl,rfl,rfl,rfl,trivial⟩ ⟨by omega,hw,hb3,hb6,by simpa [backAll] using hZ,hM,hV,hL⟩ ?_
      clear hw hb3 hb6 hZ hM hV hL hP0 g3 hAz hg3 hg6
      rintro ⟨j,u0,u1⟩ w' ⟨hj,hw,hb3,hb6,hZ,hM,hV,hL⟩
      simp only at hj hZ ⊢
      have hP0:=hL.each.get p0 hpls hplt
      rw [hpx] at hP0
      have hPp:Own w' w.heap.size 3 1 encI ls2[p0].Pages.A ls2[p0].Pages.n ls2[p0].Pages.c pg:=by
       have:=hP0.pages
       rwa [hxp] at this
      have hApp:=hPp.sl.base
      by_cases hj4:j<4
      ·have hjn:j<ls2[p0].Pages.n:=by omega
       have hjp:j<pg.length:=by omega
       have hD:=f.inv hk0 j (by omega)
       have hN:=f.page hk0 (show j<h.Lists[p0].Pages.length by omega)
       have hbt:backAll (z0,z1) ((pg.take (j+1)).map pageB)=backP (backAll (z0,z1) ((pg.take j).map pageB)) (pageB pg[j]):=by
        rw [List.take_succ_eq_append_getElem hjp,List.map_append,backAll_append];rfl
       rw [← htk j hj,← hget j hjp (by omega)] at hN
       rw [← htk j hj] at hD
       have hA4 : 0<4→ls2[p0].Pages.A.isSome=true:=fun _=>hApp (by omega)
       repeat' (first|(first|refine CW.seq ?_|refine CW.region ?_|refine CW.block ?_|refine CW.condd_t rfl (by omega) ?_|refine CW.skip ?_)|(refine Post.seq ?_)|refine SW.nil ?_|refine SW.pure rfl rfl ?_|(show SW _ _ _ _ (⟨_,Op.indexAddr _ _ _,_,_,_,none⟩::_) _ _;refine SW.st (st_indexN rfl rfl (by assumption) (by omega)) rfl ?_)|(show SW _ _ _ _ (⟨_,Op.load _ _,_,_,_,none⟩::_) _ _;refine SW.st (st_load rfl (hPp.sl.one hjn rfl)) rfl ?_))
       refine SW.callX rfl rfl (back2_ans m cp li2 ⟨lv.A,lv.n-1,lv.c⟩ u0 u1 _ _ (pageB pg[j]) w.heap.size g c b3 _ hb3 hZ hw.size hD hN) fun v w8 hv => ?_
       obtain ⟨hg,u2,u3,hZ'⟩:=hv
       have hG:=hZ.gr hg
       replace hw:=hw.own hZ.glo hg
       (replace hb3:=hb3.grT hG rfl;replace hb6:=hb6.grT hG rfl;replace hM:=hM.grT hG rfl;replace hV:=hV.grT hG rfl;replace hL:=hL.grT hG rfl)
       repeat' (first|(refine CW.region ?_)|(first|refine Post.seq ?_|refine Post.blk ?_)|refine SW.nil ?_|refine SW.pure rfl rfl ?_|(show SW _ _ _ _ (⟨_,Op.binOp _ _ _ _ _,_,_,_,none⟩::_) _ _;refine SW.st (st_add rfl rfl (by omega) (by omega)) rfl ?_))
       exact Post.again (j+1,u2,u3) ⟨rfl,rfl,rfl,rfl,rfl,rfl,trivial⟩ (by simp only;omega) ⟨by simp only;omega,hw,hb3,hb6,by simp only;rw [hbt];exact hZ',hM,hV,hL⟩
      ·obtain rfl:j=4:=by omega
       have hAl:=hL.row.sl.base
       repeat' (first|(first|refine CW.seq ?_|refine CW.region ?_|refine CW.condd_f rfl (by omega) ?_|refine CW.exit ?_)|(first|refine Post.seq ?_|refine Post.seq_exit ?_|refine Post.hit ?_|refine Post.again_exit ?_)|refine SW.nil ?_|refine SW.pure rfl rfl ?_)
       refine CW.anyF 13 13 (fun _=>True) mixed (by kernel_rfl) fun w1 hw1 hRB => ?_
       replace hw:=Ext.trans hw hw1;replace hb3:=hb3.ext hw1;replace hb6:=hb6.ext hw1;replace hZ:=hZ.ext hw1;replace hM:=hM.ext hw1;replace hV:=hV.ext hw1;replace hL:=hL.ext hw1;replace hPp:=hPp.ext hw1;clear hw1
       refine SF.take 0 [] [] hRB rfl (by kernel_rfl) (by kernel_rfl) (by kernel_rfl) ?_
       repeat ((show SW _ _ _ _ (⟨_,Op.fieldAddr _ _ _,_,_,_,none⟩::_) _ _;refine SW.st (st_field rfl) rfl ?_))
       refine SW.tknil ?_
       refine SF.take 1 [] [] hRB rfl (by kernel_rfl) (by kernel_rfl) (by kernel_rfl) ?_
       repeat ((show SW _ _ _ _ (⟨_,Op.load _ _,_,_,_,none⟩::_) _ _;refine SW.st (st_load rfl (hb3.cell (i:=3) (v := .slice li2.A li2.n li2.c) rfl)) rfl ?_))
       refine SW.tknil ?_
       refine SF.take 2 [] [] hRB rfl (by kernel_rfl) (by kernel_rfl) (by kernel_rfl) ?_
       repeat (refine SW.pure rfl rfl ?_)
       refine SW.tknil ?_
       refine SF.take 3 [] [] hRB rfl (by kernel_rfl) (by kernel_rfl) (by kernel_rfl) ?_
       repeat ((show SW _ _ _ _ (⟨_,Op.fieldAddr _ _ _,_,_,_,none⟩::_) _ _;refine SW.st (st_field rfl) rfl ?_))
       refine SW.tknil ?_
       refine SF.take 4 [] [] hRB rfl (by kernel_rfl) (by kernel_rfl) (by kernel_rfl) ?_
       repeat ((show SW _ _ _ _ (⟨_,Op.load _ _,_,_,_,none⟩::_) _ _;refine SW.st (st_load rfl (hb3.cell (i:=3) (v := .slice li2.A li2.n li2.c) rfl)) rfl ?_))
       refine SW.tknil ?_
       refine SF.take 5 [] [] hRB rfl (by kernel_rfl) (by kernel_rfl) (by kernel_rfl) ?_
       repeat (refine SW.pure rfl rfl ?_)
       refine SW.tknil ?_
       refine SF.take 6 [] [] hRB rfl (by kernel_rfl) (by kernel_rfl) (by kernel_rfl) ?_
       repeat ((show SW _ _ _ _ (⟨_,Op.indexAddr _ _ _,_,_,_,none⟩::_) _ _;refine SW.st (st_indexN rfl rfl (by assumption) (by omega)) rfl ?_))
       refine SW.tknil ?_
       refine SF.take 7 [] [] hRB rfl (by kernel_rfl) (by kernel_rfl) (by kernel_rfl) ?_
       repeat ((show SW _ _ _ _ (⟨_,Op.fieldAddr _ _ _,_,_,_,none⟩::_) _ _;refine SW.st (st_field rfl) rfl ?_))
       refine SW.tknil ?_
       refine SF.take 8 [] [] hRB rfl (by kernel_rfl) (by kernel_rfl) (by kernel_rfl) ?_
       repeat ((show SW _ _ _ _ (⟨_,Op.load _ _,_,_,_,none⟩::_) _ _;refine SW.st (st_load rfl (hL.row.sl.fld hpn (j:=3) (u := .slice ls2[p0].Pages.A ls2[p0].Pages.n ls2[p0].Pages.c) rfl)) rfl ?_))
       refine SW.tknil ?_
       refine SF.take 9 [] [] hRB rfl (by kernel_rfl) (by kernel_rfl) (by kernel_rfl) ?_
       repeat ((refine SW.st (st_sliceLo (k:=4) rfl rfl (by omega) (by omega)) rfl ?_))
       refine SW.tknil ?_
       refine SF.one 10 rfl (by kernel_rfl) rfl ?_
       refine SW.call rfl rfl (CloneInt_ans _ _ _ _ _ (hPp.sl.drop 4 ls2[p0].Pages.c (by omega) (by omega)) (by omega)) fun v w4 hXX hv => ?_
       obtain ⟨X,c4,rfl,hX⟩:=hv
       replace hX:=hX.low hw.size
       (replace hw:=Ext.trans hw hXX;replace hb3:=hb3.ext hXX;replace hb6:=hb6.ext hXX;replace hZ:=hZ.ext hXX;replace hM:=hM.ext hXX;replace hV:=hV.ext hXX;replace hL:=hL.ext hXX)
       refine SW.nil (Post.sf hXX ?_)
       refine SF.take 11 [12] [12] hRB rfl (by kernel_rfl) (by kernel_rfl) (by kernel_rfl) ?_
       repeat ((show SW _ _ _ _ (⟨_,Op.indexAddr _ _ _,_,_,_,none⟩::_) _ _;refine SW.st (st_indexN rfl rfl (by assumption) (by omega)) rfl ?_))
       refine SW.tknil ?_
       refine SF.take 12 [] [] hRB rfl (by kernel_rfl) (by kernel_rfl) (by kernel_rfl) ?_
       repeat ((show SW _ _ _ _ (⟨_,Op.fieldAddr _ _ _,_,_,_,none⟩::_) _ _;refine SW.st (st_field rfl) rfl ?_))
       refine SW.tknil ?_
       refine SF.last rfl (by kernel_rfl) (by kernel_rfl) ?_
       refine SW.storeO p0 3 ⟨ls2[p0].Cpu,ls2[p0].Zone,ls2[p0].Ty,⟨X,ls2[p0].Pages.n-4,c4⟩⟩ hL.row rfl rfl rfl hpn (by decide) rfl rfl fun w6 hrow' hg6 => ?_
       have hG6:=hL.row.gr hg6
       replace hw:=ext_grown hw hg6 (Nat.le_refl _) hL.row.row_ge
       have hP1:=hL.each.get p0 hpls hplt
       rw [hpx] at hP1
       have hE:=All2.setAt (R':=OwnL w6 w.heap.size) (x:=⟨ls2[p0].Cpu,ls2[p0].Zone,ls2[p0].Ty,⟨X,ls2[p0].Pages.n-4,c4⟩⟩) (y:=withP x (pg.drop 4)) (i:=p0) hL.each ⟨hP1.cpu.trans (by rw [← hxx];rfl),hP1.zone.trans (by rw [← hxx];rfl),hP1.ty.trans (by rw [← hxx];rfl),hX.grT hG6 rfl⟩ (fun j h1 h2 _ hh=>hh.grT hG6 rfl)
       have hset:(setL h.Lists xx).set p0 (withP x (pg.drop 4))=setL h.Lists (withP x (pg.drop 4)):=by
        rw [← hp0]
        exact setL_set (by rw [← hxx];exact ⟨rfl,rfl,rfl⟩)
       rw [hset] at hE
       (replace hb3:=hb3.grT hG6 rfl;replace hb6:=hb6.grT hG6 rfl;replace hZ:=hZ.grT hG6 rfl;replace hM:=hM.grT hG6 rfl;replace hV:=hV.grT hG6 rfl)
       repeat' (first|(first|refine CW.seq ?_|refine CW.region ?_)|(first|refine Post.seq ?_|refine Post.np ?_)|refine SW.nil ?_|(show SW _ _ _ _ (⟨_,Op.load _ _,_,_,_,none⟩::_) _ _;refine SW.st (st_loads rfl rfl ((fun _ _=>hb3.cell))) rfl ?_))
       refine SW.storeAgg hb6 rfl rfl rfl rfl (one_h ⟨⟨some ⟨g,0,none⟩,2,c⟩,m,cp,li2,⟨lv.A,lv.n-1,lv.c⟩⟩) fun w9 hR2 hg => ?_
       have hG:=hb6.gr hg
       replace hw:=hw.own hb6w hg
       (replace hZ:=hZ.grT hG rfl;replace hM:=hM.grT hG rfl;replace hV:=hV.grT hG rfl)
       repeat' (first|(refine CW.ret ?_)|(refine Post.seq ?_)|refine SW.nil ?_|refine SW.pure rfl rfl ?_)
       exact Post.ret2c rfl rfl rfl hR2 rfl ⟨_,rfl,hw,⟨⟨some ⟨g,0,none⟩,2,c⟩,m,cp,li2,⟨lv.A,lv.n-1,lv.c⟩⟩,rfl,⟨ecp,hM,hV,⟨[u0,u1],⟨hZ.row,All2.two hZ.z0 hZ.z1⟩⟩,⟨_,⟨hrow'.grT hG rfl,hE.mono fun _ _ hh=>hh.grT hG rfl⟩⟩⟩⟩
     ·have efr:freedOne h z0 z1 x pg (h.Live.eraseIdx k)=⟨[z0,z1],h.Mins,h.Cpus,setL h.Lists xx,h.Live.eraseIdx k⟩:=by
       unfold freedOne
       rw [if_neg h8,← hxx];rfl
      rw [efr]
      repeat' (first|(first|refine CW.seq ?_|refine CW.region ?_|refine CW.condd_f rfl (by omega) ?_|refine CW.skip ?_)|(refine Post.seq ?_)|refine SW.nil ?_|refine SW.pure rfl rfl ?_|(show SW _ _ _ _ (⟨_,Op.fieldAddr _ _ _,_,_,_,none⟩::_) _ _;refine SW.st (st_field rfl) rfl ?_)|(show SW _ _ _ _ (⟨_,Op.indexAddr _ _ _,_,_,_,none⟩::_) _ _;refine SW.st (st_indexN rfl rfl (by assumption) (by omega)) rfl ?_)|(show SW _ _ _ _ (⟨_,Op.call ⟨.builtin .len,_,_⟩,_,_,_,none⟩::_) _ _;refine SW.st (st_len rfl) rfl ?_)|(show SW _ _ _ _ (⟨_,Op.load _ _,_,_,_,none⟩::_) _ _;first|refine SW.st (st_load rfl (hb3.cell (i:=3) (v := .slice li2.A li2.n li2.c) rfl)) rfl ?_|refine SW.st (st_loads rfl rfl ((fun _ _=>hb3.cell))) rfl ?_|refine SW.st (st_load rfl g3) rfl ?_))
      refine SW.storeAgg hb6 rfl rfl rfl rfl (one_h ⟨⟨some ⟨g,0,none⟩,2,c⟩,m,cp,li2,⟨lv.A,lv.n-1,lv.c⟩⟩) fun w9 hR2 hg => ?_
      have hG:=hb6.gr hg
      replace hw:=hw.own hb6w hg
      (replace hZ:=hZ.grT hG rfl;replace hM:=hM.grT hG rfl;replace hV:=hV.grT hG rfl;replace hL:=hL.grT hG rfl)
      repeat' (first|(refine CW.ret ?_)|(refine Post.seq ?_)|refine SW.nil ?_|refine SW.pure rfl rfl ?_)
      exact Post.ret2c rfl rfl rfl hR2 rfl ⟨_,rfl,hw,⟨⟨some ⟨g,0,none⟩,2,c⟩,m,cp,li2,⟨lv.A,lv.n-1,lv.c⟩⟩,rfl,⟨ecp,hM,hV,⟨[u0,u1],⟨hZ.row,All2.two hZ.z0 hZ.z1⟩⟩,⟨ls2,hL⟩⟩⟩
  ·rw [freeV_1 hq hc]
   repeat' (first|(first|refine CW.seq ?_|refine CW.region ?_|refine CW.condtr rfl (by with_reducible rfl) ?_|refine CW.condd_t rfl (by omega) ?_|refine CW.condn_f rfl (by omega) ?_|refine CW.skip ?_)|(refine Post.seq ?_)|refine SW.nil ?_|(show SW _ _ _ _ (⟨_,_,_,_,_,some _⟩::_) _ _;first|refine SW.want_f rfl rfl (by with_reducible rfl) ?_|refine SW.skip_f rfl rfl (by with_reducible rfl) rfl ?_|refine SW.splitd rfl rfl rfl (fun h => ?_) (fun h => ?_))|refine SW.pure rfl rfl ?_|(show SW _ _ _ _ (⟨_,Op.fieldAddr _ _ _,_,_,_,none⟩::_) _ _;refine SW.st (st_field rfl) rfl ?_)|(show SW _ _ _ _ (⟨_,Op.build _ _,_,_,_,none⟩::_) _ _;refine SW.st (st_build rfl rfl) rfl ?_)|(show SW _ _ _ _ (⟨_,Op.load _ _,_,_,_,none⟩::_) _ _;first|refine SW.st (st_loads rfl rfl ((fun _ _=>hb3.cell))) rfl ?_|refine SW.st (st_load rfl (hb3.cell (i:=2) (v := .int .i64 r.Cpus) rfl)) rfl ?_)|(show SW _ _ _ _ (⟨_,Op.call ⟨.value (.func _),_,_⟩,_,_,_,none⟩::_) _ _;(refine SW.call rfl rfl (c1 _ hw) ?_;intro v w1 hw1 hv;subst hv;replace hw:=Ext.trans hw hw1;replace hb3:=hb3.ext hw1;replace hb6:=hb6.ext hw1;clear hw1)))
   all_goals first|(exfalso;omega)|skip
   all_goals
    refine SW.storeAgg hb6 rfl rfl rfl rfl (one_h .zero) fun w5 hR2 hg => ?_
    replace hw:=hw.own hb6w hg
    repeat' (first|(refine CW.ret ?_)|(first|refine Post.seq ?_|refine Post.seq_ret ?_)|refine SW.nil ?_|refine SW.pure rfl rfl ?_)
    exact Post.ret2c rfl rfl rfl hR2 rfl ⟨_,rfl,hw,HeapOut.zero 1 _ _⟩
end Go.Proofs.YtigikedbffjeiaaGreat
