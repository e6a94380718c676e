/-
  Texts of the claim SlabDestroys, part 12: what its theorem leans on.
-/
import Derived.Test.YtigikedbffjeiaaGreatPackSlabDestroys11
import Derived.Test.YtigikedbffjeiaaGreatPackSlabDestroys4
import Derived.Test.YtigikedbffjeiaaGreatPackSlabDestroys10
import Derived.Test.YtigikedbffjeiaaGreatPackSlabDestroys9
import Derived.Test.YtigikedbffjeiaaGreatPackSlabDestroys8
set_option linter.unusedVariables false
set_option linter.unusedSimpArgs false
namespace Go.Proofs.YtigikedbffjeiaaGreat
open Go.RowKit
structure ZsOwn (w:World) (lo g c:Nat) (u0 u1:ZRow) (s:Zone×Zone) : Prop where
 row:Own w lo 72 4 encZ (some ⟨g,0,none⟩) 2 c [u0,u1]
 z0:OwnZ w lo u0 s.1
 z1:OwnZ w lo u1 s.2
 glo:lo≤g
 pos : 0<c
section
variable {w w':World} {lo lo' g c t:Nat} {u0 u1:ZRow} {s:Zone×Zone}
theorem ZsOwn.ext (h:ZsOwn w lo g c u0 u1 s) (hx:Ext w w') : ZsOwn w' lo g c u0 u1 s:=⟨h.row.ext hx,h.z0.ext hx,h.z1.ext hx,h.glo,h.pos⟩
theorem ZsOwn.grT (h:ZsOwn w lo g c u0 u1 s) (hG:GrT w w' t) (hne:(Nat.beq t 72 || (Nat.beq t 3 || Nat.beq t 94))=false) : ZsOwn w' lo g c u0 u1 s:=by
 rw [Bool.or_eq_false_iff] at hne
 exact ⟨h.row.grT hG hne.1,h.z0.grT hG hne.2,h.z1.grT hG hne.2,h.glo,h.pos⟩
theorem ZsOwn.own (h:ZsOwn w lo g c u0 u1 s) : ownB (some (⟨g,0,none⟩ : Addr)) c=some g:=by simp [ownB,Nat.pos_iff_ne_zero.1 h.pos]
theorem ZsOwn.gr (h:ZsOwn w lo g c u0 u1 s) (hg:w.grownBy w' (some g)) : GrT w w' 72:=h.row.gr (by rw [h.own];exact hg)
theorem may_fit {u:ZRow} {z:Zone} (h:OwnZ w lo u z) (hz:ZoneMay z) : (u.Free.n+1)*24≤140737488355328∧u.Types.n*8≤140737488355328∧(0≤u.From∧u.From≤256)∧(0≤u.To∧u.To≤256):=by
 have e1:=h.free.sl.len
 have e2:=h.types.sl.len
 have e3:=h.from_
 have e4:=h.to_
 have hl:=zone_len hz
 obtain ⟨o1,o2,o3,o4,o5⟩:=hz.ok
 refine ⟨Nat.le_trans (Nat.mul_le_mul_right 24 (show u.Free.n+1≤258 by omega)) (by decide),by omega,by omega,by omega⟩
end
theorem zone2_ans (r:HRow) (u0 u1:ZRow) (p:Int) (w:World) (hz:Sl w 4 encZ r.Zones.A r.Zones.n [u0,u1]) :
  Ans Tryz.prog 76 [.agg (encH r).toArray,.int .i64 p] w fun v _=>v = .int .i64 (if p<u0.To then 0 else 1):=by
 refine ans_of Tryz.func76 rfl Tryz.ntmps76 rfl ?_
 refine CW.seq (CW.region (SW.box rfl rfl fun b1 w1 hw hb1b hb1 => ?_))
 have hA:=hz.base
 have hn : 2=r.Zones.n:=hz.len
 have h0 : 0<r.Zones.n:=by omega
 have f0:=hz.fld h0 (j:=1) (u := .int .i64 u0.To) rfl
 repeat' (first|(first|refine CW.seq ?_|refine CW.region ?_|refine CW.condd rfl (fun h => ?_) (fun h => ?_)|refine CW.skip ?_|refine CW.ret ?_)|(first|refine Post.seq ?_|refine Post.seq_ret ?_)|refine SW.nil ?_|refine SW.pure rfl rfl ?_|(show SW _ _ _ _ (⟨_,Op.fieldAddr _ _ _,_,_,_,none⟩::_) _ _;refine SW.st (st_field rfl) rfl ?_)|(show SW _ _ _ _ (⟨_,Op.indexAddr _ _ _,_,_,_,none⟩::_) _ _;refine SW.st (st_indexN rfl rfl (by assumption) (by omega)) rfl ?_)|(show SW _ _ _ _ (⟨_,Op.load _ _,_,_,_,none⟩::_) _ _;first|refine SW.st (st_load rfl (hb1.cell rfl)) rfl ?_|refine SW.st (st_loadx hw rfl f0) rfl ?_))
 all_goals
  refine Post.ret1 rfl rfl ⟨_,rfl,hw,?_⟩
  first|(rw [if_pos (by omega)])|(rw [if_neg (by omega)])
theorem zoneAt2_ans (r:HRow) (u0 u1:ZRow) (p:Int) (w:World) (hz:Sl w 4 encZ r.Zones.A r.Zones.n [u0,u1]) :
  Ans Tryz.prog 83 [.agg (encH r).toArray,.int .i64 p] w fun v _=>v = .int .i64 (if p<u1.From then 0 else 1):=by
 refine ans_of Tryz.func83 rfl Tryz.ntmps83 rfl ?_
 refine CW.seq (CW.region (SW.box rfl rfl fun b1 w1 hw hb1b hb1 => ?_))
 have hA:=hz.base
 have hn : 2=r.Zones.n:=hz.len
 have h0 : 1<r.Zones.n:=by omega
 have f0:=hz.fld h0 (j:=0) (u := .int .i64 u1.From) rfl
 repeat' (first|(first|refine CW.seq ?_|refine CW.region ?_|refine CW.condd rfl (fun h => ?_) (fun h => ?_)|refine CW.skip ?_|refine CW.ret ?_)|(first|refine Post.seq ?_|refine Post.seq_ret ?_)|refine SW.nil ?_|refine SW.pure rfl rfl ?_|(show SW _ _ _ _ (⟨_,Op.fieldAddr _ _ _,_,_,_,none⟩::_) _ _;refine SW.st (st_field rfl) rfl ?_)|(show SW _ _ _ _ (⟨_,Op.indexAddr _ _ _,_,_,_,none⟩::_) _ _;refine SW.st (st_indexN rfl rfl (by assumption) (by omega)) rfl ?_)|(show SW _ _ _ _ (⟨_,Op.load _ _,_,_,_,none⟩::_) _ _;first|refine SW.st (st_load rfl (hb1.cell rfl)) rfl ?_|refine SW.st (st_loadx hw rfl f0) rfl ?_))
 all_goals
  refine Post.ret1 rfl rfl ⟨_,rfl,hw,?_⟩
  first|(rw [if_pos (by omega)])|(rw [if_neg (by omega)])
def BackRes (w:World) (lo g c:Nat) (s:Zone×Zone) (b:Block) (w':World) : Prop:=w.grownBy w' (some g) ∧ ∃ u0 u1,ZsOwn w' lo g c u0 u1 (backP s b)
theorem back2_ans (m:Sli) (cp:Int) (li lv:Sli) (u0 u1:ZRow) (s:Zone×Zone) (bs:List Block) (b:Block) (lo g c b1:Nat) (w:World) (hb1:Blk w b1 27 (encH ⟨⟨some ⟨g,0,none⟩,2,c⟩,m,cp,li,lv⟩)) (hZ:ZsOwn w lo g c u0 u1 s) (hlo:lo≤w.heap.size) (hD:DInv s bs) (hN:NextB bs b) :
  AnsX Tryz.prog 75 [.pointer (some ⟨b1,0,none⟩),.int .i64 b.At,.int .i64 b.Order] w fun v w'=>BackRes w lo g c s b w':=by
 refine ansx_of Tryz.func75 rfl Tryz.ntmps75 rfl ?_
 have hw:=Ext.refl w
 have eT:=hZ.z0.to_
 obtain ⟨q1,q2,q3,q4⟩:=may_fit hZ.z0 hD.may0
 obtain ⟨p1,p2,p3,p4⟩:=may_fit hZ.z1 hD.may1
 have hA:=hZ.row.sl.base
 have cz:∀ w',Sl w' 4 encZ (some ⟨g,0,none⟩) 2 [u0,u1]→Ans Tryz.prog 76 [.agg (encH ⟨⟨some ⟨g,0,none⟩,2,c⟩,m,cp,li,lv⟩).toArray,.int .i64 b.At] w' fun v _=>v = .int .i64 (if b.At<u0.To then 0 else 1):=fun w' h=>zone2_ans ⟨⟨some ⟨g,0,none⟩,2,c⟩,m,cp,li,lv⟩ u0 u1 b.At w' h
 by_cases hx:b.At<u0.To
 ·have eP:backP s b=((backV s.1 b.At b.Order).2,s.2):=by unfold backP;rw [if_pos (by omega)]
  simp only [if_pos hx] at cz
  have hz0:=hZ.row.sl
  have k0 : 0<2:=by omega
  repeat' (first|(first|refine CW.seq ?_|refine CW.region ?_)|(refine Post.seq ?_)|refine SW.nil ?_|refine SW.pure rfl rfl ?_|(show SW _ _ _ _ (⟨_,Op.nilCheck _,_,_,_,none⟩::_) _ _;refine SW.st (st_nilCheck rfl) rfl ?_)|(show SW _ _ _ _ (⟨_,Op.load _ _,_,_,_,none⟩::_) _ _;refine SW.st (st_loads rfl rfl ((fun _ _=>hb1.cell))) rfl ?_)|(show SW _ _ _ _ (⟨_,Op.call ⟨.value (.func _),_,_⟩,_,_,_,none⟩::_) _ _;(refine SW.call rfl rfl (cz _ hZ.row.sl) ?_;intro v w1 hw1 hv;subst hv;replace hw:=Ext.trans hw hw1;replace hb1:=hb1.ext hw1;replace hZ:=hZ.ext hw1;clear hw1)))
  refine CW.anyF 19 19 (fun _=>True) mixed (by kernel_rfl) fun w1 hw1 hRB => ?_
  replace hw:=Ext.trans hw hw1;replace hb1:=hb1.ext hw1;replace hZ:=hZ.ext hw1;clear hw1
  refine SF.take 0 [] [] hRB rfl (by kernel_rfl) (by kernel_rfl) (by kernel_rfl) ?_
  repeat (refine SW.pure rfl rfl ?_)
  refine SW.tknil ?_
  refine SF.take 1 [] [] hRB rfl (by kernel_rfl) (by kernel_rfl) (by kernel_rfl) ?_
  repeat ((show SW _ _ _ _ (⟨_,Op.nilCheck _,_,_,_,none⟩::_) _ _;refine SW.st (st_nilCheck rfl) rfl ?_))
  refine SW.tknil ?_
  refine SF.take 2 [] [] hRB rfl (by kernel_rfl) (by kernel_rfl) (by kernel_rfl) ?_
  repeat ((show SW _ _ _ _ (⟨_,Op.fieldAddr _ _ _,_,_,_,none⟩::_) _ _;refine SW.st (st_field rfl) rfl ?_))
  refine SW.tknil ?_
  refine SF.take 3 [] [] hRB rfl (by kernel_rfl) (by kernel_rfl) (by kernel_rfl) ?_
  repeat ((show SW _ _ _ _ (⟨_,Op.load _ _,_,_,_,none⟩::_) _ _;refine SW.st (st_load rfl (hb1.cell rfl)) rfl ?_))
  refine SW.tknil ?_
  refine SF.take 4 [] [] hRB rfl (by kernel_rfl) (by kernel_rfl) (by kernel_rfl) ?_
  repeat (refine SW.pure rfl rfl ?_)
  refine SW.tknil ?_
  refine SF.take 5 [] [] hRB rfl (by kernel_rfl) (by kernel_rfl) (by kernel_rfl) ?_
  repeat (refine SW.pure rfl rfl ?_)
  refine SW.tknil ?_
  refine SF.take 6 [] [] hRB rfl (by kernel_rfl) (by kernel_rfl) (by kernel_rfl) ?_
  repeat ((show SW _ _ _ _ (⟨_,Op.nilCheck _,_,_,_,none⟩::_) _ _;refine SW.st (st_nilCheck rfl) rfl ?_))
  refine SW.tknil ?_
  refine SF.take 7 [] [] hRB rfl (by kernel_rfl) (by kernel_rfl) (by kernel_rfl) ?_
  repeat ((show SW _ _ _ _ (⟨_,Op.fieldAddr _ _ _,_,_,_,none⟩::_) _ _;refine SW.st (st_field rfl) rfl ?_))
  refine SW.tknil ?_
  refine SF.take 8 [] [] hRB rfl (by kernel_rfl) (by kernel_rfl) (by kernel_rfl) ?_
  repeat ((show SW _ _ _ _ (⟨_,Op.load _ _,_,_,_,none⟩::_) _ _;refine SW.st (st_load rfl (hb1.cell rfl)) rfl ?_))
  refine SW.tknil ?_
  refine SF.take 9 [] [] hRB rfl (by kernel_rfl) (by kernel_rfl) (by kernel_rfl) ?_
  repeat (refine SW.pure rfl rfl ?_)
  refine SW.tknil ?_
  refine SF.take 10 [] [] hRB rfl (by kernel_rfl) (by kernel_rfl) (by kernel_rfl) ?_
  repeat ((show SW _ _ _ _ (⟨_,Op.indexAddr _ _ _,_,_,_,none⟩::_) _ _;refine SW.st (st_indexN rfl rfl (by assumption) (by omega)) rfl ?_))
  refine SW.tknil ?_
  refine SF.take 11 [] [] hRB rfl (by kernel_rfl) (by kernel_rfl) (by kernel_rfl) ?_
  repeat ((show SW _ _ _ _ (⟨_,Op.load _ _,_,_,_,none⟩::_) _ _;refine SW.st (st_loads rfl rfl ((hZ.row.sl.all k0))) rfl ?_))
  refine SW.tknil ?_
  refine SF.take 12 [] [] hRB rfl (by kernel_rfl) (by kernel_rfl) (by kernel_rfl) ?_
  repeat (refine SW.pure rfl rfl ?_)
  refine SW.tknil ?_
  refine SF.take 13 [] [] hRB rfl (by kernel_rfl) (by kernel_rfl) (by kernel_rfl) ?_
  repeat (refine SW.pure rfl rfl ?_)
  refine SW.tknil ?_
  refine SF.one 14 rfl (by kernel_rfl) rfl ?_
  refine SW.call rfl rfl (Zback_ans u0 s.1 b.At b.Order _ hZ.z0.rd q1 q2 ⟨by omega,by omega⟩ ⟨by omega,by omega⟩) fun v w4 hXX hv => ?_
  obtain ⟨u',rfl,hs'⟩:=hv
  replace hs':=hs'.low (Nat.le_trans hlo hw.size)
  (replace hw:=Ext.trans hw hXX;replace hb1:=hb1.ext hXX;replace hZ:=hZ.ext hXX)
  refine SW.nil (Post.sf hXX ?_)
  refine SF.take 15 [] [] hRB rfl (by kernel_rfl) (by kernel_rfl) (by kernel_rfl) ?_
  repeat (refine SW.pure rfl rfl ?_)
  refine SW.tknil ?_
  refine SF.take 16 [] [] hRB rfl (by kernel_rfl) (by kernel_rfl) (by kernel_rfl) ?_
  repeat (refine SW.pure rfl rfl ?_)
  refine SW.tknil ?_
  refine SF.takeX 17 hRB rfl (by kernel_rfl) (by kernel_rfl) rfl (fun _=>pureV_st rfl) rfl ?_
  refine SF.take 18 [] [] hRB rfl (by kernel_rfl) (by kernel_rfl) (by kernel_rfl) ?_
  repeat ((show SW _ _ _ _ (⟨_,Op.indexAddr _ _ _,_,_,_,none⟩::_) _ _;refine SW.st (st_indexN rfl rfl (by assumption) (by omega)) rfl ?_))
  refine SW.tknil ?_
  refine SF.last rfl (by kernel_rfl) (by kernel_rfl) ?_
  refine SW.storeElem (enc:=encZ) 0 u' hZ.row rfl rfl k0 fun w5 hO hg => ?_
  rw [hZ.own] at hg
  have hG:=hZ.gr hg
  have hgg:=grown_trans (hw.gr (some g)) hg (.inl rfl)
  repeat' (first|(refine Post.np ?_)|refine SW.nil ?_)
  exact Post.end0 rfl ⟨_,rfl,hgg,u',u1,by rw [eP];exact ⟨hO,hs'.grT hG rfl,hZ.z1.grT hG rfl,hZ.glo,hZ.pos⟩⟩
 ·have eP:backP s b=(s.1,(backV s.2 b.At b.Order).2):=by unfold backP;rw [if_neg (by omega)]
  simp only [if_neg hx] at cz
  have k0 : 1<2:=by omega
  repeat' (first|(first|refine CW.seq ?_|refine CW.region ?_)|(refine Post.seq ?_)|refine SW.nil ?_|refine SW.pure rfl rfl ?_|(show SW _ _ _ _ (⟨_,Op.nilCheck _,_,_,_,none⟩::_) _ _;refine SW.st (st_nilCheck rfl) rfl ?_)|(show SW _ _ _ _ (⟨_,Op.load _ _,_,_,_,none⟩::_) _ _;refine SW.st (st_loads rfl rfl ((fun _ _=>hb1.cell))) rfl ?_)|(show SW _ _ _ _ (⟨_,Op.call ⟨.value (.func _),_,_⟩,_,_,_,none⟩::_) _ _;(refine SW.call rfl rfl (cz _ hZ.row.sl) ?_;intro v w1 hw1 hv;subst hv;replace hw:=Ext.trans hw hw1;replace hb1:=hb1.ext hw1;replace hZ:=hZ.ext hw1;clear hw1)))
  refine CW.anyF 19 19 (fun _=>True) mixed (by kernel_rfl) fun w1 hw1 hRB => ?_
  replace hw:=Ext.trans hw hw1;replace hb1:=hb1.ext hw1;replace hZ:=hZ.ext hw1;clear hw1
  refine SF.take 0 [] [] hRB rfl (by kernel_rfl) (by kernel_rfl) (by kernel_rfl) ?_
  repeat (refine SW.pure rfl rfl ?_)
  refine SW.tknil ?_
  refine SF.take 1 [] [] hRB rfl (by kernel_rfl) (by kernel_rfl) (by kernel_rfl) ?_
  repeat ((show SW _ _ _ _ (⟨_,Op.nilCheck _,_,_,_,none⟩::_) _ _;refine SW.st (st_nilCheck rfl) rfl ?_))
  refine SW.tknil ?_
  refine SF.take 2 [] [] hRB rfl (by kernel_rfl) (by kernel_rfl) (by kernel_rfl) ?_
  repeat ((show SW _ _ _ _ (⟨_,Op.fieldAddr _ _ _,_,_,_,none⟩::_) _ _;refine SW.st (st_field rfl) rfl ?_))
  refine SW.tknil ?_
  refine SF.take 3 [] [] hRB rfl (by kernel_rfl) (by kernel_rfl) (by kernel_rfl) ?_
  repeat ((show SW _ _ _ _ (⟨_,Op.load _ _,_,_,_,none⟩::_) _ _;refine SW.st (st_load rfl (hb1.cell rfl)) rfl ?_))
  refine SW.tknil ?_
  refine SF.take 4 [] [] hRB rfl (by kernel_rfl) (by kernel_rfl) (by kernel_rfl) ?_
  repeat (refine SW.pure rfl rfl ?_)
  refine SW.tknil ?_
  refine SF.take 5 [] [] hRB rfl (by kernel_rfl) (by kernel_rfl) (by kernel_rfl) ?_
  repeat (refine SW.pure rfl rfl ?_)
  refine SW.tknil ?_
  refine SF.take 6 [] [] hRB rfl (by kernel_rfl) (by kernel_rfl) (by kernel_rfl) ?_
  repeat ((show SW _ _ _ _ (⟨_,Op.nilCheck _,_,_,_,none⟩::_) _ _;refine SW.st (st_nilCheck rfl) rfl ?_))
  refine SW.tknil ?_
  refine SF.take 7 [] [] hRB rfl (by kernel_rfl) (by kernel_rfl) (by kernel_rfl) ?_
  repeat ((show SW _ _ _ _ (⟨_,Op.fieldAddr _ _ _,_,_,_,none⟩::_) _ _;refine SW.st (st_field rfl) rfl ?_))
  refine SW.tknil ?_
  refine SF.take 8 [] [] hRB rfl (by kernel_rfl) (by kernel_rfl) (by kernel_rfl) ?_
  repeat ((show SW _ _ _ _ (⟨_,Op.load _ _,_,_,_,none⟩::_) _ _;refine SW.st (st_load rfl (hb1.cell rfl)) rfl ?_))
  refine SW.tknil ?_
  refine SF.take 9 [] [] hRB rfl (by kernel_rfl) (by kernel_rfl) (by kernel_rfl) ?_
  repeat (refine SW.pure rfl rfl ?_)
  refine SW.tknil ?_
  refine SF.take 10 [] [] hRB rfl (by kernel_rfl) (by kernel_rfl) (by kernel_rfl) ?_
  repeat ((show SW _ _ _ _ (⟨_,Op.indexAddr _ _ _,_,_,_,none⟩::_) _ _;refine SW.st (st_indexN rfl rfl (by assumption) (by omega)) rfl ?_))
  refine SW.tknil ?_
  refine SF.take 11 [] [] hRB rfl (by kernel_rfl) (by kernel_rfl) (by kernel_rfl) ?_
  repeat ((show SW _ _ _ _ (⟨_,Op.load _ _,_,_,_,none⟩::_) _ _;refine SW.st (st_loads rfl rfl ((hZ.row.sl.all k0))) rfl ?_))
  refine SW.tknil ?_
  refine SF.take 12 [] [] hRB rfl (by kernel_rfl) (by kernel_rfl) (by kernel_rfl) ?_
  repeat (refine SW.pure rfl rfl ?_)
  refine SW.tknil ?_
  refine SF.take 13 [] [] hRB rfl (by kernel_rfl) (by kernel_rfl) (by kernel_rfl) ?_
  repeat (refine SW.pure rfl rfl ?_)
  refine SW.tknil ?_
  refine SF.one 14 rfl (by kernel_rfl) rfl ?_
  refine SW.call rfl rfl (Zback_ans u1 s.2 b.At b.Order _ hZ.z1.rd p1 p2 ⟨by omega,by omega⟩ ⟨by omega,by omega⟩) fun v w4 hXX hv => ?_
  obtain ⟨u',rfl,hs'⟩:=hv
  replace hs':=hs'.low (Nat.le_trans hlo hw.size)
  (replace hw:=Ext.trans hw hXX;replace hb1:=hb1.ext hXX;replace hZ:=hZ.ext hXX)
  refine SW.nil (Post.sf hXX ?_)
  refine SF.take 15 [] [] hRB rfl (by kernel_rfl) (by kernel_rfl) (by kernel_rfl) ?_
  repeat (refine SW.pure rfl rfl ?_)
  refine SW.tknil ?_
  refine SF.take 16 [] [] hRB rfl (by kernel_rfl) (by kernel_rfl) (by kernel_rfl) ?_
  repeat (refine SW.pure rfl rfl ?_)
  refine SW.tknil ?_
  refine SF.takeX 17 hRB rfl (by kernel_rfl) (by kernel_rfl) rfl (fun _=>pureV_st rfl) rfl ?_
  refine SF.take 18 [] [] hRB rfl (by kernel_rfl) (by kernel_rfl) (by kernel_rfl) ?_
  repeat ((show SW _ _ _ _ (⟨_,Op.indexAddr _ _ _,_,_,_,none⟩::_) _ _;refine SW.st (st_indexN rfl rfl (by assumption) (by omega)) rfl ?_))
  refine SW.tknil ?_
  refine SF.last rfl (by kernel_rfl) (by kernel_rfl) ?_
  refine SW.storeElem (enc:=encZ) 1 u' hZ.row rfl rfl k0 fun w5 hO hg => ?_
  rw [hZ.own] at hg
  have hG:=hZ.gr hg
  have hgg:=grown_trans (hw.gr (some g)) hg (.inl rfl)
  repeat' (first|(refine Post.np ?_)|refine SW.nil ?_)
  exact Post.end0 rfl ⟨_,rfl,hgg,u0,u',by rw [eP];exact ⟨hO,hZ.z0.grT hG rfl,hs'.grT hG rfl,hZ.glo,hZ.pos⟩⟩
theorem returned_ans (m:Sli) (cp:Int) (li lv:Sli) (u0 u1:ZRow) (s:Zone×Zone) (bs:List Block) (b:Block) (lo g c:Nat) (w:World) (hZ:ZsOwn w lo g c u0 u1 s) (hlo:lo≤w.heap.size) (hD:DInv s bs) (hN:NextB bs b) :
  AnsX Tryz.prog 82 [.agg (encH ⟨⟨some ⟨g,0,none⟩,2,c⟩,m,cp,li,lv⟩).toArray,.int .i64 b.At,.int .i64 b.Order] w fun v w'=>v = .agg (encH ⟨⟨some ⟨g,0,none⟩,2,c⟩,m,cp,li,lv⟩).toArray∧BackRes w lo g c s b w':=by
 refine ansx_of Tryz.func82 rfl Tryz.ntmps82 rfl ?_
 refine CW.seq (CW.region (SW.box rfl rfl fun b3 w1 hw hb3b hb3 => ?_))
 refine SW.alloc rfl fun b6 w2 hw2 hb6b hb6 => ?_
 have hb6w:w.heap.size≤b6:=Nat.le_trans hw.size hb6b
 (replace hw:=Ext.trans hw hw2;replace hb3:=hb3.ext hw2)
 replace hZ:=hZ.ext hw
 have eT:=hZ.z0.to_
 have eF:=hZ.z1.from_
 have eM:=hD.mid
 obtain ⟨q1,q2,q3,q4⟩:=may_fit hZ.z0 hD.may0
 obtain ⟨p1,p2,p3,p4⟩:=may_fit hZ.z1 hD.may1
 have hA:=hZ.row.sl.base
 have cz:∀ w',Sl w' 4 encZ (some ⟨g,0,none⟩) 2 [u0,u1]→Ans Tryz.prog 83 [.agg (encH ⟨⟨some ⟨g,0,none⟩,2,c⟩,m,cp,li,lv⟩).toArray,.int .i64 b.At] w' fun v _=>v = .int .i64 (if b.At<u1.From then 0 else 1):=fun w' h=>zoneAt2_ans ⟨⟨some ⟨g,0,none⟩,2,c⟩,m,cp,li,lv⟩ u0 u1 b.At w' h
 by_cases hx:b.At<u1.From
 ·have eP:backP s b=((backV s.1 b.At b.Order).2,s.2):=by unfold backP;rw [if_pos (by omega)]
  simp only [if_pos hx] at cz
  have k0 : 0<2:=by omega
  repeat' (first|(first|refine CW.seq ?_|refine CW.region ?_)|(refine Post.seq ?_)|refine SW.nil ?_|refine SW.pure rfl rfl ?_|(show SW _ _ _ _ (⟨_,Op.fieldAddr _ _ _,_,_,_,none⟩::_) _ _;refine SW.st (st_field rfl) rfl ?_)|(show SW _ _ _ _ (⟨_,Op.load _ _,_,_,_,none⟩::_) _ _;refine SW.st (st_loads rfl rfl ((fun _ _=>hb3.cell))) rfl ?_)|(show SW _ _ _ _ (⟨_,Op.call ⟨.value (.func _),_,_⟩,_,_,_,none⟩::_) _ _;(refine SW.call rfl rfl (cz _ hZ.row.sl) ?_;intro v w1 hw1 hv;subst hv;replace hw:=Ext.trans hw hw1;replace hb3:=hb3.ext hw1;replace hb6:=hb6.ext hw1;replace hZ:=hZ.ext hw1;clear hw1)))
  repeat' (first|refine SW.pure rfl rfl ?_|(show SW _ _ _ _ (⟨_,Op.indexAddr _ _ _,_,_,_,none⟩::_) _ _;refine SW.st (st_indexN rfl rfl (by assumption) (by omega)) rfl ?_)|(show SW _ _ _ _ (⟨_,Op.load _ _,_,_,_,none⟩::_) _ _;first|refine SW.st (st_load rfl (hb3.cell rfl)) rfl ?_|refine SW.st (st_loads rfl rfl ((hZ.row.sl.all k0))) rfl ?_))
  refine SW.call rfl rfl (BackOf_ans u0 s.1 b.At b.Order _ hZ.z0.rd q1 q2 ⟨by omega,by omega⟩ ⟨by omega,by omega⟩) fun v w4 hXX hv => ?_
  obtain ⟨u',rfl,hs'⟩:=hv
  replace hs':=hs'.low (Nat.le_trans hlo hw.size)
  (replace hw:=Ext.trans hw hXX;replace hb3:=hb3.ext hXX;replace hb6:=hb6.ext hXX;replace hZ:=hZ.ext hXX)
  repeat' (refine SW.pure rfl rfl ?_)
  refine SW.alloc rfl fun b8 w1 hw1 hb8b hb8 => ?_
  skip
  refine SW.storeAgg hb8 rfl rfl rfl rfl (one_z u') fun w2 hb8' hg => ?_
  have hXX:=hw1.own hb8b hg
  have hb8w:w.heap.size≤b8:=Nat.le_trans hw.size hb8b
  replace hw:=Ext.trans hw hXX
  replace hb3:=hb3.ext hXX
  replace hb6:=hb6.ext hXX
  replace hZ:=hZ.ext hXX
  replace hs':=hs'.ext hXX
  replace hb8:=hb8'
  clear hb8' hw1 hg hXX
  repeat' (first|(first|refine CW.seq ?_|refine CW.region ?_)|(refine Post.seq ?_)|refine SW.nil ?_|refine SW.pure rfl rfl ?_|(show SW _ _ _ _ (⟨_,Op.fieldAddr _ _ _,_,_,_,none⟩::_) _ _;refine SW.st (st_field rfl) rfl ?_)|(show SW _ _ _ _ (⟨_,Op.indexAddr _ _ _,_,_,_,none⟩::_) _ _;refine SW.st (st_indexN rfl rfl (by assumption) (by omega)) rfl ?_)|(show SW _ _ _ _ (⟨_,Op.load _ _,_,_,_,none⟩::_) _ _;first|refine SW.st (st_load rfl (hb3.cell rfl)) rfl ?_|refine SW.st (st_loads rfl rfl ((fun _ _=>hb8.cell))) rfl ?_))
  refine SW.storeElem (enc:=encZ) 0 u' hZ.row rfl rfl k0 fun w5 hO hg => ?_
  rw [hZ.own] at hg
  have hG:=hZ.gr hg
  have hgg:=grown_trans (hw.gr (some g)) hg (.inl rfl)
  have hZ':ZsOwn w5 lo g c u' u1 (backP s b):=by rw [eP];exact ⟨hO,hs'.grT hG rfl,hZ.z1.grT hG rfl,hZ.glo,hZ.pos⟩
  clear hZ hs' hb8 cz hO
  (replace hb3:=hb3.grT hG rfl;replace hb6:=hb6.grT hG rfl)
  have hw3:=Ext.refl w5
  clear hw
  have hw:=hw3
  repeat' (first|(first|refine CW.seq ?_|refine CW.region ?_)|(refine Post.seq ?_)|refine SW.nil ?_|(show SW _ _ _ _ (⟨_,Op.load _ _,_,_,_,none⟩::_) _ _;refine SW.st (st_loads rfl rfl ((fun _ _=>hb3.cell))) rfl ?_))
  refine SW.storeAgg hb6 rfl rfl rfl rfl (one_h ⟨⟨some ⟨g,0,none⟩,2,c⟩,m,cp,li,lv⟩) fun w6 hR2 hg => ?_
  have hG:=hb6.gr hg
  replace hgg:=grown_trans hgg hg (.inr fun i e=>by cases e;exact hb6w)
  repeat' (first|(refine CW.ret ?_)|(refine Post.seq ?_)|refine SW.nil ?_)
  exact Post.ret1c rfl rfl hR2 rfl ⟨_,rfl,rfl,hgg,u',u1,hZ'.grT hG rfl⟩
 ·have eP:backP s b=(s.1,(backV s.2 b.At b.Order).2):=by unfold backP;rw [if_neg (by omega)]
  simp only [if_neg hx] at cz
  have k0 : 1<2:=by omega
  repeat' (first|(first|refine CW.seq ?_|refine CW.region ?_)|(refine Post.seq ?_)|refine SW.nil ?_|refine SW.pure rfl rfl ?_|(show SW _ _ _ _ (⟨_,Op.fieldAddr _ _ _,_,_,_,none⟩::_) _ _;refine SW.st (st_field rfl) rfl ?_)|(show SW _ _ _ _ (⟨_,Op.load _ _,_,_,_,none⟩::_) _ _;refine SW.st (st_loads rfl rfl ((fun _ _=>hb3.cell))) rfl ?_)|(show SW _ _ _ _ (⟨_,Op.call ⟨.value (.func _),_,_⟩,_,_,_,none⟩::_) _ _;(refine SW.call rfl rfl (cz _ hZ.row.sl) ?_;intro v w1 hw1 hv;subst hv;replace hw:=Ext.trans hw hw1;replace hb3:=hb3.ext hw1;replace hb6:=hb6.ext hw1;replace hZ:=hZ.ext hw1;clear hw1)))
  repeat' (first|refine SW.pure rfl rfl ?_|(show SW _ _ _ _ (⟨_,Op.indexAddr _ _ _,_,_,_,none⟩::_) _ _;refine SW.st (st_indexN rfl rfl (by assumption) (by omega)) rfl ?_)|(show SW _ _ _ _ (⟨_,Op.load _ _,_,_,_,none⟩::_) _ _;first|refine SW.st (st_load rfl (hb3.cell rfl)) rfl ?_|refine SW.st (st_loads rfl rfl ((hZ.row.sl.all k0))) rfl ?_))
  refine SW.call rfl rfl (BackOf_ans u1 s.2 b.At b.Order _ hZ.z1.rd p1 p2 ⟨by omega,by omega⟩ ⟨by omega,by omega⟩) fun v w4 hXX hv => ?_
  obtain ⟨u',rfl,hs'⟩:=hv
  replace hs':=hs'.low (Nat.le_trans hlo hw.size)
  (replace hw:=Ext.trans hw hXX;replace hb3:=hb3.ext hXX;replace hb6:=hb6.ext hXX;replace hZ:=hZ.ext hXX)
  repeat' (refine SW.pure rfl rfl ?_)
  refine SW.alloc rfl fun b8 w1 hw1 hb8b hb8 => ?_
  skip
  refine SW.storeAgg hb8 rfl rfl rfl rfl (one_z u') fun w2 hb8' hg => ?_
  have hXX:=hw1.own hb8b hg
  have hb8w:w.heap.size≤b8:=Nat.le_trans hw.size hb8b
  replace hw:=Ext.trans hw hXX
  replace hb3:=hb3.ext hXX
  replace hb6:=hb6.ext hXX
  replace hZ:=hZ.ext hXX
  replace hs':=hs'.ext hXX
  replace hb8:=hb8'
  clear hb8' hw1 hg hXX
  repeat' (first|(first|refine CW.seq ?_|refine CW.region ?_)|(refine Post.seq ?_)|refine SW.nil ?_|refine SW.pure rfl rfl ?_|(show SW _ _ _ _ (⟨_,Op.fieldAddr _ _ _,_,_,_,none⟩::_) _ _;refine SW.st (st_field rfl) rfl ?_)|(show SW _ _ _ _ (⟨_,Op.indexAddr _ _ _,_,_,_,none⟩::_) _ _;refine SW.st (st_indexN rfl rfl (by assumption) (by omega)) rfl ?_)|(show SW _ _ _ _ (⟨_,Op.load _ _,_,_,_,none⟩::_) _ _;first|refine SW.st (st_load rfl (hb3.cell rfl)) rfl ?_|refine SW.st (st_loads rfl rfl ((fun _ _=>hb8.cell))) rfl ?_))
  refine SW.storeElem (enc:=encZ) 1 u' hZ.row rfl rfl k0 fun w5 hO hg => ?_
  rw [hZ.own] at hg
  have hG:=hZ.gr hg
  have hgg:=grown_trans (hw.gr (some g)) hg (.inl rfl)
  have hZ':ZsOwn w5 lo g c u0 u' (backP s b):=by rw [eP];exact ⟨hO,hZ.z0.grT hG rfl,hs'.grT hG rfl,hZ.glo,hZ.pos⟩
  clear hZ hs' hb8 cz hO
  (replace hb3:=hb3.grT hG rfl;replace hb6:=hb6.grT hG rfl)
  have hw3:=Ext.refl w5
  clear hw
  have hw:=hw3
  repeat' (first|(first|refine CW.seq ?_|refine CW.region ?_)|(refine Post.seq ?_)|refine SW.nil ?_|(show SW _ _ _ _ (⟨_,Op.load _ _,_,_,_,none⟩::_) _ _;refine SW.st (st_loads rfl rfl ((fun _ _=>hb3.cell))) rfl ?_))
  refine SW.storeAgg hb6 rfl rfl rfl rfl (one_h ⟨⟨some ⟨g,0,none⟩,2,c⟩,m,cp,li,lv⟩) fun w6 hR2 hg => ?_
  have hG:=hb6.gr hg
  replace hgg:=grown_trans hgg hg (.inr fun i e=>by cases e;exact hb6w)
  repeat' (first|(refine CW.ret ?_)|(refine Post.seq ?_)|refine SW.nil ?_)
  exact Post.ret1c rfl rfl hR2 rfl ⟨_,rfl,rfl,hgg,u0,u',hZ'.grT hG rfl⟩
open Go.RowKit
theorem OwnHS.split {w:World} {lo:Nat} {r:HRow} {h:Heap} (a:OwnHS w lo r h) {z0 z1:Zone} (hz:h.Zones=[z0,z1]) : ∃ g c u0 u1 ls,r.Zones=⟨some ⟨g,0,none⟩,2,c⟩∧ZsOwn w lo g c u0 u1 (z0,z1)∧OwnLs w lo r.Lists ls h.Lists∧SepM r.Mins [u0,u1] ls∧SepF r.Live [u0,u1]:=by
 obtain ⟨zs,ls,hzs,hls,hm,hf⟩:=a.all
 have l0:=hzs.each.len
 rw [hz] at l0
 obtain ⟨u0,u1,rfl⟩:=two_of (show zs.length=2 from l0)
 have l1:=hzs.row.len
 have h0:=hzs.each.get 0 (by simp) (by simp [hz])
 have h1:=hzs.each.get 1 (by simp) (by simp [hz])
 simp only [hz] at h0 h1
 have hc : 0<r.Zones.c:=by have:=hzs.row.le;simp at l1;omega
 obtain ⟨g,rest,hA,hlo,_⟩:=hzs.row.opened hc
 refine ⟨g,r.Zones.c,u0,u1,ls,?_,⟨?_,h0,h1,hlo,hc⟩,hls,hm,hf⟩
 ·rw [← hA]
  have:(2:Nat)=r.Zones.n:=l1
  rw [this]
 ·have:=hzs.row
  rw [hA,← l1] at this
  exact this
theorem Own.apart {α : Type} {w w':World} {lo:Nat} {e:TypeId} {sz:Nat} {enc : α → List Value} {A:Option Addr} {n c:Nat} {l:List α} (h:Own w lo e sz enc A n c l) {row:Option Nat} (hg:w.grownBy w' row) (hs:∀ g,ownB A c=some g→row≠some g) : Own w' lo e sz enc A n c l:=by
 refine h.grown hg ?_
 cases e:ownB A c with
 | none=>exact .inl rfl
 | some g=>exact .inr (fun e2=>hs g e e2.symm)
theorem ZsOwn.atLive {w w':World} {lo g c:Nat} {u0 u1:ZRow} {s:Zone×Zone} (h:ZsOwn w lo g c u0 u1 s) {lv:Sli} (hs:SepF lv [u0,u1]) (hg:w.grownBy w' (ownB lv.A lv.c)) (hG:GrT w w' 94) : ZsOwn w' lo g c u0 u1 s :=
 ⟨h.row.grT hG rfl,⟨h.z0.from_,h.z0.to_,h.z0.free.apart hg (hs u0 (by simp)),h.z0.types.grT hG rfl⟩,⟨h.z1.from_,h.z1.to_,h.z1.free.apart hg (hs u1 (by simp)),h.z1.types.grT hG rfl⟩,h.glo,h.pos⟩
structure Away (w0:World) (li:Sli) (b1:Nat) (o:Option Nat) : Prop where
 out:∀ k,o=some k→k≠b1∧ownB li.A li.c≠some k∧k<w0.heap.size
theorem Away.ne {w0:World} {li:Sli} {b1:Nat} {o row:Option Nat} (h:Away w0 li b1 o) (hr:∀ k,row=some k→k=b1∨ownB li.A li.c=some k∨w0.heap.size≤k) : ∀ g,o=some g→row≠some g:=fun g e e2=>by
 obtain ⟨h1,h2,h3⟩:=h.out g e
 rcases hr g e2 with h|h|h
 ·exact h1 h
 ·exact h2 h
 ·omega
theorem Own.away {α : Type} {w0:World} {lo:Nat} {e:TypeId} {sz:Nat} {enc : α → List Value} {A:Option Addr} {n c:Nat} {l:List α} (h:Own w0 lo e sz enc A n c l) {li:Sli} {ls:List LRow} {L:List PList} {b1:Nat} {cs:List Value} (hl:OwnLs w0 lo li ls L) (hb:Blk w0 b1 27 cs) (h1:Nat.beq 27 e=false) (h2:Nat.beq e 75=false) : Away w0 li b1 (ownB A c) :=
 ⟨fun k hk=>⟨fun e=>h.ne_blk hb h1 (by rw [hk,e]),by
  rcases h.row with ⟨_,rfl⟩|⟨hc,g,cur,rfl,_,hg,_⟩
  ·simp [ownB] at hk
  ·simp only [ownB,Nat.pos_iff_ne_zero.1 hc,if_false,Option.map_some,Option.some.injEq] at hk
   subst hk
   exact hl.row.ne_blk (cs:=cur.toList) (by unfold Blk;simpa using hg) h2,h.lt_size k hk⟩⟩
theorem Own.ne_ownF {α β : Type} {w0:World} {lo lo':Nat} {e e':TypeId} {sz sz':Nat} {enc : α → List Value} {enc' : β → List Value} {A A':Option Addr} {n n' c c':Nat} {l:List α} {l':List β} (h:Own w0 lo e sz enc A n c l) (h':Own w0 lo' e' sz' enc' A' n' c' l') (hne:Nat.beq e e'=false) : ∀ k,ownB A c=some k→ownB A' c'≠some k:=fun k hk=>by
 rcases h.row with ⟨_,rfl⟩|⟨hc,g,cur,rfl,_,hg,_⟩
 ·simp [ownB] at hk
 ·simp only [ownB,Nat.pos_iff_ne_zero.1 hc,if_false,Option.map_some,Option.some.injEq] at hk
  subst hk
  exact h'.ne_blk (cs:=cur.toList) (by unfold Blk;simpa using hg) hne
theorem ZsOwn.parts {w w':World} {lo g c:Nat} {u0 u1:ZRow} {s:Zone×Zone} {row:Option Nat} (h:ZsOwn w lo g c u0 u1 s) (hg:w.grownBy w' row) (h0:∀ k,ownB (some (⟨g,0,none⟩ : Addr)) c=some k→row≠some k) (h1:∀ k,ownB u0.Free.A u0.Free.c=some k→row≠some k) (h2:∀ k,ownB u0.Types.A u0.Types.c=some k→row≠some k)
  (h3:∀ k,ownB u1.Free.A u1.Free.c=some k→row≠some k) (h4:∀ k,ownB u1.Types.A u1.Types.c=some k→row≠some k) : ZsOwn w' lo g c u0 u1 s :=
 ⟨h.row.apart hg h0,⟨h.z0.from_,h.z0.to_,h.z0.free.apart hg h1,h.z0.types.apart hg h2⟩,⟨h.z1.from_,h.z1.to_,h.z1.free.apart hg h3,h.z1.types.apart hg h4⟩,h.glo,h.pos⟩
def ob (s:Sli) : Option Nat:=ownB s.A s.c
def sepR (a b:LRow) : Prop := ∀ g,ob a.Pages=some g→ob b.Pages≠some g
theorem sepR_symm {a b:LRow} (h:sepR a b) : sepR b a:=fun g e e2=>h g e2 e
theorem sepL_iff {ls:List LRow}:SepL ls↔ls.Pairwise sepR:=by
 rw [List.pairwise_iff_getElem]
 refine ⟨fun h i j hi hj hij g e=>h i j hi hj (by omega) g e,fun h i j hi hj hij g e => ?_⟩
 rcases Nat.lt_or_gt_of_ne hij with h1|h1
 ·exact h i j hi hj h1 g e
 ·exact sepR_symm (h j i hj hi h1) g e
structure PSep (n:Nat) (li:Sli) (ls:List LRow) (li':Sli) (ls':List LRow) : Prop where
 sep:SepL ls'
 of:∀ y∈ls',∀ g,ob y.Pages=some g→(∃ x∈ls,ob x.Pages=some g)∨n≤g
 row:∀ k,ob li'=some k→ob li=some k∨n≤k
theorem PSep.set_ {n:Nat} {li:Sli} {ls:List LRow} {i:Nat} {y:LRow} (hs:SepL ls) (hlt:∀ x∈ls,∀ g,ob x.Pages=some g→g<n) (hi:i<ls.length) (hy:∀ g,ob y.Pages=some g→ob ls[i].Pages=some g∨n≤g) : PSep n li ls li (ls.set i y):=by
 refine ⟨fun a b ha hb hab g e e2 => ?_,fun z hz g e => ?_,fun k e => .inl e⟩
 ·simp only [List.length_set] at ha hb
  change ob ((ls.set i y)[a]).Pages=some g at e
  change ob ((ls.set i y)[b]).Pages=some g at e2
  simp only [List.getElem_set] at e e2
  by_cases h1:i=a
  ·rw [if_pos h1] at e
   rw [if_neg (by omega)] at e2
   rcases hy g e with h|h
   ·subst h1;exact hs _ _ hi hb hab g h e2
   ·have:=hlt _ (List.getElem_mem hb) g e2;omega
  ·rw [if_neg h1] at e
   by_cases h2:i=b
   ·rw [if_pos h2] at e2
    rcases hy g e2 with h|h
    ·subst h2;exact hs _ _ ha hi hab g e h
    ·have:=hlt _ (List.getElem_mem ha) g e;omega
   ·rw [if_neg h2] at e2
    exact hs _ _ ha hb hab g e e2
 ·rcases List.mem_or_eq_of_mem_set hz with h|rfl
  ·exact .inl ⟨z,h,e⟩
  ·rcases hy g e with h|h
   ·exact .inl ⟨_,List.getElem_mem hi,h⟩
   ·exact .inr h
theorem PSep.ins {n:Nat} {li li':Sli} {ls:List LRow} {i:Nat} {y:LRow} (hs:SepL ls) (hlt:∀ x∈ls,∀ g,ob x.Pages=some g→g<n) (hy:∀ g,ob y.Pages=some g→n≤g) (hr:∀ k,ob li'=some k→ob li=some k∨n≤k) : PSep n li ls li' (insAt ls i y):=by
 have hm:∀ z,z∈insAt ls i y→z∈ls∨z=y:=fun z hz=>by
  unfold insAt at hz
  rw [List.mem_append,List.mem_append,List.mem_singleton] at hz
  rcases hz with (hz|hz)|hz
  ·exact .inl (List.mem_of_mem_take hz)
  ·exact .inr hz
  ·exact .inl (List.mem_of_mem_drop hz)
 refine ⟨?_,fun z hz g e => ?_,hr⟩
 ·have hs:=sepL_iff.1 hs
  rw [← List.take_append_drop i ls,List.pairwise_append] at hs
  obtain ⟨h1,h2,h3⟩:=hs
  rw [sepL_iff]
  unfold insAt
  rw [List.append_assoc,List.pairwise_append]
  refine ⟨h1,?_,fun a ha b hb => ?_⟩
  ·rw [List.singleton_append,List.pairwise_cons]
   exact ⟨fun b hb g e e2=>by have:=hy g e;have:=hlt b (List.mem_of_mem_drop hb) g e2;omega,h2⟩
  ·rw [List.singleton_append,List.mem_cons] at hb
   rcases hb with rfl|hb
   ·exact fun g e e2=>by have:=hy g e2;have:=hlt a (List.mem_of_mem_take ha) g e;omega
   ·exact h3 a ha b hb
 ·rcases hm z hz with h|rfl
  ·exact .inl ⟨z,h,e⟩
  ·exact .inr (hy g e)
theorem SW.append3 {α : Type} {P:Program} {n:Nat} {ops:Array Oper} {Q:Exit→Act→World→Prop} {rest:List Oper} {L:Env} {w:World} {dd:Nat} {T:TypeId} {pos:String} {af:Array Edge}
  {lo:Nat} {t e:TypeId} {z:Value} {sz bytes:Nat} {enc : α → List Value} {A X:Option Addr} {k c m c2:Nat} {l ys:List α} [SliceTy P t e sz] [ElemTy P e z sz bytes] [Enc enc sz] {x y:Operand}
  (hO:Own w lo e sz enc A k c l) (hS:Sl w sz enc X m ys) (hlo:lo≤w.heap.size) (hm0 : 0<m) (hx:opv L x=some (.slice A k c)) (hy:opv L y=some (.slice X m c2)) (hn:Nat.blt dd n=true)
  (hb:(k+m)*bytes≤140737488355328) (hm:k+m≤9223372036854775807)
  (h:∀ A' c' w',Own w' lo e sz enc A' (k+m) c' (l++ys)→w.grownBy w' (ownB A c)→(∀ g,ownB A' c'=some g→ownB A c=some g∨w.heap.size≤g)→SW P n ops (.eff Q) rest ((dd,.slice A' (k+m) c')::L) w') :
  SW P n ops (.eff Q) (⟨some dd,.call ⟨.builtin .append,#[x,y],#[t,t]⟩,T,pos,af,none⟩::rest) L w:=by
 refine SW.append2 hO hS hlo hm0 hx hy hn hb hm fun A' c' w' hh => ?_
 rcases hh with ⟨rfl,rfl,h1,h2⟩|⟨h1,h2⟩
 ·exact h _ _ _ h1 h2 (fun g e => .inl e)
 ·exact h _ _ _ (h1.low hlo) ⟨h2.os,h2.tape,h2.output,h2.size,fun k hk _=>h2.block k hk (fun e=>by cases e)⟩ (fun g e => .inr (h1.row_ge g e))
open Go.RowKit
structure Frm (F:World→Prop) (w:World) : Prop where
 at_:F w
 all:∀ w w',Ext w w'→F w→F w'
theorem Frm.ext {F:World→Prop} {w w':World} (h:Frm F w) (hx:Ext w w') : Frm F w':=⟨h.all _ _ hx h.at_,h.all⟩
theorem Frm.to {F:World→Prop} {w w':World} (h:Frm F w) (hf:F w') : Frm F w':=⟨hf,h.all⟩
theorem All2.insAt {α β : Type} {R : α → β → Prop} {xs:List α} {ys:List β} (h:All2 R xs ys) {i:Nat} (hi:i≤xs.length) {x : α} {y : β} (hr:R x y) : All2 R (insAt xs i x) (insAt ys i y):=by
 have hl:=h.len
 refine ⟨by rw [length_insAt _ hi,length_insAt _ (by omega),hl],fun k h1 h2 => ?_⟩
 have hget:∀ {γ : Type} (zs:List γ) (z : γ) (k:Nat) (hk:k<(Proofs.YtigikedbffjeiaaGreat.insAt zs i z).length) (u : γ),(Proofs.YtigikedbffjeiaaGreat.insAt zs i z)[k]?=some u→(Proofs.YtigikedbffjeiaaGreat.insAt zs i z)[k]=u:=fun zs z k hk u hu=>by
  rw [List.getElem?_eq_getElem hk] at hu;exact Option.some.inj hu
 rw [length_insAt _ hi] at h1
 rcases Nat.lt_trichotomy k i with e|e|e
 ·rw [hget xs x k _ (xs[k]'(by omega)) (by rw [insAt_lt hi e,List.getElem?_eq_getElem]),hget ys y k _ (ys[k]'(by omega)) (by rw [insAt_lt (by omega) e,List.getElem?_eq_getElem])]
  exact h.get k (by omega) (by omega)
 ·subst e
  rw [hget xs x k _ x (insAt_eq hi),hget ys y k _ y (insAt_eq (by omega))]
  exact hr
 ·obtain ⟨j,rfl⟩ : ∃ j,k=j+1:=⟨k-1,by omega⟩
  rw [hget xs x (j+1) _ (xs[j]'(by omega)) (by rw [insAt_gt hi (by omega),List.getElem?_eq_getElem]),hget ys y (j+1) _ (ys[j]'(by omega)) (by rw [insAt_gt (by omega) (by omega),List.getElem?_eq_getElem])]
  exact h.get j (by omega) (by omega)
theorem All2.setAt {α β : Type} {R R' : α → β → Prop} {xs:List α} {ys:List β} (h:All2 R xs ys) {i:Nat} {x : α} {y : β} (hr:R' x y) (ho:∀ (k:Nat) (h1:k<xs.length) (h2:k<ys.length),k≠i→R xs[k] ys[k]→R' xs[k] ys[k]) : All2 R' (xs.set i x) (ys.set i y):=by
 refine ⟨by simp [h.len],fun k h1 h2 => ?_⟩
 simp only [List.length_set] at h1 h2
 rw [List.getElem_set,List.getElem_set]
 by_cases e:i=k
 ·rw [if_pos e,if_pos e];exact hr
 ·rw [if_neg e,if_neg e];exact ho k h1 h2 (fun h=>e h.symm) (h.get k h1 h2)
structure Ready (n:Nat) (w:World) (lo:Nat) (F:World→Prop) (L:List PList) (x:PList) (p:Int) (li1:Sli) (ls1:List LRow) (L1:List PList) : Prop where
 own:OwnLs w lo li1 ls1 L1
 lt:kpos L x<L1.length
 set_:L1.set (kpos L x) ⟨x.Cpu,x.Zone,x.Ty,L1[kpos L x].Pages++[p]⟩=setL L ⟨x.Cpu,x.Zone,x.Ty,pagesAt L x++[p]⟩
 key:keyEq L1[kpos L x] x
 sep:∀ (j:Nat) (hk:kpos L x<ls1.length) (hj:j<ls1.length),j≠kpos L x → ∀ g,ownB ls1[kpos L x].Pages.A ls1[kpos L x].Pages.c=some g→ownB ls1[j].Pages.A ls1[j].Pages.c≠some g
 frm:∀ (hk:kpos L x<ls1.length) (w w':World),w.grownBy w' (ownB ls1[kpos L x].Pages.A ls1[kpos L x].Pages.c)→F w→F w'
 small:L1[kpos L x].Pages.length≤1000
 size:n≤w.heap.size
theorem Ready.ext {n:Nat} {w w':World} {lo:Nat} {F:World→Prop} {L:List PList} {x:PList} {p:Int} {li1:Sli} {ls1:List LRow} {L1:List PList} (h:Ready n w lo F L x p li1 ls1 L1) (hx:Ext w w') : Ready n w' lo F L x p li1 ls1 L1 :=
 ⟨h.own.ext hx,h.lt,h.set_,h.key,h.sep,h.frm,h.small,Nat.le_trans h.size hx.size⟩
set_option maxHeartbeats 8000000 in
theorem push_ans (Z m:Sli) (cp:Int) (li lv:Sli) (L:List PList) (ls:List LRow) (x:PList) (y:LRow) (p:Int) (F:World→Prop) (b1:Nat) (w w0:World) (hw:Ext w w0) (hbw:w.heap.size≤b1) (hb1:Blk w0 b1 27 (encH ⟨Z,m,cp,li,lv⟩)) (hl:OwnLs w0 w.heap.size li ls L) (hk:rowKey y x) (hyn:y.Pages = .nil) (hxn:x.Pages=[])
  (hsep:SepL ls) (hs:LsS L) (hn:(li.n+1)*48≤140737488355328) (hpn:∀ l∈L,l.Pages.length≤1000) (hFr:Frm F w0) (hFt:∀ (w w':World) (row:Option Nat),w.grownBy w' row→(∀ k,row=some k→k=b1∨ownB li.A li.c=some k∨w0.heap.size≤k)→F w→F w')
  (hFp:∀ (i:Nat) (hi:i<ls.length) (w w':World),w.grownBy w' (ownB ls[i].Pages.A ls[i].Pages.c)→F w→F w') :
  AnsX Tryz.prog 78 [.pointer (some ⟨b1,0,none⟩),.agg (encL y).toArray,.int .i64 p] w0 fun v w'=>Ext w w'∧F w' ∧ ∃ li' ls',Blk w' b1 27 (encH ⟨Z,m,cp,li',lv⟩)∧OwnLs w' w.heap.size li' ls' (setL L ⟨x.Cpu,x.Zone,x.Ty,pagesAt L x++[p]⟩)∧PSep w0.heap.size li ls li' ls':=by
 refine ansx_of Tryz.func78 rfl Tryz.ntmps78 rfl ?_
 have hkx:keyEq x ⟨x.Cpu,x.Zone,x.Ty,pagesAt L x++[p]⟩:=⟨rfl,rfl,rfl⟩
 obtain ⟨kx1,kx2⟩:=kpos_key (L:=L) hkx
 refine CW.seq (CW.region (SW.box rfl rfl fun b4 w1 hXX hb4b hb4 => ?_))
 have hb4w:w.heap.size≤b4:=Nat.le_trans hw.size hb4b
 have hlow4:=hl.row.lt_size
 have hltP:∀ z∈ls,∀ g,ob z.Pages=some g→g<w0.heap.size:=fun z hz g e=>by
  obtain ⟨j,hj,rfl⟩:=List.getElem_of_mem hz
  exact (hl.each.get j hj (by rw [← hl.each.len];exact hj)).pages.lt_size g e
 (replace hw:=Ext.trans hw hXX;replace hb1:=hb1.ext hXX;replace hl:=hl.ext hXX;replace hFr:=hFr.ext hXX)
 obtain ⟨l1,l2⟩:=hl.rd.len
 obtain ⟨q,hq⟩ : ∃ q,khere L x=q:=⟨_,rfl⟩
 have cL:∀ w',RdLs w' li ls L→Ans Tryz.prog 79 [.agg (encH ⟨Z,m,cp,li,lv⟩).toArray,.agg (encL y).toArray] w' fun v _=>v = .tuple #[.int .i64 (kpos L x:Int),.bool q]:=fun w' h=>by
  have:=plist_ans ⟨Z,m,cp,li,lv⟩ L ls x y w' h hk (by simp only;omega)
  rwa [hq] at this
 cases q
 ·have hkl:=kpos_le L x
  have hkls:kpos L x≤ls.length:=by omega
  repeat' (first|(refine CW.seq ?_)|(refine Post.seq ?_)|refine SW.nil ?_)
  (apply CW.quiet1 mixed;(· kernel_rfl);rotate_left;intro w1 hw1;replace hw:=Ext.trans hw hw1;replace hb1:=hb1.ext hw1;replace hb4:=hb4.ext hw1;replace hl:=hl.ext hw1;replace hFr:=hFr.ext hw1;clear hw1;rotate_right)
  repeat' (first|(first|refine CW.seq ?_|refine CW.region ?_|refine CW.condt rfl ?_)|(refine Post.seq ?_)|refine SW.nil ?_|refine SW.pure rfl rfl ?_|(show SW _ _ _ _ (⟨_,Op.fieldAddr _ _ _,_,_,_,none⟩::_) _ _;refine SW.st (st_field rfl) rfl ?_)|(show SW _ _ _ _ (⟨_,Op.nilCheck _,_,_,_,none⟩::_) _ _;refine SW.st (st_nilCheck rfl) rfl ?_)|(show SW _ _ _ _ (⟨_,Op.load _ _,_,_,_,none⟩::_) _ _;first|refine SW.st (st_loads rfl rfl ((fun _ _=>hb1.cell))) rfl ?_|refine SW.st (st_loads rfl rfl ((fun _ _=>hb4.cell))) rfl ?_)|(show SW _ _ _ _ (⟨_,Op.call ⟨.value (.func _),_,_⟩,_,_,_,none⟩::_) _ _;refine SW.qcall rfl rfl (fun w1 hw1=>(cL _ (hl.rd.ext hw1))) ?_)|exact SW.qnil rfl)
  clear cL
  obtain ⟨yc,yz,yt,yp⟩:=y
  simp only at hyn
  subst hyn
  refine SW.storeB (i:=3) hb4 rfl rfl rfl rfl fun w3 hb4' hg4 => ?_
  replace hw:=hw.own hb4w hg4
  replace hb1:=hb1.grT (hb4.gr hg4) rfl
  have hF3:=hFt _ _ _ hg4 (fun k e=>by cases e;exact .inr (.inr hb4b)) hFr.at_
  replace hFr:=hFr.to hF3
  replace hl:OwnLs w3 w.heap.size li ls L:=⟨hl.row.grown hg4 (.inr (fun e=>by have:=hlow4 _ e;omega)),hl.each.mono fun _ _ h=>h.grT (hb4.gr hg4) rfl⟩
  replace hb4:Blk w3 b4 75 (encL ⟨yc,yz,yt,.nil⟩):=hb4'
  clear hb4'
  repeat' (first|(refine Post.seq ?_)|refine SW.nil ?_)
  have hA0:=hl.row.sl.base
  refine CW.anyF 8 11 (fun _=>True) mixed (by kernel_rfl) fun w1 hw1 hRB => ?_
  replace hw:=Ext.trans hw hw1;replace hb1:=hb1.ext hw1;replace hb4:=hb4.ext hw1;replace hl:=hl.ext hw1;replace hFr:=hFr.ext hw1;clear hw1
  refine SF.take2 0 [] hRB rfl (by kernel_rfl) (by kernel_rfl) (by kernel_rfl) (pureV_st rfl) (fun w2 hS=>pureV_st rfl) rfl ?_
  refine SF.take 1 [4,3,2] [] hRB rfl (by kernel_rfl) (by kernel_rfl) (by kernel_rfl) ?_
  repeat (refine SW.pure rfl rfl ?_)
  refine SW.tknil ?_
  refine SF.take 2 [4,3] [] hRB rfl (by kernel_rfl) (by kernel_rfl) (by kernel_rfl) ?_
  repeat ((show SW _ _ _ _ (⟨_,Op.nilCheck _,_,_,_,none⟩::_) _ _;refine SW.st (st_nilCheck rfl) rfl ?_))
  refine SW.tknil ?_
  refine SF.take 3 [4] [] hRB rfl (by kernel_rfl) (by kernel_rfl) (by kernel_rfl) ?_
  repeat ((show SW _ _ _ _ (⟨_,Op.fieldAddr _ _ _,_,_,_,none⟩::_) _ _;refine SW.st (st_field rfl) rfl ?_))
  refine SW.tknil ?_
  refine SF.take 4 [] [] hRB rfl (by kernel_rfl) (by kernel_rfl) (by kernel_rfl) ?_
  repeat ((show SW _ _ _ _ (⟨_,Op.load _ _,_,_,_,none⟩::_) _ _;refine SW.st (st_load rfl (hb1.cell (i:=3) (v := .slice li.A li.n li.c) rfl)) rfl ?_))
  refine SW.tknil ?_
  refine SF.take 5 [] [] hRB rfl (by kernel_rfl) (by kernel_rfl) (by kernel_rfl) ?_
  repeat (refine SW.pure rfl rfl ?_)
  refine SW.tknil ?_
  refine SF.take 6 [7] [] hRB rfl (by kernel_rfl) (by kernel_rfl) (by kernel_rfl) ?_
  repeat ((show SW _ _ _ _ (⟨_,Op.load _ _,_,_,_,none⟩::_) _ _;refine SW.st (st_loads rfl rfl ((fun _ _=>hb4.cell))) rfl ?_))
  refine SW.tknil ?_
  refine SF.one 7 rfl (by kernel_rfl) rfl ?_
  refine SW.build1 rfl rfl rfl rfl rfl fun b w4 hXX hb hB => ?_
  have hsz0:w0.heap.size≤w4.heap.size:=Nat.le_trans (Nat.le_of_lt (Nat.lt_of_le_of_lt hb4b hb4.lt)) hXX.size
  have hneb:ownB li.A li.c≠some b:=fun e=>by have:=hl.row.lt_size _ e;omega
  (replace hw:=Ext.trans hw hXX;replace hb1:=hb1.ext hXX;replace hl:=hl.ext hXX;replace hFr:=hFr.ext hXX)
  refine SW.nil (Post.sf hXX ?_)
  refine SF.turn rfl (by kernel_rfl) rfl ?_
  refine SW.callX rfl rfl (InsertLRow_ans li.A li.n li.c w.heap.size ls _ hl.row (kpos L x) (by omega) ⟨yc,yz,yt,.nil⟩ b hB hneb hn hw.size) fun v w5 hv => ?_
  obtain ⟨A2,c2,rfl,hO2,hg,hpos⟩:=hv
  have hG:=hl.row.gr hg
  have hS:True:=trivial
  replace hw:=ext_grown hw hg (Nat.le_refl _) hl.row.row_ge
  have hF5:=hFt _ _ _ hg (fun k e => .inr (.inl e)) hFr.at_
  replace hFr:=hFr.to hF5
  replace hb1:=hb1.grT hG rfl
  have hE2:=(hl.each.mono fun _ _ h=>h.grT hG rfl).insAt (i:=kpos L x) (x:=⟨yc,yz,yt,.nil⟩) (y:=⟨x.Cpu,x.Zone,x.Ty,[]⟩) (by omega) ⟨hk.1,hk.2.1,hk.2.2,Own.nil_ _ _ _ _ _ _⟩
  refine SW.nil (Post.sg hS ?_)
  refine SG.one 9 rfl (by kernel_rfl) rfl ?_
  repeat ((show SW _ _ _ _ (⟨_,Op.nilCheck _,_,_,_,none⟩::_) _ _;refine SW.st (st_nilCheck rfl) rfl ?_))
  refine SW.nil (Post.sg hS ?_)
  refine SG.one 10 rfl (by kernel_rfl) rfl ?_
  repeat ((show SW _ _ _ _ (⟨_,Op.fieldAddr _ _ _,_,_,_,none⟩::_) _ _;refine SW.st (st_field rfl) rfl ?_))
  refine SW.nil (Post.sg hS ?_)
  refine SG.last rfl (by kernel_rfl) (by kernel_rfl) ?_
  refine SW.storeB (i:=3) hb1 rfl rfl rfl rfl fun w6 hb1' hg6 => ?_
  have hG6:=hb1.gr hg6
  have hsz6:w0.heap.size≤w6.heap.size:=Nat.le_trans hsz0 (Nat.le_trans hg.size hg6.size)
  have hposI:=hpos
  replace hw:=hw.own hbw hg6
  have hF6:=hFt _ _ _ hg6 (fun k e=>by cases e;exact .inl rfl) hFr.at_
  replace hFr:=hFr.to hF6
  replace hO2:=hO2.grT hG6 rfl
  replace hE2:=hE2.mono fun _ _ h=>h.grT hG6 rfl
  replace hb1:Blk w6 b1 27 (encH ⟨Z,m,cp,⟨A2,li.n+1,c2⟩,lv⟩):=hb1'
  clear hb1'
  have hget:∀ h:kpos L x<(insAt L (kpos L x) (⟨x.Cpu,x.Zone,x.Ty,[]⟩ : PList)).length,(insAt L (kpos L x) (⟨x.Cpu,x.Zone,x.Ty,[]⟩ : PList))[kpos L x]=⟨x.Cpu,x.Zone,x.Ty,[]⟩:=fun h=>by
   have:=insAt_eq (x:=(⟨x.Cpu,x.Zone,x.Ty,[]⟩ : PList)) hkl
   rw [List.getElem?_eq_getElem h] at this
   exact Option.some.inj this
  have hgetR:∀ h:kpos L x<(insAt ls (kpos L x) (⟨yc,yz,yt,.nil⟩ : LRow)).length,(insAt ls (kpos L x) (⟨yc,yz,yt,.nil⟩ : LRow))[kpos L x]=⟨yc,yz,yt,.nil⟩:=fun h=>by
   have:=insAt_eq (l:=ls) (i:=kpos L x) (x:=(⟨yc,yz,yt,.nil⟩ : LRow)) (by omega)
   rw [List.getElem?_eq_getElem h] at this
   exact Option.some.inj this
  have hltk:kpos L x<(insAt L (kpos L x) (⟨x.Cpu,x.Zone,x.Ty,[]⟩ : PList)).length:=by rw [length_insAt _ hkl];omega
  have hR:Ready w0.heap.size w6 w.heap.size F L x p ⟨A2,li.n+1,c2⟩ (insAt ls (kpos L x) ⟨yc,yz,yt,.nil⟩) (insAt L (kpos L x) ⟨x.Cpu,x.Zone,x.Ty,[]⟩):=by
   refine ⟨⟨hO2,hE2⟩,hltk,?_,?_,fun j h1 h2 hjk g e => ?_,fun h1 w w' hg => ?_,?_,hsz6⟩
   ·rw [hget hltk,set_insAt hkl,setL_f (by rw [← kx2];exact hq),← kx1,pagesAt_f hq]
   ·rw [hget hltk];exact ⟨rfl,rfl,rfl⟩
   ·rw [hgetR h1] at e;cases e
   ·rw [hgetR h1] at hg
    exact hFr.all _ _ (ext_grown (Ext.refl w) hg (Nat.le_refl _) (fun k e=>by cases e))
   ·rw [hget hltk];simp
  clear hE2 hO2 hl hb4
  repeat' (first|(first|refine Post.seq ?_|refine Post.np ?_)|refine SW.nil ?_)
  have hA:=hR.own.row.sl.base
  have hkn:kpos L x<(li.n+1):=by have:=hR.own.rd.len;have:=hR.lt;omega
  have hks:kpos L x<((insAt ls (kpos L x) (⟨yc,yz,yt,.nil⟩ : LRow))).length:=by have:=hR.own.rd.len;have:=hR.lt;omega
  have hlt:=hR.lt
  have hsm:=hR.small
  refine CW.anyF 15 18 (fun w2=>Blk w2 b1 27 (encH ⟨Z,m,cp,⟨A2,li.n+1,c2⟩,lv⟩)) mixed (by kernel_rfl) fun w1 hw1 hRB => ?_
  replace hw:=Ext.trans hw hw1;replace hb1:=hb1.ext hw1;replace hR:=hR.ext hw1;replace hFr:=hFr.ext hw1;clear hw1
  refine SF.take2 0 [] hRB rfl (by kernel_rfl) (by kernel_rfl) (by kernel_rfl) (pureV_st rfl) (fun w2 hS=>pureV_st rfl) rfl ?_
  refine SF.take2 1 [] hRB rfl (by kernel_rfl) (by kernel_rfl) (by kernel_rfl) (st_nilCheck rfl) (fun w2 hS=>st_nilCheck rfl) rfl ?_
  refine SF.take2 2 [] hRB rfl (by kernel_rfl) (by kernel_rfl) (by kernel_rfl) (st_field rfl) (fun w2 hS=>st_field rfl) rfl ?_
  refine SF.take2 3 [] hRB rfl (by kernel_rfl) (by kernel_rfl) (by kernel_rfl) (st_load rfl (hb1.cell (i:=3) (v := .slice A2 (li.n+1) c2) rfl)) (fun w2 hS=>st_load rfl (hS.cell (i:=3) (v := .slice A2 (li.n+1) c2) rfl)) rfl ?_
  refine SF.take2 4 [] hRB rfl (by kernel_rfl) (by kernel_rfl) (by kernel_rfl) (pureV_st rfl) (fun w2 hS=>pureV_st rfl) rfl ?_
  refine SF.take 5 [12,11,10,8,7,6] [] hRB rfl (by kernel_rfl) (by kernel_rfl) (by kernel_rfl) ?_
  repeat (refine SW.pure rfl rfl ?_)
  refine SW.tknil ?_
  refine SF.take 6 [12,11,10,8,7] [] hRB rfl (by kernel_rfl) (by kernel_rfl) (by kernel_rfl) ?_
  repeat ((show SW _ _ _ _ (⟨_,Op.nilCheck _,_,_,_,none⟩::_) _ _;refine SW.st (st_nilCheck rfl) rfl ?_))
  refine SW.tknil ?_
  refine SF.take 7 [12,11,10,8] [] hRB rfl (by kernel_rfl) (by kernel_rfl) (by kernel_rfl) ?_
  repeat ((show SW _ _ _ _ (⟨_,Op.fieldAddr _ _ _,_,_,_,none⟩::_) _ _;refine SW.st (st_field rfl) rfl ?_))
  refine SW.tknil ?_
  refine SF.take 8 [12,11,10] [] hRB rfl (by kernel_rfl) (by kernel_rfl) (by kernel_rfl) ?_
  repeat ((show SW _ _ _ _ (⟨_,Op.load _ _,_,_,_,none⟩::_) _ _;refine SW.st (st_load rfl (hb1.cell (i:=3) (v := .slice A2 (li.n+1) c2) rfl)) rfl ?_))
  refine SW.tknil ?_
  refine SF.take 9 [12,11,10] [] hRB rfl (by kernel_rfl) (by kernel_rfl) (by kernel_rfl) ?_
  repeat (refine SW.pure rfl rfl ?_)
  refine SW.tknil ?_
  refine SF.take 10 [12,11] [] hRB rfl (by kernel_rfl) (by kernel_rfl) (by kernel_rfl) ?_
  repeat ((show SW _ _ _ _ (⟨_,Op.indexAddr _ _ _,_,_,_,none⟩::_) _ _;refine SW.st (st_indexN rfl rfl (by assumption) (by omega)) rfl ?_))
  refine SW.tknil ?_
  refine SF.take 11 [12] [] hRB rfl (by kernel_rfl) (by kernel_rfl) (by kernel_rfl) ?_
  repeat ((show SW _ _ _ _ (⟨_,Op.fieldAddr _ _ _,_,_,_,none⟩::_) _ _;refine SW.st (st_field rfl) rfl ?_))
  refine SW.tknil ?_
  refine SF.take 12 [] [] hRB rfl (by kernel_rfl) (by kernel_rfl) (by kernel_rfl) ?_
  repeat ((show SW _ _ _ _ (⟨_,Op.load _ _,_,_,_,none⟩::_) _ _;refine SW.st (st_load rfl (hR.own.row.sl.fld hkn (j:=3) (u := .slice ((insAt ls (kpos L x) (⟨yc,yz,yt,.nil⟩ : LRow)))[kpos L x].Pages.A ((insAt ls (kpos L x) (⟨yc,yz,yt,.nil⟩ : LRow)))[kpos L x].Pages.n ((insAt ls (kpos L x) (⟨yc,yz,yt,.nil⟩ : LRow)))[kpos L x].Pages.c) rfl)) rfl ?_))
  refine SW.tknil ?_
  refine SF.take 13 [14] [] hRB rfl (by kernel_rfl) (by kernel_rfl) (by kernel_rfl) ?_
  repeat (refine SW.pure rfl rfl ?_)
  refine SW.tknil ?_
  refine SF.one 14 rfl (by kernel_rfl) rfl ?_
  refine SW.build1 rfl rfl rfl rfl rfl fun b w4 hXX hb hB => ?_
  (replace hw:=Ext.trans hw hXX;replace hb1:=hb1.ext hXX;replace hR:=hR.ext hXX;replace hFr:=hFr.ext hXX)
  have hsz4:w0.heap.size≤w4.heap.size:=hR.size
  refine SW.nil (Post.sf hXX ?_)
  refine SF.turn rfl (by kernel_rfl) rfl ?_
  have hP0:=hR.own.each.get (kpos L x) hks hlt
  have hPg:=hP0.pages
  have hpl:=hPg.sl.len
  refine SW.append3 hPg (Blk.sl1 (enc:=encI) hB) hw.size (by decide) rfl rfl rfl (by omega) (by omega) fun A3 c3 w5 hO1 hg hpos3 => ?_
  have hS:=hb1.grT (hPg.gr hg) rfl
  have hrow:=hR.own.row.grT (hPg.gr hg) rfl
  have hF5:=hR.frm hks _ _ hg hFr.at_
  replace hw:=ext_grown hw hg (Nat.le_refl _) hPg.row_ge
  refine SW.nil (Post.sg hS ?_)
  refine SG.one 16 rfl (by kernel_rfl) rfl ?_
  repeat ((show SW _ _ _ _ (⟨_,Op.indexAddr _ _ _,_,_,_,none⟩::_) _ _;refine SW.st (st_indexN rfl rfl (by assumption) (by omega)) rfl ?_))
  refine SW.nil (Post.sg hS ?_)
  refine SG.one 17 rfl (by kernel_rfl) rfl ?_
  repeat ((show SW _ _ _ _ (⟨_,Op.fieldAddr _ _ _,_,_,_,none⟩::_) _ _;refine SW.st (st_field rfl) rfl ?_))
  refine SW.nil (Post.sg hS ?_)
  refine SG.last rfl (by kernel_rfl) (by kernel_rfl) ?_
  refine SW.storeO (kpos L x) 3 ⟨((insAt ls (kpos L x) (⟨yc,yz,yt,.nil⟩ : LRow)))[kpos L x].Cpu,((insAt ls (kpos L x) (⟨yc,yz,yt,.nil⟩ : LRow)))[kpos L x].Zone,((insAt ls (kpos L x) (⟨yc,yz,yt,.nil⟩ : LRow)))[kpos L x].Ty,⟨A3,((insAt ls (kpos L x) (⟨yc,yz,yt,.nil⟩ : LRow)))[kpos L x].Pages.n+1,c3⟩⟩ hrow rfl rfl rfl hkn (by decide) rfl rfl fun w6 hrow' hg6 => ?_
  have hG6:=hrow.gr hg6
  have hF6:=hFt _ _ _ hg6 (fun k e=>by rcases hpos k e with h|h;exact .inr (.inl h);exact .inr (.inr (Nat.le_trans hsz0 h))) hF5
  replace hw:=ext_grown hw hg6 (Nat.le_refl _) hrow.row_ge
  repeat' (first|(refine Post.np ?_)|refine SW.nil ?_)
  refine Post.end0 rfl ⟨_,rfl,hw,hF6,⟨A2,li.n+1,c2⟩,((insAt ls (kpos L x) (⟨yc,yz,yt,.nil⟩ : LRow))).set (kpos L x) ⟨((insAt ls (kpos L x) (⟨yc,yz,yt,.nil⟩ : LRow)))[kpos L x].Cpu,((insAt ls (kpos L x) (⟨yc,yz,yt,.nil⟩ : LRow)))[kpos L x].Zone,((insAt ls (kpos L x) (⟨yc,yz,yt,.nil⟩ : LRow)))[kpos L x].Ty,⟨A3,((insAt ls (kpos L x) (⟨yc,yz,yt,.nil⟩ : LRow)))[kpos L x].Pages.n+1,c3⟩⟩,hS.grT (b:=b1) (t':=27) hG6 rfl,?_⟩
  have hPS:PSep w0.heap.size li ls ⟨A2,li.n+1,c2⟩ ((insAt ls (kpos L x) (⟨yc,yz,yt,.nil⟩ : LRow)).set (kpos L x) ⟨((insAt ls (kpos L x) (⟨yc,yz,yt,.nil⟩ : LRow)))[kpos L x].Cpu,((insAt ls (kpos L x) (⟨yc,yz,yt,.nil⟩ : LRow)))[kpos L x].Zone,((insAt ls (kpos L x) (⟨yc,yz,yt,.nil⟩ : LRow)))[kpos L x].Ty,⟨A3,((insAt ls (kpos L x) (⟨yc,yz,yt,.nil⟩ : LRow)))[kpos L x].Pages.n+1,c3⟩⟩):=by
   rw [set_insAt hkls]
   refine PSep.ins hsep hltP (fun g e => ?_) (fun k e=>(hposI k e).imp id (fun h=>Nat.le_trans hsz0 h))
   rcases hpos3 g e with h|h
   ·rw [hgetR hks] at h;cases h
   ·exact Nat.le_trans hsz4 h
  refine ⟨?_,hPS⟩
  rw [← hR.set_]
  refine ⟨hrow',All2.setAt (R:=OwnL _ w.heap.size) hR.own.each ⟨hP0.cpu.trans hR.key.1,hP0.zone.trans hR.key.2.1,hP0.ty.trans hR.key.2.2,hO1.grT hG6 rfl⟩ fun j h1 h2 hjk ho=>⟨ho.cpu,ho.zone,ho.ty,?_⟩⟩
  refine (ho.pages.grown hg ?_).grT hG6 rfl
  cases eo:ownB ((insAt ls (kpos L x) (⟨yc,yz,yt,.nil⟩ : LRow)))[j].Pages.A ((insAt ls (kpos L x) (⟨yc,yz,yt,.nil⟩ : LRow)))[j].Pages.c with
  | none=>exact .inl rfl
  | some g =>
   right
   intro e
   exact hR.sep j hks h1 hjk g e.symm eo
 ·obtain ⟨hkl,hkey⟩:=khere_t hq
  repeat' (first|(refine CW.seq ?_)|(refine Post.seq ?_)|refine SW.nil ?_)
  (apply CW.quiet1 mixed;(· kernel_rfl);rotate_left;intro w1 hw1;replace hw:=Ext.trans hw hw1;replace hb1:=hb1.ext hw1;replace hb4:=hb4.ext hw1;replace hl:=hl.ext hw1;replace hFr:=hFr.ext hw1;clear hw1;rotate_right)
  repeat' (first|(first|refine CW.seq ?_|refine CW.region ?_|refine CW.condf rfl ?_|refine CW.skip ?_)|(refine Post.seq ?_)|refine SW.nil ?_|refine SW.pure rfl rfl ?_|(show SW _ _ _ _ (⟨_,Op.nilCheck _,_,_,_,none⟩::_) _ _;refine SW.st (st_nilCheck rfl) rfl ?_)|(show SW _ _ _ _ (⟨_,Op.load _ _,_,_,_,none⟩::_) _ _;first|refine SW.st (st_loads rfl rfl ((fun _ _=>hb1.cell))) rfl ?_|refine SW.st (st_loads rfl rfl ((fun _ _=>hb4.cell))) rfl ?_)|(show SW _ _ _ _ (⟨_,Op.call ⟨.value (.func _),_,_⟩,_,_,_,none⟩::_) _ _;refine SW.qcall rfl rfl (fun w1 hw1=>(cL _ (hl.rd.ext hw1))) ?_)|exact SW.qnil rfl)
  clear cL
  have hsz0:=Nat.le_trans hb4b (Nat.le_of_lt hb4.lt)
  have hR:=(⟨hl,hkl,by rw [setL_t (by rw [← kx2];exact hq),← kx1,pagesAt_t hq hkl],hkey,fun j h1 h2 hjk g e=>hsep _ _ h1 h2 (Ne.symm hjk) g e,fun h1 w w' hg=>hFp _ h1 w w' hg,hpn _ (List.getElem_mem hkl),hsz0⟩ : Ready w0.heap.size _ w.heap.size F L x p li ls L)
  clear hl
  have hA:=hR.own.row.sl.base
  have hkn:kpos L x<li.n:=by have:=hR.own.rd.len;have:=hR.lt;omega
  have hks:kpos L x<(ls).length:=by have:=hR.own.rd.len;have:=hR.lt;omega
  have hlt:=hR.lt
  have hsm:=hR.small
  refine CW.anyF 15 18 (fun w2=>Blk w2 b1 27 (encH ⟨Z,m,cp,li,lv⟩)) mixed (by kernel_rfl) fun w1 hw1 hRB => ?_
  replace hw:=Ext.trans hw hw1;replace hb1:=hb1.ext hw1;replace hR:=hR.ext hw1;replace hFr:=hFr.ext hw1;clear hw1
  refine SF.take2 0 [] hRB rfl (by kernel_rfl) (by kernel_rfl) (by kernel_rfl) (pureV_st rfl) (fun w2 hS=>pureV_st rfl) rfl ?_
  refine SF.take2 1 [] hRB rfl (by kernel_rfl) (by kernel_rfl) (by kernel_rfl) (st_nilCheck rfl) (fun w2 hS=>st_nilCheck rfl) rfl ?_
  refine SF.take2 2 [] hRB rfl (by kernel_rfl) (by kernel_rfl) (by kernel_rfl) (st_field rfl) (fun w2 hS=>st_field rfl) rfl ?_
  refine SF.take2 3 [] hRB rfl (by kernel_rfl) (by kernel_rfl) (by kernel_rfl) (st_load rfl (hb1.cell (i:=3) (v := .slice li.A li.n li.c) rfl)) (fun w2 hS=>st_load rfl (hS.cell (i:=3) (v := .slice li.A li.n li.c) rfl)) rfl ?_
  refine SF.take2 4 [] hRB rfl (by kernel_rfl) (by kernel_rfl) (by kernel_rfl) (pureV_st rfl) (fun w2 hS=>pureV_st rfl) rfl ?_
  refine SF.take 5 [12,11,10,8,7,6] [] hRB rfl (by kernel_rfl) (by kernel_rfl) (by kernel_rfl) ?_
  repeat (refine SW.pure rfl rfl ?_)
  refine SW.tknil ?_
  refine SF.take 6 [12,11,10,8,7] [] hRB rfl (by kernel_rfl) (by kernel_rfl) (by kernel_rfl) ?_
  repeat ((show SW _ _ _ _ (⟨_,Op.nilCheck _,_,_,_,none⟩::_) _ _;refine SW.st (st_nilCheck rfl) rfl ?_))
  refine SW.tknil ?_
  refine SF.take 7 [12,11,10,8] [] hRB rfl (by kernel_rfl) (by kernel_rfl) (by kernel_rfl) ?_
  repeat ((show SW _ _ _ _ (⟨_,Op.fieldAddr _ _ _,_,_,_,none⟩::_) _ _;refine SW.st (st_field rfl) rfl ?_))
  refine SW.tknil ?_
  refine SF.take 8 [12,11,10] [] hRB rfl (by kernel_rfl) (by kernel_rfl) (by kernel_rfl) ?_
  repeat ((show SW _ _ _ _ (⟨_,Op.load _ _,_,_,_,none⟩::_) _ _;refine SW.st (st_load rfl (hb1.cell (i:=3) (v := .slice li.A li.n li.c) rfl)) rfl ?_))
  refine SW.tknil ?_
  refine SF.take 9 [12,11,10] [] hRB rfl (by kernel_rfl) (by kernel_rfl) (by kernel_rfl) ?_
  repeat (refine SW.pure rfl rfl ?_)
  refine SW.tknil ?_
  refine SF.take 10 [12,11] [] hRB rfl (by kernel_rfl) (by kernel_rfl) (by kernel_rfl) ?_
  repeat ((show SW _ _ _ _ (⟨_,Op.indexAddr _ _ _,_,_,_,none⟩::_) _ _;refine SW.st (st_indexN rfl rfl (by assumption) (by omega)) rfl ?_))
  refine SW.tknil ?_
  refine SF.take 11 [12] [] hRB rfl (by kernel_rfl) (by kernel_rfl) (by kernel_rfl) ?_
  repeat ((show SW _ _ _ _ (⟨_,Op.fieldAddr _ _ _,_,_,_,none⟩::_) _ _;refine SW.st (st_field rfl) rfl ?_))
  refine SW.tknil ?_
  refine SF.take 12 [] [] hRB rfl (by kernel_rfl) (by kernel_rfl) (by kernel_rfl) ?_
  repeat ((show SW _ _ _ _ (⟨_,Op.load _ _,_,_,_,none⟩::_) _ _;refine SW.st (st_load rfl (hR.own.row.sl.fld hkn (j:=3) (u := .slice (ls)[kpos L x].Pages.A (ls)[kpos L x].Pages.n (ls)[kpos L x].Pages.c) rfl)) rfl ?_))
  refine SW.tknil ?_
  refine SF.take 13 [14] [] hRB rfl (by kernel_rfl) (by kernel_rfl) (by kernel_rfl) ?_
  repeat (refine SW.pure rfl rfl ?_)
  refine SW.tknil ?_
  refine SF.one 14 rfl (by kernel_rfl) rfl ?_
  refine SW.build1 rfl rfl rfl rfl rfl fun b w4 hXX hb hB => ?_
  (replace hw:=Ext.trans hw hXX;replace hb1:=hb1.ext hXX;replace hR:=hR.ext hXX;replace hFr:=hFr.ext hXX)
  have hsz4:w0.heap.size≤w4.heap.size:=hR.size
  refine SW.nil (Post.sf hXX ?_)
  refine SF.turn rfl (by kernel_rfl) rfl ?_
  have hP0:=hR.own.each.get (kpos L x) hks hlt
  have hPg:=hP0.pages
  have hpl:=hPg.sl.len
  refine SW.append3 hPg (Blk.sl1 (enc:=encI) hB) hw.size (by decide) rfl rfl rfl (by omega) (by omega) fun A3 c3 w5 hO1 hg hpos3 => ?_
  have hS:=hb1.grT (hPg.gr hg) rfl
  have hrow:=hR.own.row.grT (hPg.gr hg) rfl
  have hF5:=hR.frm hks _ _ hg hFr.at_
  replace hw:=ext_grown hw hg (Nat.le_refl _) hPg.row_ge
  refine SW.nil (Post.sg hS ?_)
  refine SG.one 16 rfl (by kernel_rfl) rfl ?_
  repeat ((show SW _ _ _ _ (⟨_,Op.indexAddr _ _ _,_,_,_,none⟩::_) _ _;refine SW.st (st_indexN rfl rfl (by assumption) (by omega)) rfl ?_))
  refine SW.nil (Post.sg hS ?_)
  refine SG.one 17 rfl (by kernel_rfl) rfl ?_
  repeat ((show SW _ _ _ _ (⟨_,Op.fieldAddr _ _ _,_,_,_,none⟩::_) _ _;refine SW.st (st_field rfl) rfl ?_))
  refine SW.nil (Post.sg hS ?_)
  refine SG.last rfl (by kernel_rfl) (by kernel_rfl) ?_
  refine SW.storeO (kpos L x) 3 ⟨(ls)[kpos L x].Cpu,(ls)[kpos L x].Zone,(ls)[kpos L x].Ty,⟨A3,(ls)[kpos L x].Pages.n+1,c3⟩⟩ hrow rfl rfl rfl hkn (by decide) rfl rfl fun w6 hrow' hg6 => ?_
  have hG6:=hrow.gr hg6
  have hF6:=hFt _ _ _ hg6 (fun k e => .inr (.inl e)) hF5
  replace hw:=ext_grown hw hg6 (Nat.le_refl _) hrow.row_ge
  repeat' (first|(refine Post.np ?_)|refine SW.nil ?_)
  refine Post.end0 rfl ⟨_,rfl,hw,hF6,li,(ls).set (kpos L x) ⟨(ls)[kpos L x].Cpu,(ls)[kpos L x].Zone,(ls)[kpos L x].Ty,⟨A3,(ls)[kpos L x].Pages.n+1,c3⟩⟩,hS.grT (b:=b1) (t':=27) hG6 rfl,?_⟩
  have hPS:PSep w0.heap.size li ls li ((ls).set (kpos L x) ⟨(ls)[kpos L x].Cpu,(ls)[kpos L x].Zone,(ls)[kpos L x].Ty,⟨A3,(ls)[kpos L x].Pages.n+1,c3⟩⟩):=by
   refine PSep.set_ hsep hltP hks (fun g e => ?_)
   rcases hpos3 g e with h|h
   ·exact .inl h
   ·exact .inr (Nat.le_trans hsz4 h)
  refine ⟨?_,hPS⟩
  rw [← hR.set_]
  refine ⟨hrow',All2.setAt (R:=OwnL _ w.heap.size) hR.own.each ⟨hP0.cpu.trans hR.key.1,hP0.zone.trans hR.key.2.1,hP0.ty.trans hR.key.2.2,hO1.grT hG6 rfl⟩ fun j h1 h2 hjk ho=>⟨ho.cpu,ho.zone,ho.ty,?_⟩⟩
  refine (ho.pages.grown hg ?_).grT hG6 rfl
  cases eo:ownB (ls)[j].Pages.A (ls)[j].Pages.c with
  | none=>exact .inl rfl
  | some g =>
   right
   intro e
   exact hR.sep j hks h1 hjk g e.symm eo
end Go.Proofs.YtigikedbffjeiaaGreat
