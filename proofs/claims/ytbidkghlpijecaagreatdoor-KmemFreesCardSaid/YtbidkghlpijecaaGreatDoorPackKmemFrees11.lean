/-
  Texts of the claim KmemFrees, part 11: what its theorem leans on.
-/
import Derived.Test.YtbidkghlpijecaaGreatDoorPackKmemFrees10
import Derived.Test.YtbidkghlpijecaaGreatDoorPackKmemFrees4
import Derived.Test.YtbidkghlpijecaaGreatDoorPackKmemFrees2
import Derived.Test.YtbidkghlpijecaaGreatDoorPackKmemFrees5
import Derived.Test.YtbidkghlpijecaaGreatDoorPackKmemFrees7
import Derived.Test.YtbidkghlpijecaaGreatDoorPackKmemFrees9
import Derived.Test.YtbidkghlpijecaaGreatDoorPackKmemFrees8
set_option linter.unusedVariables false
set_option linter.unusedSimpArgs false
namespace Go.Proofs.YtbidkghlpijecaaGreatDoor
open Go.RowKit
structure dL (w:World) (lo g c:Nat) (u0 u1:cJ) (s:ay×ay) : Prop where
 row:Own w lo 139 4 cd (some ⟨g,0,none⟩) 2 c [u0,u1]
 z0:eV w lo u0 s.1
 z1:eV w lo u1 s.2
 wP:lo≤g
 pos : 0<c
section
variable {w w':World} {lo jW g c t:Nat} {u0 u1:cJ} {s:ay×ay}
theorem dL.ext (h:dL w lo g c u0 u1 s) (hx:Ext w w') : dL w' lo g c u0 u1 s:=⟨h.row.ext hx,h.z0.ext hx,h.z1.ext hx,h.wP,h.pos⟩
theorem dL.aD (h:dL w lo g c u0 u1 s) (hG:oo w w' t) (cQ:(Nat.beq t 139 || (Nat.beq t 3 || Nat.beq t 165))=false) : dL w' lo g c u0 u1 s:=by
 rw [Bool.or_eq_false_iff] at cQ;exact ⟨h.row.aD hG cQ.1,h.z0.aD hG cQ.2,h.z1.aD hG cQ.2,h.wP,h.pos⟩
theorem dL.own (h:dL w lo g c u0 u1 s) : aX (some (⟨g,0,none⟩ : Addr)) c=some g:=by simp [aX,Nat.pos_iff_ne_zero.1 h.pos]
theorem dL.gr (h:dL w lo g c u0 u1 s) (hg:w.grownBy w' (some g)) : oo w w' 139:=h.row.gr (by rw [h.own];exact hg)
theorem mG {u:cJ} {z:ay} (h:eV w lo u z) (hz:cb z) : (u.ao.n+1)*24≤140737488355328∧u.Types.n*8≤140737488355328∧(0≤u.aR∧u.aR≤256)∧(0≤u.To∧u.To≤256):=by
 have e1:=h.free.sl.len;have e2:=h.types.sl.len;have e3:=h.from_;have e4:=h.jF;have hl:=mm hz;obtain ⟨o1,o2,o3,o4,o5⟩:=hz.ok;refine ⟨Nat.le_trans (Nat.mul_le_mul_right 24 (show u.ao.n+1≤258 by omega)) (by decide),by omega,by omega,by omega⟩
end
theorem ri (r:eu) (u0 u1:cJ) (p:Int) (w:World) (hz:Sl w 4 cd r.aI.A r.aI.n [u0,u1]) :
 a9 Tryz.prog 110 [.agg (bl r).toArray,.int .i64 p] w fun v _=>v = .int .i64 (if p<u0.To then 0 else 1):=by
 refine aC Tryz.func110 rfl Tryz.ntmps110 rfl ?_;refine CW.seq (CW.region (SW.box rfl rfl fun b1 w1 hw gI au => ?_));have hA:=hz.base;have hn : 2=r.aI.n:=hz.len
 have h0 : 0<r.aI.n:=by omega
 have f0:=hz.fE h0 (j:=1) (u := .int .i64 u0.To) rfl;repeat' (first|refine Wz ?_|(refine CW.oD rfl (fun h => ?_) (fun h => ?_))|refine SW.st (ag hw rfl f0) rfl ?_)
 all_goals
  refine ae.aF rfl rfl ⟨_,rfl,hw,?_⟩
  first|(rw [if_pos (by omega)])|(rw [if_neg (by omega)])
theorem nF (r:eu) (u0 u1:cJ) (p:Int) (w:World) (hz:Sl w 4 cd r.aI.A r.aI.n [u0,u1]) :
 a9 Tryz.prog 126 [.agg (bl r).toArray,.int .i64 p] w fun v _=>v = .int .i64 (if p<u1.aR then 0 else 1):=by
 refine aC Tryz.func126 rfl Tryz.ntmps126 rfl ?_;refine CW.seq (CW.region (SW.box rfl rfl fun b1 w1 hw gI au => ?_));have hA:=hz.base;have hn : 2=r.aI.n:=hz.len
 have h0 : 1<r.aI.n:=by omega
 have f0:=hz.fE h0 (j:=0) (u := .int .i64 u1.aR) rfl;repeat' (first|refine Wz ?_|(refine CW.oD rfl (fun h => ?_) (fun h => ?_))|refine SW.st (ag hw rfl f0) rfl ?_)
 all_goals
  refine ae.aF rfl rfl ⟨_,rfl,hw,?_⟩
  first|(rw [if_pos (by omega)])|(rw [if_neg (by omega)])
def vL (w:World) (lo g c:Nat) (s:ay×ay) (b:Block) (w':World) : Prop:=w.grownBy w' (some g) ∧ ∃ u0 u1,dL w' lo g c u0 u1 (dS s b)
theorem rj (m:fe) (cp:Int) (li lv:fe) (u0 u1:cJ) (s:ay×ay) (bs:List Block) (b:Block) (lo g c b1:Nat) (w:World) (au:aU w b1 41 (bl ⟨⟨some ⟨g,0,none⟩,2,c⟩,m,cp,li,lv⟩)) (hZ:dL w lo g c u0 u1 s) (gh:lo≤w.heap.size) (hD:mZ s bs) (hN:jZ bs b) :
 kt Tryz.prog 109 [.pointer (some ⟨b1,0,none⟩),.int .i64 b.At,.int .i64 b.Order] w fun v w'=>vL w lo g c s b w':=by
 refine fy Tryz.func109 rfl Tryz.ntmps109 rfl ?_;have hw:=Ext.refl w;have eT:=hZ.z0.jF;obtain ⟨q1,q2,q3,q4⟩:=mG hZ.z0 hD.nW;obtain ⟨p1,p2,p3,p4⟩:=mG hZ.z1 hD.nX;have hA:=hZ.row.sl.base;have cz:∀ w',Sl w' 4 cd (some ⟨g,0,none⟩) 2 [u0,u1]→a9 Tryz.prog 110 [.agg (bl ⟨⟨some ⟨g,0,none⟩,2,c⟩,m,cp,li,lv⟩).toArray,.int .i64 b.At] w' fun v _=>v = .int .i64 (if b.At<u0.To then 0 else 1):=fun w' h=>ri ⟨⟨some ⟨g,0,none⟩,2,c⟩,m,cp,li,lv⟩ u0 u1 b.At w' h
 by_cases hx:b.At<u0.To
 ·have eP:dS s b=((ec s.1 b.At b.Order).2,s.2):=by unfold dS;rw [if_pos (by omega)]
  simp only [if_pos hx] at cz;have sG:=hZ.row.sl;have k0 : 0<2:=by omega
  repeat' (first|refine Wz ?_|(refine SW.call rfl rfl (cz _ hZ.row.sl) ?_;intro v w1 ab hv;subst hv;replace hw:=Ext.trans hw ab;replace au:=au.ext ab;replace hZ:=hZ.ext ab;clear ab))
  refine CW.qf 19 19 (fun _=>True) mixed (by kernel_rfl) fun w1 ab bd => ?_
  replace hw:=Ext.trans hw ab;replace au:=au.ext ab;replace hZ:=hZ.ext ab;clear ab;refine SF.take 0 [] [] bd rfl (by kernel_rfl) (by kernel_rfl) (by kernel_rfl) ?_;repeat (refine SW.pure rfl rfl ?_)
  refine SW.aq ?_;refine SF.take 1 [] [] bd rfl (by kernel_rfl) (by kernel_rfl) (by kernel_rfl) ?_;repeat ((show SW _ _ _ _ (⟨_,Op.nilCheck _,_,_,_,none⟩::_) _ _;refine SW.st (bK rfl) rfl ?_))
  refine SW.aq ?_;refine SF.take 2 [] [] bd rfl (by kernel_rfl) (by kernel_rfl) (by kernel_rfl) ?_;repeat ((show SW _ _ _ _ (⟨_,Op.fieldAddr _ _ _,_,_,_,none⟩::_) _ _;refine SW.st (aP rfl) rfl ?_))
  refine SW.aq ?_;refine SF.take 3 [] [] bd rfl (by kernel_rfl) (by kernel_rfl) (by kernel_rfl) ?_;repeat ((show SW _ _ _ _ (⟨_,Op.load _ _,_,_,_,none⟩::_) _ _;refine SW.st (az rfl (au.cell rfl)) rfl ?_))
  refine SW.aq ?_;refine SF.take 4 [] [] bd rfl (by kernel_rfl) (by kernel_rfl) (by kernel_rfl) ?_;repeat (refine SW.pure rfl rfl ?_)
  refine SW.aq ?_;refine SF.take 5 [] [] bd rfl (by kernel_rfl) (by kernel_rfl) (by kernel_rfl) ?_;repeat (refine SW.pure rfl rfl ?_)
  refine SW.aq ?_;refine SF.take 6 [] [] bd rfl (by kernel_rfl) (by kernel_rfl) (by kernel_rfl) ?_;repeat ((show SW _ _ _ _ (⟨_,Op.nilCheck _,_,_,_,none⟩::_) _ _;refine SW.st (bK rfl) rfl ?_))
  refine SW.aq ?_;refine SF.take 7 [] [] bd rfl (by kernel_rfl) (by kernel_rfl) (by kernel_rfl) ?_;repeat ((show SW _ _ _ _ (⟨_,Op.fieldAddr _ _ _,_,_,_,none⟩::_) _ _;refine SW.st (aP rfl) rfl ?_))
  refine SW.aq ?_;refine SF.take 8 [] [] bd rfl (by kernel_rfl) (by kernel_rfl) (by kernel_rfl) ?_;repeat ((show SW _ _ _ _ (⟨_,Op.load _ _,_,_,_,none⟩::_) _ _;refine SW.st (az rfl (au.cell rfl)) rfl ?_))
  refine SW.aq ?_;refine SF.take 9 [] [] bd rfl (by kernel_rfl) (by kernel_rfl) (by kernel_rfl) ?_;repeat (refine SW.pure rfl rfl ?_)
  refine SW.aq ?_;refine SF.take 10 [] [] bd rfl (by kernel_rfl) (by kernel_rfl) (by kernel_rfl) ?_;repeat ((show SW _ _ _ _ (⟨_,Op.indexAddr _ _ _,_,_,_,none⟩::_) _ _;refine SW.st (bH rfl rfl (by assumption) (by omega)) rfl ?_))
  refine SW.aq ?_;refine SF.take 11 [] [] bd rfl (by kernel_rfl) (by kernel_rfl) (by kernel_rfl) ?_;repeat ((show SW _ _ _ _ (⟨_,Op.load _ _,_,_,_,none⟩::_) _ _;refine SW.st (aS rfl rfl ((hZ.row.sl.all k0))) rfl ?_))
  refine SW.aq ?_;refine SF.take 12 [] [] bd rfl (by kernel_rfl) (by kernel_rfl) (by kernel_rfl) ?_;repeat (refine SW.pure rfl rfl ?_)
  refine SW.aq ?_;refine SF.take 13 [] [] bd rfl (by kernel_rfl) (by kernel_rfl) (by kernel_rfl) ?_;repeat (refine SW.pure rfl rfl ?_)
  refine SW.aq ?_;refine SF.one 14 rfl (by kernel_rfl) rfl ?_;refine SW.call rfl rfl (rh u0 s.1 b.At b.Order _ hZ.z0.rd q1 q2 ⟨by omega,by omega⟩ ⟨by omega,by omega⟩) fun v w4 ai hv => ?_
  obtain ⟨u',rfl,gV⟩:=hv;replace gV:=gV.low (Nat.le_trans gh hw.size);(replace hw:=Ext.trans hw ai;replace au:=au.ext ai;replace hZ:=hZ.ext ai);refine SW.nil (ae.sf ai ?_);refine SF.take 15 [] [] bd rfl (by kernel_rfl) (by kernel_rfl) (by kernel_rfl) ?_;repeat (refine SW.pure rfl rfl ?_)
  refine SW.aq ?_;refine SF.take 16 [] [] bd rfl (by kernel_rfl) (by kernel_rfl) (by kernel_rfl) ?_;repeat (refine SW.pure rfl rfl ?_)
  refine SW.aq ?_;refine SF.xO 17 bd rfl (by kernel_rfl) (by kernel_rfl) rfl (fun _=>cK rfl) rfl ?_;refine SF.take 18 [] [] bd rfl (by kernel_rfl) (by kernel_rfl) (by kernel_rfl) ?_;repeat ((show SW _ _ _ _ (⟨_,Op.indexAddr _ _ _,_,_,_,none⟩::_) _ _;refine SW.st (bH rfl rfl (by assumption) (by omega)) rfl ?_))
  refine SW.aq ?_;refine SF.last rfl (by kernel_rfl) (by kernel_rfl) ?_;refine SW.jA (enc:=cd) 0 u' hZ.row rfl rfl k0 fun w5 hO hg => ?_
  rw [hZ.own] at hg;have hG:=hZ.gr hg;have nv:=bi (hw.gr (some g)) hg (.inl rfl);refine Wz ?_;exact ae.wk rfl ⟨_,rfl,nv,u',u1,by rw [eP];exact ⟨hO,gV.aD hG rfl,hZ.z1.aD hG rfl,hZ.wP,hZ.pos⟩⟩
 ·have eP:dS s b=(s.1,(ec s.2 b.At b.Order).2):=by unfold dS;rw [if_neg (by omega)]
  simp only [if_neg hx] at cz;have k0 : 1<2:=by omega
  repeat' (first|refine Wz ?_|(refine SW.call rfl rfl (cz _ hZ.row.sl) ?_;intro v w1 ab hv;subst hv;replace hw:=Ext.trans hw ab;replace au:=au.ext ab;replace hZ:=hZ.ext ab;clear ab))
  refine CW.qf 19 19 (fun _=>True) mixed (by kernel_rfl) fun w1 ab bd => ?_
  replace hw:=Ext.trans hw ab;replace au:=au.ext ab;replace hZ:=hZ.ext ab;clear ab;refine SF.take 0 [] [] bd rfl (by kernel_rfl) (by kernel_rfl) (by kernel_rfl) ?_;repeat (refine SW.pure rfl rfl ?_)
  refine SW.aq ?_;refine SF.take 1 [] [] bd rfl (by kernel_rfl) (by kernel_rfl) (by kernel_rfl) ?_;repeat ((show SW _ _ _ _ (⟨_,Op.nilCheck _,_,_,_,none⟩::_) _ _;refine SW.st (bK rfl) rfl ?_))
  refine SW.aq ?_;refine SF.take 2 [] [] bd rfl (by kernel_rfl) (by kernel_rfl) (by kernel_rfl) ?_;repeat ((show SW _ _ _ _ (⟨_,Op.fieldAddr _ _ _,_,_,_,none⟩::_) _ _;refine SW.st (aP rfl) rfl ?_))
  refine SW.aq ?_;refine SF.take 3 [] [] bd rfl (by kernel_rfl) (by kernel_rfl) (by kernel_rfl) ?_;repeat ((show SW _ _ _ _ (⟨_,Op.load _ _,_,_,_,none⟩::_) _ _;refine SW.st (az rfl (au.cell rfl)) rfl ?_))
  refine SW.aq ?_;refine SF.take 4 [] [] bd rfl (by kernel_rfl) (by kernel_rfl) (by kernel_rfl) ?_;repeat (refine SW.pure rfl rfl ?_)
  refine SW.aq ?_;refine SF.take 5 [] [] bd rfl (by kernel_rfl) (by kernel_rfl) (by kernel_rfl) ?_;repeat (refine SW.pure rfl rfl ?_)
  refine SW.aq ?_;refine SF.take 6 [] [] bd rfl (by kernel_rfl) (by kernel_rfl) (by kernel_rfl) ?_;repeat ((show SW _ _ _ _ (⟨_,Op.nilCheck _,_,_,_,none⟩::_) _ _;refine SW.st (bK rfl) rfl ?_))
  refine SW.aq ?_;refine SF.take 7 [] [] bd rfl (by kernel_rfl) (by kernel_rfl) (by kernel_rfl) ?_;repeat ((show SW _ _ _ _ (⟨_,Op.fieldAddr _ _ _,_,_,_,none⟩::_) _ _;refine SW.st (aP rfl) rfl ?_))
  refine SW.aq ?_;refine SF.take 8 [] [] bd rfl (by kernel_rfl) (by kernel_rfl) (by kernel_rfl) ?_;repeat ((show SW _ _ _ _ (⟨_,Op.load _ _,_,_,_,none⟩::_) _ _;refine SW.st (az rfl (au.cell rfl)) rfl ?_))
  refine SW.aq ?_;refine SF.take 9 [] [] bd rfl (by kernel_rfl) (by kernel_rfl) (by kernel_rfl) ?_;repeat (refine SW.pure rfl rfl ?_)
  refine SW.aq ?_;refine SF.take 10 [] [] bd rfl (by kernel_rfl) (by kernel_rfl) (by kernel_rfl) ?_;repeat ((show SW _ _ _ _ (⟨_,Op.indexAddr _ _ _,_,_,_,none⟩::_) _ _;refine SW.st (bH rfl rfl (by assumption) (by omega)) rfl ?_))
  refine SW.aq ?_;refine SF.take 11 [] [] bd rfl (by kernel_rfl) (by kernel_rfl) (by kernel_rfl) ?_;repeat ((show SW _ _ _ _ (⟨_,Op.load _ _,_,_,_,none⟩::_) _ _;refine SW.st (aS rfl rfl ((hZ.row.sl.all k0))) rfl ?_))
  refine SW.aq ?_;refine SF.take 12 [] [] bd rfl (by kernel_rfl) (by kernel_rfl) (by kernel_rfl) ?_;repeat (refine SW.pure rfl rfl ?_)
  refine SW.aq ?_;refine SF.take 13 [] [] bd rfl (by kernel_rfl) (by kernel_rfl) (by kernel_rfl) ?_;repeat (refine SW.pure rfl rfl ?_)
  refine SW.aq ?_;refine SF.one 14 rfl (by kernel_rfl) rfl ?_;refine SW.call rfl rfl (rh u1 s.2 b.At b.Order _ hZ.z1.rd p1 p2 ⟨by omega,by omega⟩ ⟨by omega,by omega⟩) fun v w4 ai hv => ?_
  obtain ⟨u',rfl,gV⟩:=hv;replace gV:=gV.low (Nat.le_trans gh hw.size);(replace hw:=Ext.trans hw ai;replace au:=au.ext ai;replace hZ:=hZ.ext ai);refine SW.nil (ae.sf ai ?_);refine SF.take 15 [] [] bd rfl (by kernel_rfl) (by kernel_rfl) (by kernel_rfl) ?_;repeat (refine SW.pure rfl rfl ?_)
  refine SW.aq ?_;refine SF.take 16 [] [] bd rfl (by kernel_rfl) (by kernel_rfl) (by kernel_rfl) ?_;repeat (refine SW.pure rfl rfl ?_)
  refine SW.aq ?_;refine SF.xO 17 bd rfl (by kernel_rfl) (by kernel_rfl) rfl (fun _=>cK rfl) rfl ?_;refine SF.take 18 [] [] bd rfl (by kernel_rfl) (by kernel_rfl) (by kernel_rfl) ?_;repeat ((show SW _ _ _ _ (⟨_,Op.indexAddr _ _ _,_,_,_,none⟩::_) _ _;refine SW.st (bH rfl rfl (by assumption) (by omega)) rfl ?_))
  refine SW.aq ?_;refine SF.last rfl (by kernel_rfl) (by kernel_rfl) ?_;refine SW.jA (enc:=cd) 1 u' hZ.row rfl rfl k0 fun w5 hO hg => ?_
  rw [hZ.own] at hg;have hG:=hZ.gr hg;have nv:=bi (hw.gr (some g)) hg (.inl rfl);refine Wz ?_;exact ae.wk rfl ⟨_,rfl,nv,u0,u',by rw [eP];exact ⟨hO,hZ.z0.aD hG rfl,gV.aD hG rfl,hZ.wP,hZ.pos⟩⟩
theorem mH (m:fe) (cp:Int) (li lv:fe) (u0 u1:cJ) (s:ay×ay) (bs:List Block) (b:Block) (lo g c:Nat) (w:World) (hZ:dL w lo g c u0 u1 s) (gh:lo≤w.heap.size) (hD:mZ s bs) (hN:jZ bs b) :
 kt Tryz.prog 125 [.agg (bl ⟨⟨some ⟨g,0,none⟩,2,c⟩,m,cp,li,lv⟩).toArray,.int .i64 b.At,.int .i64 b.Order] w fun v w'=>v = .agg (bl ⟨⟨some ⟨g,0,none⟩,2,c⟩,m,cp,li,lv⟩).toArray∧vL w lo g c s b w':=by
 refine fy Tryz.func125 rfl Tryz.ntmps125 rfl ?_;refine CW.seq (CW.region (SW.box rfl rfl fun b3 w1 hw bM ap => ?_));refine SW.alloc rfl fun b6 w2 cg eJ aB => ?_
 have cX:w.heap.size≤b6:=Nat.le_trans hw.size eJ
 (replace hw:=Ext.trans hw cg;replace ap:=ap.ext cg);replace hZ:=hZ.ext hw;have eT:=hZ.z0.jF;have eF:=hZ.z1.from_;have eM:=hD.xw;obtain ⟨q1,q2,q3,q4⟩:=mG hZ.z0 hD.nW;obtain ⟨p1,p2,p3,p4⟩:=mG hZ.z1 hD.nX;have hA:=hZ.row.sl.base;have cz:∀ w',Sl w' 4 cd (some ⟨g,0,none⟩) 2 [u0,u1]→a9 Tryz.prog 126 [.agg (bl ⟨⟨some ⟨g,0,none⟩,2,c⟩,m,cp,li,lv⟩).toArray,.int .i64 b.At] w' fun v _=>v = .int .i64 (if b.At<u1.aR then 0 else 1):=fun w' h=>nF ⟨⟨some ⟨g,0,none⟩,2,c⟩,m,cp,li,lv⟩ u0 u1 b.At w' h
 by_cases hx:b.At<u1.aR
 ·have eP:dS s b=((ec s.1 b.At b.Order).2,s.2):=by unfold dS;rw [if_pos (by omega)]
  simp only [if_pos hx] at cz;have k0 : 0<2:=by omega
  repeat' (first|refine Wz ?_|(refine SW.call rfl rfl (cz _ hZ.row.sl) ?_;intro v w1 ab hv;subst hv;replace hw:=Ext.trans hw ab;replace ap:=ap.ext ab;replace aB:=aB.ext ab;replace hZ:=hZ.ext ab;clear ab))
  repeat' (first|refine Wz ?_|refine SW.st (aS rfl rfl ((hZ.row.sl.all k0))) rfl ?_)
  refine SW.call rfl rfl (pN u0 s.1 b.At b.Order _ hZ.z0.rd q1 q2 ⟨by omega,by omega⟩ ⟨by omega,by omega⟩) fun v w4 ai hv => ?_
  obtain ⟨u',rfl,gV⟩:=hv;replace gV:=gV.low (Nat.le_trans gh hw.size);(replace hw:=Ext.trans hw ai;replace ap:=ap.ext ai;replace aB:=aB.ext ai;replace hZ:=hZ.ext ai);refine Wz ?_;refine SW.alloc rfl fun b8 w1 ab jj bx => ?_
  skip;refine SW.aj bx rfl rfl rfl rfl (dh u') fun w2 fY hg => ?_
  have ai:=ab.own jj hg;have gK:w.heap.size≤b8:=Nat.le_trans hw.size jj
  replace hw:=Ext.trans hw ai;replace ap:=ap.ext ai;replace aB:=aB.ext ai;replace hZ:=hZ.ext ai;replace gV:=gV.ext ai;replace bx:=fY;clear fY ab hg ai;refine Wz ?_;refine SW.jA (enc:=cd) 0 u' hZ.row rfl rfl k0 fun w5 hO hg => ?_
  rw [hZ.own] at hg;have hG:=hZ.gr hg;have nv:=bi (hw.gr (some g)) hg (.inl rfl);have oy:dL w5 lo g c u' u1 (dS s b):=by rw [eP];exact ⟨hO,gV.aD hG rfl,hZ.z1.aD hG rfl,hZ.wP,hZ.pos⟩
  clear hZ gV bx cz hO;(replace ap:=ap.aD hG rfl;replace aB:=aB.aD hG rfl);have jI:=Ext.refl w5;clear hw;have hw:=jI;refine Wz ?_;refine SW.aj aB rfl rfl rfl rfl (cV ⟨⟨some ⟨g,0,none⟩,2,c⟩,m,cp,li,lv⟩) fun w6 bV hg => ?_
  have hG:=aB.gr hg;replace nv:=bi nv hg (.inr fun i e=>by cases e;exact cX);refine Wz ?_;exact ae.jY rfl rfl bV rfl ⟨_,rfl,rfl,nv,u',u1,oy.aD hG rfl⟩
 ·have eP:dS s b=(s.1,(ec s.2 b.At b.Order).2):=by unfold dS;rw [if_neg (by omega)]
  simp only [if_neg hx] at cz;have k0 : 1<2:=by omega
  repeat' (first|refine Wz ?_|(refine SW.call rfl rfl (cz _ hZ.row.sl) ?_;intro v w1 ab hv;subst hv;replace hw:=Ext.trans hw ab;replace ap:=ap.ext ab;replace aB:=aB.ext ab;replace hZ:=hZ.ext ab;clear ab))
  repeat' (first|refine Wz ?_|refine SW.st (aS rfl rfl ((hZ.row.sl.all k0))) rfl ?_)
  refine SW.call rfl rfl (pN u1 s.2 b.At b.Order _ hZ.z1.rd p1 p2 ⟨by omega,by omega⟩ ⟨by omega,by omega⟩) fun v w4 ai hv => ?_
  obtain ⟨u',rfl,gV⟩:=hv;replace gV:=gV.low (Nat.le_trans gh hw.size);(replace hw:=Ext.trans hw ai;replace ap:=ap.ext ai;replace aB:=aB.ext ai;replace hZ:=hZ.ext ai);refine Wz ?_;refine SW.alloc rfl fun b8 w1 ab jj bx => ?_
  skip;refine SW.aj bx rfl rfl rfl rfl (dh u') fun w2 fY hg => ?_
  have ai:=ab.own jj hg;have gK:w.heap.size≤b8:=Nat.le_trans hw.size jj
  replace hw:=Ext.trans hw ai;replace ap:=ap.ext ai;replace aB:=aB.ext ai;replace hZ:=hZ.ext ai;replace gV:=gV.ext ai;replace bx:=fY;clear fY ab hg ai;refine Wz ?_;refine SW.jA (enc:=cd) 1 u' hZ.row rfl rfl k0 fun w5 hO hg => ?_
  rw [hZ.own] at hg;have hG:=hZ.gr hg;have nv:=bi (hw.gr (some g)) hg (.inl rfl);have oy:dL w5 lo g c u0 u' (dS s b):=by rw [eP];exact ⟨hO,hZ.z0.aD hG rfl,gV.aD hG rfl,hZ.wP,hZ.pos⟩
  clear hZ gV bx cz hO;(replace ap:=ap.aD hG rfl;replace aB:=aB.aD hG rfl);have jI:=Ext.refl w5;clear hw;have hw:=jI;refine Wz ?_;refine SW.aj aB rfl rfl rfl rfl (cV ⟨⟨some ⟨g,0,none⟩,2,c⟩,m,cp,li,lv⟩) fun w6 bV hg => ?_
  have hG:=aB.gr hg;replace nv:=bi nv hg (.inr fun i e=>by cases e;exact cX);refine Wz ?_;exact ae.jY rfl rfl bV rfl ⟨_,rfl,rfl,nv,u0,u',oy.aD hG rfl⟩
open Go.RowKit
theorem xT.split {w:World} {lo:Nat} {r:eu} {h:Heap} (a:xT w lo r h) {z0 z1:ay} (hz:h.aI=[z0,z1]) : ∃ g c u0 u1 ls,r.aI=⟨some ⟨g,0,none⟩,2,c⟩∧dL w lo g c u0 u1 (z0,z1)∧c8 w lo r.ak ls h.ak∧rH r.bE [u0,u1] ls∧qi r.Live [u0,u1]:=by
 obtain ⟨zs,ls,lW,Co,hm,hf⟩:=a.all;have l0:=lW.each.len;rw [hz] at l0;obtain ⟨u0,u1,rfl⟩:=lM (show zs.length=2 from l0);have l1:=lW.row.len;have h0:=lW.each.get 0 (by simp) (by simp [hz]);have h1:=lW.each.get 1 (by simp) (by simp [hz]);simp only [hz] at h0 h1;have hc : 0<r.aI.c:=by have:=lW.row.le;simp at l1;omega
 obtain ⟨g,rest,hA,gh,_⟩:=lW.row.opened hc;refine ⟨g,r.aI.c,u0,u1,ls,?_,⟨?_,h0,h1,gh,hc⟩,Co,hm,hf⟩
 ·rw [← hA];have:(2:Nat)=r.aI.n:=l1
  rw [this]
 ·have:=lW.row
  rw [hA,← l1] at this;exact this
theorem Own.apart {α:Type} {w w':World} {lo:Nat} {e:TypeId} {sz:Nat} {enc : α → List Value} {A:Option Addr} {n c:Nat} {l:List α} (h:Own w lo e sz enc A n c l) {row:Option Nat} (hg:w.grownBy w' row) (hs:∀ g,aX A c=some g→row≠some g) : Own w' lo e sz enc A n c l:=by
 refine h.grown hg ?_;cases e:aX A c with
 | none=>exact .inl rfl
 | some g=>exact .inr (fun e2=>hs g e e2.symm)
theorem dL.BR {w w':World} {lo g c:Nat} {u0 u1:cJ} {s:ay×ay} (h:dL w lo g c u0 u1 s) {lv:fe} (hs:qi lv [u0,u1]) (hg:w.grownBy w' (aX lv.A lv.c)) (hG:oo w w' 165) : dL w' lo g c u0 u1 s :=
 ⟨h.row.aD hG rfl,⟨h.z0.from_,h.z0.jF,h.z0.free.apart hg (hs u0 (by simp)),h.z0.types.aD hG rfl⟩,⟨h.z1.from_,h.z1.jF,h.z1.free.apart hg (hs u1 (by simp)),h.z1.types.aD hG rfl⟩,h.wP,h.pos⟩
structure BS (w0:World) (li:fe) (b1:Nat) (o:Option Nat) : Prop where
 out:∀ k,o=some k→k≠b1∧aX li.A li.c≠some k∧k<w0.heap.size
theorem BS.ne {w0:World} {li:fe} {b1:Nat} {o row:Option Nat} (h:BS w0 li b1 o) (hr:∀ k,row=some k→k=b1∨aX li.A li.c=some k∨w0.heap.size≤k) : ∀ g,o=some g→row≠some g:=fun g e e2=>by
 obtain ⟨h1,h2,h3⟩:=h.out g e;rcases hr g e2 with h|h|h
 ·exact h1 h
 ·exact h2 h
 ·omega
theorem Own.uX {α:Type} {w0:World} {lo:Nat} {e:TypeId} {sz:Nat} {enc : α → List Value} {A:Option Addr} {n c:Nat} {l:List α} (h:Own w0 lo e sz enc A n c l) {li:fe} {ls:List bP} {L:List aJ} {b1:Nat} {cs:List Value} (hl:c8 w0 lo li ls L) (hb:aU w0 b1 41 cs) (h1:Nat.beq 41 e=false) (h2:Nat.beq e 142=false) : BS w0 li b1 (aX A c) :=
 ⟨fun k hk=>⟨fun e=>h.cq hb h1 (by rw [hk,e]),by
  rcases h.row with ⟨_,rfl⟩|⟨hc,g,fk,rfl,_,hg,_⟩
  ·simp [aX] at hk
  ·simp only [aX,Nat.pos_iff_ne_zero.1 hc,if_false,Option.map_some,Option.some.injEq] at hk;subst hk;exact hl.row.cq (cs:=fk.toList) (by unfold aU;simpa using hg) h2,h.lt_size k hk⟩⟩
theorem Own.oz {α β:Type} {w0:World} {lo jW:Nat} {e e':TypeId} {sz EF:Nat} {enc : α → List Value} {Bg : β → List Value} {A A':Option Addr} {n n' c c':Nat} {l:List α} {l':List β} (h:Own w0 lo e sz enc A n c l) (h':Own w0 jW e' EF Bg A' n' c' l') (cQ:Nat.beq e e'=false) : ∀ k,aX A c=some k→aX A' c'≠some k:=fun k hk=>by
 rcases h.row with ⟨_,rfl⟩|⟨hc,g,fk,rfl,_,hg,_⟩
 ·simp [aX] at hk
 ·simp only [aX,Nat.pos_iff_ne_zero.1 hc,if_false,Option.map_some,Option.some.injEq] at hk;subst hk;exact h'.cq (cs:=fk.toList) (by unfold aU;simpa using hg) cQ
theorem dL.parts {w w':World} {lo g c:Nat} {u0 u1:cJ} {s:ay×ay} {row:Option Nat} (h:dL w lo g c u0 u1 s) (hg:w.grownBy w' row) (h0:∀ k,aX (some (⟨g,0,none⟩ : Addr)) c=some k→row≠some k) (h1:∀ k,aX u0.ao.A u0.ao.c=some k→row≠some k) (h2:∀ k,aX u0.Types.A u0.Types.c=some k→row≠some k)
 (h3:∀ k,aX u1.ao.A u1.ao.c=some k→row≠some k) (h4:∀ k,aX u1.Types.A u1.Types.c=some k→row≠some k) : dL w' lo g c u0 u1 s :=
 ⟨h.row.apart hg h0,⟨h.z0.from_,h.z0.jF,h.z0.free.apart hg h1,h.z0.types.apart hg h2⟩,⟨h.z1.from_,h.z1.jF,h.z1.free.apart hg h3,h.z1.types.apart hg h4⟩,h.wP,h.pos⟩
def ob (s:fe) : Option Nat:=aX s.A s.c
def BU (a b:bP) : Prop := ∀ g,ob a.aw=some g→ob b.aw≠some g
theorem wQ {a b:bP} (h:BU a b) : BU b a:=fun g e e2=>h g e2 e
theorem tz {ls:List bP}:vV ls↔ls.Pairwise BU:=by
 rw [List.pairwise_iff_getElem];refine ⟨fun h i j hi hj jN g e=>h i j hi hj (by omega) g e,fun h i j hi hj jN g e => ?_⟩;rcases Nat.lt_or_gt_of_ne jN with h1|h1
 ·exact h i j hi hj h1 g e
 ·exact wQ (h j i hj hi h1) g e
structure si (n:Nat) (li:fe) (ls:List bP) (Az:fe) (zm:List bP) : Prop where
 sep:vV zm
 of:∀ y∈zm,∀ g,ob y.aw=some g→(∃ x∈ls,ob x.aw=some g)∨n≤g
 row:∀ k,ob Az=some k→ob li=some k∨n≤k
theorem si.yy {n:Nat} {li:fe} {ls:List bP} {i:Nat} {y:bP} (hs:vV ls) (dH:∀ x∈ls,∀ g,ob x.aw=some g→g<n) (hi:i<ls.length) (hy:∀ g,ob y.aw=some g→ob ls[i].aw=some g∨n≤g) : si n li ls li (ls.set i y):=by
 refine ⟨fun a b ha hb Cs g e e2 => ?_,fun z hz g e => ?_,fun k e => .inl e⟩
 ·simp only [List.length_set] at ha hb
  change ob ((ls.set i y)[a]).aw=some g at e
  change ob ((ls.set i y)[b]).aw=some g at e2
  simp only [List.getElem_set] at e e2;by_cases h1:i=a
  ·rw [if_pos h1] at e;rw [if_neg (by omega)] at e2;rcases hy g e with h|h
   ·subst h1;exact hs _ _ hi hb Cs g h e2
   ·have:=dH _ (List.getElem_mem hb) g e2;omega
  ·rw [if_neg h1] at e;by_cases h2:i=b
   ·rw [if_pos h2] at e2;rcases hy g e2 with h|h
    ·subst h2;exact hs _ _ ha hi Cs g e h
    ·have:=dH _ (List.getElem_mem ha) g e;omega
   ·rw [if_neg h2] at e2;exact hs _ _ ha hb Cs g e e2
 ·rcases List.mem_or_eq_of_mem_set hz with h|rfl
  ·exact .inl ⟨z,h,e⟩
  ·rcases hy g e with h|h
   ·exact .inl ⟨_,List.getElem_mem hi,h⟩
   ·exact .inr h
theorem si.ins {n:Nat} {li Az:fe} {ls:List bP} {i:Nat} {y:bP} (hs:vV ls) (dH:∀ x∈ls,∀ g,ob x.aw=some g→g<n) (hy:∀ g,ob y.aw=some g→n≤g) (hr:∀ k,ob Az=some k→ob li=some k∨n≤k) : si n li ls Az (aW ls i y):=by
 have hm:∀ z,z∈aW ls i y→z∈ls∨z=y:=fun z hz=>by
  unfold aW at hz;rw [List.mem_append,List.mem_append,List.mem_singleton] at hz;rcases hz with (hz|hz)|hz
  ·exact .inl (List.mem_of_mem_take hz)
  ·exact .inr hz
  ·exact .inl (List.mem_of_mem_drop hz)
 refine ⟨?_,fun z hz g e => ?_,hr⟩
 ·have hs:=tz.1 hs;rw [← List.take_append_drop i ls,List.pairwise_append] at hs;obtain ⟨h1,h2,h3⟩:=hs;rw [tz];unfold aW;rw [List.append_assoc,List.pairwise_append];refine ⟨h1,?_,fun a ha b hb => ?_⟩
  ·rw [List.singleton_append,List.pairwise_cons];exact ⟨fun b hb g e e2=>by have:=hy g e;have:=dH b (List.mem_of_mem_drop hb) g e2;omega,h2⟩
  ·rw [List.singleton_append,List.mem_cons] at hb;rcases hb with rfl|hb
   ·exact fun g e e2=>by have:=hy g e2;have:=dH a (List.mem_of_mem_take ha) g e;omega
   ·exact h3 a ha b hb
 ·rcases hm z hz with h|rfl
  ·exact .inl ⟨z,h,e⟩
  ·exact .inr (hy g e)
theorem SW.vM {α:Type} {P:Program} {n:Nat} {ops:Array Oper} {Q:Exit→Act→World→Prop} {rest:List Oper} {L:Env} {w:World} {dd:Nat} {T:TypeId} {pos:String} {af:Array Edge}
 {lo:Nat} {t e:TypeId} {z:Value} {sz bytes:Nat} {enc : α → List Value} {A X:Option Addr} {k c m c2:Nat} {l ys:List α} [bj P t e sz] [ct P e z sz bytes] [fM enc sz] {x y:Operand}
 (hO:Own w lo e sz enc A k c l) (hS:Sl w sz enc X m ys) (gh:lo≤w.heap.size) (uo : 0<m) (hx:bG L x=some (.slice A k c)) (hy:bG L y=some (.slice X m c2)) (hn:Nat.blt dd n=true)
 (hb:(k+m)*bytes≤140737488355328) (hm:k+m≤9223372036854775807)
 (h:∀ A' c' w',Own w' lo e sz enc A' (k+m) c' (l++ys)→w.grownBy w' (aX A c)→(∀ g,aX A' c'=some g→aX A c=some g∨w.heap.size≤g)→SW P n ops (.eG Q) rest ((dd,.slice A' (k+m) c')::L) w') :
 SW P n ops (.eG Q) (⟨some dd,.call ⟨.builtin .append,#[x,y],#[t,t]⟩,T,pos,af,none⟩::rest) L w:=by
 refine SW.vK hO hS gh uo hx hy hn hb hm fun A' c' w' hh => ?_
 rcases hh with ⟨rfl,rfl,h1,h2⟩|⟨h1,h2⟩
 ·exact h _ _ _ h1 h2 (fun g e => .inl e)
 ·exact h _ _ _ (h1.low gh) ⟨h2.os,h2.tape,h2.output,h2.size,fun k hk _=>h2.block k hk (fun e=>by cases e)⟩ (fun g e => .inr (h1.aN g e))
open Go.RowKit
structure AA (F:World→Prop) (w:World) : Prop where
 at_:F w
 all:∀ w w',Ext w w'→F w→F w'
theorem AA.ext {F:World→Prop} {w w':World} (h:AA F w) (hx:Ext w w') : AA F w':=⟨h.all _ _ hx h.at_,h.all⟩
theorem AA.to {F:World→Prop} {w w':World} (h:AA F w) (hf:F w') : AA F w':=⟨hf,h.all⟩
theorem dQ.aW {α β:Type} {R : α → β → Prop} {xs:List α} {ys:List β} (h:dQ R xs ys) {i:Nat} (hi:i≤xs.length) {x : α} {y : β} (hr:R x y) : dQ R (aW xs i x) (aW ys i y):=by
 have hl:=h.len;refine ⟨by rw [ew _ hi,ew _ (by omega),hl],fun k h1 h2 => ?_⟩
 have mI:∀ {γ:Type} (zs:List γ) (z : γ) (k:Nat) (hk:k<(Proofs.YtbidkghlpijecaaGreatDoor.aW zs i z).length) (u : γ),(Proofs.YtbidkghlpijecaaGreatDoor.aW zs i z)[k]?=some u→(Proofs.YtbidkghlpijecaaGreatDoor.aW zs i z)[k]=u:=fun zs z k hk u hu=>by
  rw [List.getElem?_eq_getElem hk] at hu;exact Option.some.inj hu
 rw [ew _ hi] at h1;rcases Nat.lt_trichotomy k i with e|e|e
 ·rw [mI xs x k _ (xs[k]'(by omega)) (by rw [pe hi e,List.getElem?_eq_getElem]),mI ys y k _ (ys[k]'(by omega)) (by rw [pe (by omega) e,List.getElem?_eq_getElem])];exact h.get k (by omega) (by omega)
 ·subst e;rw [mI xs x k _ x (jy hi),mI ys y k _ y (jy (by omega))];exact hr
 ·obtain ⟨j,rfl⟩ : ∃ j,k=j+1:=⟨k-1,by omega⟩;rw [mI xs x (j+1) _ (xs[j]'(by omega)) (by rw [ms hi (by omega),List.getElem?_eq_getElem]),mI ys y (j+1) _ (ys[j]'(by omega)) (by rw [ms (by omega) (by omega),List.getElem?_eq_getElem])];exact h.get j (by omega) (by omega)
theorem dQ.setAt {α β:Type} {R R' : α → β → Prop} {xs:List α} {ys:List β} (h:dQ R xs ys) {i:Nat} {x : α} {y : β} (hr:R' x y) (ho:∀ (k:Nat) (h1:k<xs.length) (h2:k<ys.length),k≠i→R xs[k] ys[k]→R' xs[k] ys[k]) : dQ R' (xs.set i x) (ys.set i y):=by
 refine ⟨by simp [h.len],fun k h1 h2 => ?_⟩;simp only [List.length_set] at h1 h2;rw [List.getElem_set,List.getElem_set];by_cases e:i=k
 ·rw [if_pos e,if_pos e];exact hr
 ·rw [if_neg e,if_neg e];exact ho k h1 h2 (fun h=>e h.symm) (h.get k h1 h2)
structure tA (n:Nat) (w:World) (lo:Nat) (F:World→Prop) (L:List aJ) (x:aJ) (p:Int) (Ei:fe) (wR:List bP) (L1:List aJ) : Prop where
 own:c8 w lo Ei wR L1
 lt:aQ L x<L1.length
 yy:L1.set (aQ L x) ⟨x.dq,x.ay,x.Ty,L1[aQ L x].aw++[p]⟩=eW L ⟨x.dq,x.ay,x.Ty,cm L x++[p]⟩
 key:du L1[aQ L x] x
 sep:∀ (j:Nat) (hk:aQ L x<wR.length) (hj:j<wR.length),j≠aQ L x → ∀ g,aX wR[aQ L x].aw.A wR[aQ L x].aw.c=some g→aX wR[j].aw.A wR[j].aw.c≠some g
 Fe:∀ (hk:aQ L x<wR.length) (w w':World),w.grownBy w' (aX wR[aQ L x].aw.A wR[aQ L x].aw.c)→F w→F w'
 small:L1[aQ L x].aw.length≤1000
 size:n≤w.heap.size
theorem tA.ext {n:Nat} {w w':World} {lo:Nat} {F:World→Prop} {L:List aJ} {x:aJ} {p:Int} {Ei:fe} {wR:List bP} {L1:List aJ} (h:tA n w lo F L x p Ei wR L1) (hx:Ext w w') : tA n w' lo F L x p Ei wR L1 :=
 ⟨h.own.ext hx,h.lt,h.yy,h.key,h.sep,h.Fe,h.small,Nat.le_trans h.size hx.size⟩
set_option maxHeartbeats 8000000 in
theorem yA (Z m:fe) (cp:Int) (li lv:fe) (L:List aJ) (ls:List bP) (x:aJ) (y:bP) (p:Int) (F:World→Prop) (b1:Nat) (w w0:World) (hw:Ext w w0) (Al:w.heap.size≤b1) (au:aU w0 b1 41 (bl ⟨Z,m,cp,li,lv⟩)) (hl:c8 w0 w.heap.size li ls L) (hk:r9 y x) (Gg:y.aw = .nil) (I4:x.aw=[])
 (BV:vV ls) (hs:zp L) (hn:(li.n+1)*48≤140737488355328) (Df:∀ l∈L,l.aw.length≤1000) (k8:AA F w0) (AB:∀ (w w':World) (row:Option Nat),w.grownBy w' row→(∀ k,row=some k→k=b1∨aX li.A li.c=some k∨w0.heap.size≤k)→F w→F w')
 (Ej:∀ (i:Nat) (hi:i<ls.length) (w w':World),w.grownBy w' (aX ls[i].aw.A ls[i].aw.c)→F w→F w') :
 kt Tryz.prog 112 [.pointer (some ⟨b1,0,none⟩),.agg (bg y).toArray,.int .i64 p] w0 fun v w'=>Ext w w'∧F w' ∧ ∃ Az zm,aU w' b1 41 (bl ⟨Z,m,cp,Az,lv⟩)∧c8 w' w.heap.size Az zm (eW L ⟨x.dq,x.ay,x.Ty,cm L x++[p]⟩)∧si w0.heap.size li ls Az zm:=by
 refine fy Tryz.func112 rfl Tryz.ntmps112 rfl ?_;have HJ:du x ⟨x.dq,x.ay,x.Ty,cm L x++[p]⟩:=⟨rfl,rfl,rfl⟩
 obtain ⟨Gh,Gi⟩:=mr (L:=L) HJ;refine CW.seq (CW.region (SW.box rfl rfl fun b4 w1 ai iL bA => ?_));have nV:w.heap.size≤b4:=Nat.le_trans hw.size iL
 have Dg:=hl.row.lt_size
 have Dh:∀ z∈ls,∀ g,ob z.aw=some g→g<w0.heap.size:=fun z hz g e=>by
  obtain ⟨j,hj,rfl⟩:=List.getElem_of_mem hz;exact (hl.each.get j hj (by rw [← hl.each.len];exact hj)).cw.lt_size g e
 (replace hw:=Ext.trans hw ai;replace au:=au.ext ai;replace hl:=hl.ext ai;replace k8:=k8.ext ai);obtain ⟨l1,l2⟩:=hl.rd.len;obtain ⟨q,hq⟩ : ∃ q,ck L x=q:=⟨_,rfl⟩
 have cL:∀ w',oU w' li ls L→a9 Tryz.prog 113 [.agg (bl ⟨Z,m,cp,li,lv⟩).toArray,.agg (bg y).toArray] w' fun v _=>v = .tuple #[.int .i64 (aQ L x:Int),.bool q]:=fun w' h=>by
  have:=q9 ⟨Z,m,cp,li,lv⟩ L ls x y w' h hk (by simp only;omega)
  rwa [hq] at this
 cases q
 ·have cG:=ev L x;have Ff:aQ L x≤ls.length:=by omega
  refine Wz ?_;(apply CW.aM mixed;(· kernel_rfl);rotate_left;intro w1 ab;replace hw:=Ext.trans hw ab;replace au:=au.ext ab;replace bA:=bA.ext ab;replace hl:=hl.ext ab;replace k8:=k8.ext ab;clear ab;rotate_right);repeat' (first|refine Wz ?_|(refine CW.cU rfl ?_)|refine SW.bf rfl rfl (fun w1 ab=>(cL _ (hl.rd.ext ab))) ?_|exact SW.br rfl)
  clear cL;obtain ⟨yc,yz,yt,yp⟩:=y;simp only at Gg;subst Gg;refine SW.bT (i:=3) bA rfl rfl rfl rfl fun w3 jn ur => ?_
  replace hw:=hw.own nV ur;replace au:=au.aD (bA.gr ur) rfl;have HK:=AB _ _ _ ur (fun k e=>by cases e;exact .inr (.inr iL)) k8.at_;replace k8:=k8.to HK;replace hl:c8 w3 w.heap.size li ls L:=⟨hl.row.grown ur (.inr (fun e=>by have:=Dg _ e;omega)),hl.each.mono fun _ _ h=>h.aD (bA.gr ur) rfl⟩;replace bA:aU w3 b4 142 (bg ⟨yc,yz,yt,.nil⟩):=jn;clear jn;refine Wz ?_;have Gj:=hl.row.sl.base;refine CW.qf 8 11 (fun _=>True) mixed (by kernel_rfl) fun w1 ab bd => ?_
  replace hw:=Ext.trans hw ab;replace au:=au.ext ab;replace bA:=bA.ext ab;replace hl:=hl.ext ab;replace k8:=k8.ext ab;clear ab;refine SF.js 0 [] bd rfl (by kernel_rfl) (by kernel_rfl) (by kernel_rfl) (cK rfl) (fun w2 hS=>cK rfl) rfl ?_;refine SF.take 1 [4,3,2] [] bd rfl (by kernel_rfl) (by kernel_rfl) (by kernel_rfl) ?_;repeat (refine SW.pure rfl rfl ?_)
  refine SW.aq ?_;refine SF.take 2 [4,3] [] bd rfl (by kernel_rfl) (by kernel_rfl) (by kernel_rfl) ?_;repeat ((show SW _ _ _ _ (⟨_,Op.nilCheck _,_,_,_,none⟩::_) _ _;refine SW.st (bK rfl) rfl ?_))
  refine SW.aq ?_;refine SF.take 3 [4] [] bd rfl (by kernel_rfl) (by kernel_rfl) (by kernel_rfl) ?_;repeat ((show SW _ _ _ _ (⟨_,Op.fieldAddr _ _ _,_,_,_,none⟩::_) _ _;refine SW.st (aP rfl) rfl ?_))
  refine SW.aq ?_;refine SF.take 4 [] [] bd rfl (by kernel_rfl) (by kernel_rfl) (by kernel_rfl) ?_;repeat ((show SW _ _ _ _ (⟨_,Op.load _ _,_,_,_,none⟩::_) _ _;refine SW.st (az rfl (au.cell (i:=3) (v := .slice li.A li.n li.c) rfl)) rfl ?_))
  refine SW.aq ?_;refine SF.take 5 [] [] bd rfl (by kernel_rfl) (by kernel_rfl) (by kernel_rfl) ?_;repeat (refine SW.pure rfl rfl ?_)
  refine SW.aq ?_;refine SF.take 6 [7] [] bd rfl (by kernel_rfl) (by kernel_rfl) (by kernel_rfl) ?_;repeat ((show SW _ _ _ _ (⟨_,Op.load _ _,_,_,_,none⟩::_) _ _;refine SW.st (aS rfl rfl ((fun _ _=>bA.cell))) rfl ?_))
  refine SW.aq ?_;refine SF.one 7 rfl (by kernel_rfl) rfl ?_;refine SW.bW rfl rfl rfl rfl rfl fun b w4 ai hb hB => ?_
  have tB:w0.heap.size≤w4.heap.size:=Nat.le_trans (Nat.le_of_lt (Nat.lt_of_le_of_lt iL bA.lt)) ai.size
  have Fg:aX li.A li.c≠some b:=fun e=>by have:=hl.row.lt_size _ e;omega
  (replace hw:=Ext.trans hw ai;replace au:=au.ext ai;replace hl:=hl.ext ai;replace k8:=k8.ext ai);refine SW.nil (ae.sf ai ?_);refine SF.turn rfl (by kernel_rfl) rfl ?_;refine SW.ie rfl rfl (pL li.A li.n li.c w.heap.size ls _ hl.row (aQ L x) (by omega) ⟨yc,yz,yt,.nil⟩ b hB Fg hn hw.size) fun v w5 hv => ?_
  obtain ⟨A2,c2,rfl,nu,hg,mP⟩:=hv;have hG:=hl.row.gr hg;have hS:True:=trivial
  replace hw:=aK hw hg (Nat.le_refl _) hl.row.aN;have Di:=AB _ _ _ hg (fun k e => .inr (.inl e)) k8.at_;replace k8:=k8.to Di;replace au:=au.aD hG rfl;have Ek:=(hl.each.mono fun _ _ h=>h.aD hG rfl).aW (i:=aQ L x) (x:=⟨yc,yz,yt,.nil⟩) (y:=⟨x.dq,x.ay,x.Ty,[]⟩) (by omega) ⟨hk.1,hk.2.1,hk.2.2,Own.er _ _ _ _ _ _⟩;refine SW.nil (ae.sg hS ?_);refine SG.one 9 rfl (by kernel_rfl) rfl ?_;repeat ((show SW _ _ _ _ (⟨_,Op.nilCheck _,_,_,_,none⟩::_) _ _;refine SW.st (bK rfl) rfl ?_))
  refine SW.nil (ae.sg hS ?_);refine SG.one 10 rfl (by kernel_rfl) rfl ?_;repeat ((show SW _ _ _ _ (⟨_,Op.fieldAddr _ _ _,_,_,_,none⟩::_) _ _;refine SW.st (aP rfl) rfl ?_))
  refine SW.nil (ae.sg hS ?_);refine SG.last rfl (by kernel_rfl) (by kernel_rfl) ?_;refine SW.bT (i:=3) au rfl rfl rfl rfl fun w6 wA nR => ?_
  have qz:=au.gr nR;have Fh:w0.heap.size≤w6.heap.size:=Nat.le_trans tB (Nat.le_trans hg.size nR.size)
  have Dj:=mP;replace hw:=hw.own Al nR;have Dk:=AB _ _ _ nR (fun k e=>by cases e;exact .inl rfl) k8.at_;replace k8:=k8.to Dk;replace nu:=nu.aD qz rfl;replace Ek:=Ek.mono fun _ _ h=>h.aD qz rfl
  replace au:aU w6 b1 41 (bl ⟨Z,m,cp,⟨A2,li.n+1,c2⟩,lv⟩):=wA;clear wA
  have mI:∀ h:aQ L x<(aW L (aQ L x) (⟨x.dq,x.ay,x.Ty,[]⟩ : aJ)).length,(aW L (aQ L x) (⟨x.dq,x.ay,x.Ty,[]⟩ : aJ))[aQ L x]=⟨x.dq,x.ay,x.Ty,[]⟩:=fun h=>by
   have:=jy (x:=(⟨x.dq,x.ay,x.Ty,[]⟩ : aJ)) cG
   rw [List.getElem?_eq_getElem h] at this;exact Option.some.inj this
  have yB:∀ h:aQ L x<(aW ls (aQ L x) (⟨yc,yz,yt,.nil⟩ : bP)).length,(aW ls (aQ L x) (⟨yc,yz,yt,.nil⟩ : bP))[aQ L x]=⟨yc,yz,yt,.nil⟩:=fun h=>by
   have:=jy (l:=ls) (i:=aQ L x) (x:=(⟨yc,yz,yt,.nil⟩ : bP)) (by omega)
   rw [List.getElem?_eq_getElem h] at this;exact Option.some.inj this
  have zZ:aQ L x<(aW L (aQ L x) (⟨x.dq,x.ay,x.Ty,[]⟩ : aJ)).length:=by rw [ew _ cG];omega
  have hR:tA w0.heap.size w6 w.heap.size F L x p ⟨A2,li.n+1,c2⟩ (aW ls (aQ L x) ⟨yc,yz,yt,.nil⟩) (aW L (aQ L x) ⟨x.dq,x.ay,x.Ty,[]⟩):=by
   refine ⟨⟨nu,Ek⟩,zZ,?_,?_,fun j h1 h2 iB g e => ?_,fun h1 w w' hg => ?_,?_,Fh⟩
   ·rw [mI zZ,m7 cG,m6 (by rw [← Gi];exact hq),← Gh,iy hq]
   ·rw [mI zZ];exact ⟨rfl,rfl,rfl⟩
   ·rw [yB h1] at e;cases e
   ·rw [yB h1] at hg;exact k8.all _ _ (aK (Ext.refl w) hg (Nat.le_refl _) (fun k e=>by cases e))
   ·rw [mI zZ];simp
  clear Ek nu hl bA;refine Wz ?_;have hA:=hR.own.row.sl.base;have cc:aQ L x<(li.n+1):=by have:=hR.own.rd.len;have:=hR.lt;omega
  have kR:aQ L x<((aW ls (aQ L x) (⟨yc,yz,yt,.nil⟩ : bP))).length:=by have:=hR.own.rd.len;have:=hR.lt;omega
  have dH:=hR.lt;have Ec:=hR.small;refine CW.qf 15 18 (fun w2=>aU w2 b1 41 (bl ⟨Z,m,cp,⟨A2,li.n+1,c2⟩,lv⟩)) mixed (by kernel_rfl) fun w1 ab bd => ?_
  replace hw:=Ext.trans hw ab;replace au:=au.ext ab;replace hR:=hR.ext ab;replace k8:=k8.ext ab;clear ab;refine SF.js 0 [] bd rfl (by kernel_rfl) (by kernel_rfl) (by kernel_rfl) (cK rfl) (fun w2 hS=>cK rfl) rfl ?_;refine SF.js 1 [] bd rfl (by kernel_rfl) (by kernel_rfl) (by kernel_rfl) (bK rfl) (fun w2 hS=>bK rfl) rfl ?_;refine SF.js 2 [] bd rfl (by kernel_rfl) (by kernel_rfl) (by kernel_rfl) (aP rfl) (fun w2 hS=>aP rfl) rfl ?_;refine SF.js 3 [] bd rfl (by kernel_rfl) (by kernel_rfl) (by kernel_rfl) (az rfl (au.cell (i:=3) (v := .slice A2 (li.n+1) c2) rfl)) (fun w2 hS=>az rfl (hS.cell (i:=3) (v := .slice A2 (li.n+1) c2) rfl)) rfl ?_;refine SF.js 4 [] bd rfl (by kernel_rfl) (by kernel_rfl) (by kernel_rfl) (cK rfl) (fun w2 hS=>cK rfl) rfl ?_;refine SF.take 5 [12,11,10,8,7,6] [] bd rfl (by kernel_rfl) (by kernel_rfl) (by kernel_rfl) ?_;repeat (refine SW.pure rfl rfl ?_)
  refine SW.aq ?_;refine SF.take 6 [12,11,10,8,7] [] bd rfl (by kernel_rfl) (by kernel_rfl) (by kernel_rfl) ?_;repeat ((show SW _ _ _ _ (⟨_,Op.nilCheck _,_,_,_,none⟩::_) _ _;refine SW.st (bK rfl) rfl ?_))
  refine SW.aq ?_;refine SF.take 7 [12,11,10,8] [] bd rfl (by kernel_rfl) (by kernel_rfl) (by kernel_rfl) ?_;repeat ((show SW _ _ _ _ (⟨_,Op.fieldAddr _ _ _,_,_,_,none⟩::_) _ _;refine SW.st (aP rfl) rfl ?_))
  refine SW.aq ?_;refine SF.take 8 [12,11,10] [] bd rfl (by kernel_rfl) (by kernel_rfl) (by kernel_rfl) ?_;repeat ((show SW _ _ _ _ (⟨_,Op.load _ _,_,_,_,none⟩::_) _ _;refine SW.st (az rfl (au.cell (i:=3) (v := .slice A2 (li.n+1) c2) rfl)) rfl ?_))
  refine SW.aq ?_;refine SF.take 9 [12,11,10] [] bd rfl (by kernel_rfl) (by kernel_rfl) (by kernel_rfl) ?_;repeat (refine SW.pure rfl rfl ?_)
  refine SW.aq ?_;refine SF.take 10 [12,11] [] bd rfl (by kernel_rfl) (by kernel_rfl) (by kernel_rfl) ?_;repeat ((show SW _ _ _ _ (⟨_,Op.indexAddr _ _ _,_,_,_,none⟩::_) _ _;refine SW.st (bH rfl rfl (by assumption) (by omega)) rfl ?_))
  refine SW.aq ?_;refine SF.take 11 [12] [] bd rfl (by kernel_rfl) (by kernel_rfl) (by kernel_rfl) ?_;repeat ((show SW _ _ _ _ (⟨_,Op.fieldAddr _ _ _,_,_,_,none⟩::_) _ _;refine SW.st (aP rfl) rfl ?_))
  refine SW.aq ?_;refine SF.take 12 [] [] bd rfl (by kernel_rfl) (by kernel_rfl) (by kernel_rfl) ?_;repeat ((show SW _ _ _ _ (⟨_,Op.load _ _,_,_,_,none⟩::_) _ _;refine SW.st (az rfl (hR.own.row.sl.fE cc (j:=3) (u := .slice ((aW ls (aQ L x) (⟨yc,yz,yt,.nil⟩ : bP)))[aQ L x].aw.A ((aW ls (aQ L x) (⟨yc,yz,yt,.nil⟩ : bP)))[aQ L x].aw.n ((aW ls (aQ L x) (⟨yc,yz,yt,.nil⟩ : bP)))[aQ L x].aw.c) rfl)) rfl ?_))
  refine SW.aq ?_;refine SF.take 13 [14] [] bd rfl (by kernel_rfl) (by kernel_rfl) (by kernel_rfl) ?_;repeat (refine SW.pure rfl rfl ?_)
  refine SW.aq ?_;refine SF.one 14 rfl (by kernel_rfl) rfl ?_;refine SW.bW rfl rfl rfl rfl rfl fun b w4 ai hb hB => ?_
  (replace hw:=Ext.trans hw ai;replace au:=au.ext ai;replace hR:=hR.ext ai;replace k8:=k8.ext ai);have BW:w0.heap.size≤w4.heap.size:=hR.size
  refine SW.nil (ae.sf ai ?_);refine SF.turn rfl (by kernel_rfl) rfl ?_;have sj:=hR.own.each.get (aQ L x) kR dH;have kz:=sj.cw;have Cp:=kz.sl.len;refine SW.vM kz (aU.kf (enc:=bm) hB) hw.size (by decide) rfl rfl rfl (by omega) (by omega) fun A3 c3 w5 e8 hg yC => ?_
  have hS:=au.aD (kz.gr hg) rfl;have ez:=hR.own.row.aD (kz.gr hg) rfl;have Di:=hR.Fe kR _ _ hg k8.at_;replace hw:=aK hw hg (Nat.le_refl _) kz.aN;refine SW.nil (ae.sg hS ?_);refine SG.one 16 rfl (by kernel_rfl) rfl ?_;repeat ((show SW _ _ _ _ (⟨_,Op.indexAddr _ _ _,_,_,_,none⟩::_) _ _;refine SW.st (bH rfl rfl (by assumption) (by omega)) rfl ?_))
  refine SW.nil (ae.sg hS ?_);refine SG.one 17 rfl (by kernel_rfl) rfl ?_;repeat ((show SW _ _ _ _ (⟨_,Op.fieldAddr _ _ _,_,_,_,none⟩::_) _ _;refine SW.st (aP rfl) rfl ?_))
  refine SW.nil (ae.sg hS ?_);refine SG.last rfl (by kernel_rfl) (by kernel_rfl) ?_;refine SW.jh (aQ L x) 3 ⟨((aW ls (aQ L x) (⟨yc,yz,yt,.nil⟩ : bP)))[aQ L x].dq,((aW ls (aQ L x) (⟨yc,yz,yt,.nil⟩ : bP)))[aQ L x].ay,((aW ls (aQ L x) (⟨yc,yz,yt,.nil⟩ : bP)))[aQ L x].Ty,⟨A3,((aW ls (aQ L x) (⟨yc,yz,yt,.nil⟩ : bP)))[aQ L x].aw.n+1,c3⟩⟩ ez rfl rfl rfl cc (by decide) rfl rfl fun w6 gi nR => ?_
  have qz:=ez.gr nR;have Dk:=AB _ _ _ nR (fun k e=>by rcases mP k e with h|h;exact .inr (.inl h);exact .inr (.inr (Nat.le_trans tB h))) Di;replace hw:=aK hw nR (Nat.le_refl _) ez.aN;refine Wz ?_;refine ae.wk rfl ⟨_,rfl,hw,Dk,⟨A2,li.n+1,c2⟩,((aW ls (aQ L x) (⟨yc,yz,yt,.nil⟩ : bP))).set (aQ L x) ⟨((aW ls (aQ L x) (⟨yc,yz,yt,.nil⟩ : bP)))[aQ L x].dq,((aW ls (aQ L x) (⟨yc,yz,yt,.nil⟩ : bP)))[aQ L x].ay,((aW ls (aQ L x) (⟨yc,yz,yt,.nil⟩ : bP)))[aQ L x].Ty,⟨A3,((aW ls (aQ L x) (⟨yc,yz,yt,.nil⟩ : bP)))[aQ L x].aw.n+1,c3⟩⟩,hS.aD (b:=b1) (t':=41) qz rfl,?_⟩
  have Fi:si w0.heap.size li ls ⟨A2,li.n+1,c2⟩ ((aW ls (aQ L x) (⟨yc,yz,yt,.nil⟩ : bP)).set (aQ L x) ⟨((aW ls (aQ L x) (⟨yc,yz,yt,.nil⟩ : bP)))[aQ L x].dq,((aW ls (aQ L x) (⟨yc,yz,yt,.nil⟩ : bP)))[aQ L x].ay,((aW ls (aQ L x) (⟨yc,yz,yt,.nil⟩ : bP)))[aQ L x].Ty,⟨A3,((aW ls (aQ L x) (⟨yc,yz,yt,.nil⟩ : bP)))[aQ L x].aw.n+1,c3⟩⟩):=by
   rw [m7 Ff];refine si.ins BV Dh (fun g e => ?_) (fun k e=>(Dj k e).imp id (fun h=>Nat.le_trans tB h));rcases yC g e with h|h
   ·rw [yB kR] at h;cases h
   ·exact Nat.le_trans BW h
  refine ⟨?_,Fi⟩;rw [← hR.yy];refine ⟨gi,dQ.setAt (R:=j4 _ w.heap.size) hR.own.each ⟨sj.cpu.trans hR.key.1,sj.fL.trans hR.key.2.1,sj.ty.trans hR.key.2.2,e8.aD qz rfl⟩ fun j h1 h2 iB ho=>⟨ho.cpu,ho.fL,ho.ty,?_⟩⟩;refine (ho.cw.grown hg ?_).aD qz rfl;cases eo:aX ((aW ls (aQ L x) (⟨yc,yz,yt,.nil⟩ : bP)))[j].aw.A ((aW ls (aQ L x) (⟨yc,yz,yt,.nil⟩ : bP)))[j].aw.c with
  | none=>exact .inl rfl
  | some g =>
    right;intro e;exact hR.sep j kR h1 iB g e.symm eo
 ·obtain ⟨cG,pD⟩:=ik hq;refine Wz ?_;(apply CW.aM mixed;(· kernel_rfl);rotate_left;intro w1 ab;replace hw:=Ext.trans hw ab;replace au:=au.ext ab;replace bA:=bA.ext ab;replace hl:=hl.ext ab;replace k8:=k8.ext ab;clear ab;rotate_right);repeat' (first|refine Wz ?_|(refine CW.cj rfl ?_)|refine SW.bf rfl rfl (fun w1 ab=>(cL _ (hl.rd.ext ab))) ?_|exact SW.br rfl)
  clear cL;have tB:=Nat.le_trans iL (Nat.le_of_lt bA.lt);have hR:=(⟨hl,cG,by rw [pd (by rw [← Gi];exact hq),← Gh,iw hq cG],pD,fun j h1 h2 iB g e=>BV _ _ h1 h2 (Ne.symm iB) g e,fun h1 w w' hg=>Ej _ h1 w w' hg,Df _ (List.getElem_mem cG),tB⟩ : tA w0.heap.size _ w.heap.size F L x p li ls L);clear hl;have hA:=hR.own.row.sl.base;have cc:aQ L x<li.n:=by have:=hR.own.rd.len;have:=hR.lt;omega
  have kR:aQ L x<(ls).length:=by have:=hR.own.rd.len;have:=hR.lt;omega
  have dH:=hR.lt;have Ec:=hR.small;refine CW.qf 15 18 (fun w2=>aU w2 b1 41 (bl ⟨Z,m,cp,li,lv⟩)) mixed (by kernel_rfl) fun w1 ab bd => ?_
  replace hw:=Ext.trans hw ab;replace au:=au.ext ab;replace hR:=hR.ext ab;replace k8:=k8.ext ab;clear ab;refine SF.js 0 [] bd rfl (by kernel_rfl) (by kernel_rfl) (by kernel_rfl) (cK rfl) (fun w2 hS=>cK rfl) rfl ?_;refine SF.js 1 [] bd rfl (by kernel_rfl) (by kernel_rfl) (by kernel_rfl) (bK rfl) (fun w2 hS=>bK rfl) rfl ?_;refine SF.js 2 [] bd rfl (by kernel_rfl) (by kernel_rfl) (by kernel_rfl) (aP rfl) (fun w2 hS=>aP rfl) rfl ?_;refine SF.js 3 [] bd rfl (by kernel_rfl) (by kernel_rfl) (by kernel_rfl) (az rfl (au.cell (i:=3) (v := .slice li.A li.n li.c) rfl)) (fun w2 hS=>az rfl (hS.cell (i:=3) (v := .slice li.A li.n li.c) rfl)) rfl ?_;refine SF.js 4 [] bd rfl (by kernel_rfl) (by kernel_rfl) (by kernel_rfl) (cK rfl) (fun w2 hS=>cK rfl) rfl ?_;refine SF.take 5 [12,11,10,8,7,6] [] bd rfl (by kernel_rfl) (by kernel_rfl) (by kernel_rfl) ?_;repeat (refine SW.pure rfl rfl ?_)
  refine SW.aq ?_;refine SF.take 6 [12,11,10,8,7] [] bd rfl (by kernel_rfl) (by kernel_rfl) (by kernel_rfl) ?_;repeat ((show SW _ _ _ _ (⟨_,Op.nilCheck _,_,_,_,none⟩::_) _ _;refine SW.st (bK rfl) rfl ?_))
  refine SW.aq ?_;refine SF.take 7 [12,11,10,8] [] bd rfl (by kernel_rfl) (by kernel_rfl) (by kernel_rfl) ?_;repeat ((show SW _ _ _ _ (⟨_,Op.fieldAddr _ _ _,_,_,_,none⟩::_) _ _;refine SW.st (aP rfl) rfl ?_))
  refine SW.aq ?_;refine SF.take 8 [12,11,10] [] bd rfl (by kernel_rfl) (by kernel_rfl) (by kernel_rfl) ?_;repeat ((show SW _ _ _ _ (⟨_,Op.load _ _,_,_,_,none⟩::_) _ _;refine SW.st (az rfl (au.cell (i:=3) (v := .slice li.A li.n li.c) rfl)) rfl ?_))
  refine SW.aq ?_;refine SF.take 9 [12,11,10] [] bd rfl (by kernel_rfl) (by kernel_rfl) (by kernel_rfl) ?_;repeat (refine SW.pure rfl rfl ?_)
  refine SW.aq ?_;refine SF.take 10 [12,11] [] bd rfl (by kernel_rfl) (by kernel_rfl) (by kernel_rfl) ?_;repeat ((show SW _ _ _ _ (⟨_,Op.indexAddr _ _ _,_,_,_,none⟩::_) _ _;refine SW.st (bH rfl rfl (by assumption) (by omega)) rfl ?_))
  refine SW.aq ?_;refine SF.take 11 [12] [] bd rfl (by kernel_rfl) (by kernel_rfl) (by kernel_rfl) ?_;repeat ((show SW _ _ _ _ (⟨_,Op.fieldAddr _ _ _,_,_,_,none⟩::_) _ _;refine SW.st (aP rfl) rfl ?_))
  refine SW.aq ?_;refine SF.take 12 [] [] bd rfl (by kernel_rfl) (by kernel_rfl) (by kernel_rfl) ?_;repeat ((show SW _ _ _ _ (⟨_,Op.load _ _,_,_,_,none⟩::_) _ _;refine SW.st (az rfl (hR.own.row.sl.fE cc (j:=3) (u := .slice (ls)[aQ L x].aw.A (ls)[aQ L x].aw.n (ls)[aQ L x].aw.c) rfl)) rfl ?_))
  refine SW.aq ?_;refine SF.take 13 [14] [] bd rfl (by kernel_rfl) (by kernel_rfl) (by kernel_rfl) ?_;repeat (refine SW.pure rfl rfl ?_)
  refine SW.aq ?_;refine SF.one 14 rfl (by kernel_rfl) rfl ?_;refine SW.bW rfl rfl rfl rfl rfl fun b w4 ai hb hB => ?_
  (replace hw:=Ext.trans hw ai;replace au:=au.ext ai;replace hR:=hR.ext ai;replace k8:=k8.ext ai);have BW:w0.heap.size≤w4.heap.size:=hR.size
  refine SW.nil (ae.sf ai ?_);refine SF.turn rfl (by kernel_rfl) rfl ?_;have sj:=hR.own.each.get (aQ L x) kR dH;have kz:=sj.cw;have Cp:=kz.sl.len;refine SW.vM kz (aU.kf (enc:=bm) hB) hw.size (by decide) rfl rfl rfl (by omega) (by omega) fun A3 c3 w5 e8 hg yC => ?_
  have hS:=au.aD (kz.gr hg) rfl;have ez:=hR.own.row.aD (kz.gr hg) rfl;have Di:=hR.Fe kR _ _ hg k8.at_;replace hw:=aK hw hg (Nat.le_refl _) kz.aN;refine SW.nil (ae.sg hS ?_);refine SG.one 16 rfl (by kernel_rfl) rfl ?_;repeat ((show SW _ _ _ _ (⟨_,Op.indexAddr _ _ _,_,_,_,none⟩::_) _ _;refine SW.st (bH rfl rfl (by assumption) (by omega)) rfl ?_))
  refine SW.nil (ae.sg hS ?_);refine SG.one 17 rfl (by kernel_rfl) rfl ?_;repeat ((show SW _ _ _ _ (⟨_,Op.fieldAddr _ _ _,_,_,_,none⟩::_) _ _;refine SW.st (aP rfl) rfl ?_))
  refine SW.nil (ae.sg hS ?_);refine SG.last rfl (by kernel_rfl) (by kernel_rfl) ?_;refine SW.jh (aQ L x) 3 ⟨(ls)[aQ L x].dq,(ls)[aQ L x].ay,(ls)[aQ L x].Ty,⟨A3,(ls)[aQ L x].aw.n+1,c3⟩⟩ ez rfl rfl rfl cc (by decide) rfl rfl fun w6 gi nR => ?_
  have qz:=ez.gr nR;have Dk:=AB _ _ _ nR (fun k e => .inr (.inl e)) Di;replace hw:=aK hw nR (Nat.le_refl _) ez.aN;refine Wz ?_;refine ae.wk rfl ⟨_,rfl,hw,Dk,li,(ls).set (aQ L x) ⟨(ls)[aQ L x].dq,(ls)[aQ L x].ay,(ls)[aQ L x].Ty,⟨A3,(ls)[aQ L x].aw.n+1,c3⟩⟩,hS.aD (b:=b1) (t':=41) qz rfl,?_⟩
  have Fi:si w0.heap.size li ls li ((ls).set (aQ L x) ⟨(ls)[aQ L x].dq,(ls)[aQ L x].ay,(ls)[aQ L x].Ty,⟨A3,(ls)[aQ L x].aw.n+1,c3⟩⟩):=by
   refine si.yy BV Dh kR (fun g e => ?_);rcases yC g e with h|h
   ·exact .inl h
   ·exact .inr (Nat.le_trans BW h)
  refine ⟨?_,Fi⟩;rw [← hR.yy];refine ⟨gi,dQ.setAt (R:=j4 _ w.heap.size) hR.own.each ⟨sj.cpu.trans hR.key.1,sj.fL.trans hR.key.2.1,sj.ty.trans hR.key.2.2,e8.aD qz rfl⟩ fun j h1 h2 iB ho=>⟨ho.cpu,ho.fL,ho.ty,?_⟩⟩;refine (ho.cw.grown hg ?_).aD qz rfl;cases eo:aX (ls)[j].aw.A (ls)[j].aw.c with
  | none=>exact .inl rfl
  | some g =>
    right;intro e;exact hR.sep j kR h1 iB g e.symm eo
def dV (n:ByteArray) (c:aZ) : Bool:=qx c.Names n
def ar.zero:ar:=⟨[],.zero,[]⟩
def fl (lo:Nat) (u:ar×Int) (v:Value) (w:World) : Prop := ∃ q,v = .tuple #[.agg (aH q).toArray,.int .i64 u.2]∧mW w lo q u.1
theorem fl.zero (e:Int) (lo:Nat) (w:World) : fl lo (.zero,e) (.tuple #[.agg (aH .zero).toArray,.int .i64 e]) w :=
 ⟨.zero,rfl,Own.er _ _ _ _ _ _,gl.zero w lo,⟨[],dt.nil _ _⟩⟩
theorem Heap.jT:Heap.zero.small:=by constructor<;>simp [Heap.zero]
theorem ar.jT:ar.zero.small:=⟨by simp [ar.zero],Heap.jT,by simp [ar.zero],by simp [ar.zero]⟩
end Go.Proofs.YtbidkghlpijecaaGreatDoor
