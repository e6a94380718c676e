/-
  Texts of the claim TopProcessors, part 21: what its theorem leans on.
-/
import Derived.Test.YtbidkghlpijecaaGreatDoorPackTopProcessors20
import Derived.Test.YtbidkghlpijecaaGreatDoorPackTopProcessors2
import Derived.Test.YtbidkghlpijecaaGreatDoorPackTopProcessors14
import Derived.Test.YtbidkghlpijecaaGreatDoorPackTopProcessors17
import Derived.Test.YtbidkghlpijecaaGreatDoorPackTopProcessors13
import Derived.Test.YtbidkghlpijecaaGreatDoorPackTopProcessors3
import Derived.Test.YtbidkghlpijecaaGreatDoorPackTopProcessors8
import Derived.Test.YtbidkghlpijecaaGreatDoorPackTopProcessors6
set_option linter.unusedVariables false
set_option linter.unusedSimpArgs false
namespace Go.Proofs.YtbidkghlpijecaaGreatDoor
open Go.RowKit
set_option maxHeartbeats 4000000 in
theorem Ie (a:jy) (hk:a.Kind=8) : mj eY a:=by
 intro r s lo w hO gB hI hS kq;obtain ⟨k,cpu,n,m,At,fl,nm⟩:=a;simp only at hk;subst hk;have hf:=hI.dW;have hs:=hf.small;have hM:=hI.may;refine aG Tryz.func35 rfl Tryz.ntmps35 rfl ?_;refine CW.seq (CW.region (SW.box rfl rfl fun b2 w1 hw j0 aD => ?_));have l2:=aD.lt;refine SW.box rfl rfl fun b3 w2 bF bQ ax => ?_
 have dB:w.heap.size≤b3:=Nat.le_trans hw.size bQ
 (replace hw:=Ext.trans hw bF;replace aD:=aD.ext bF);clear bF;have l3:=ax.lt;refine SW.alloc rfl fun b4 w2 bF jF bd => ?_
 have iN:w.heap.size≤b4:=Nat.le_trans hw.size jF
 (replace hw:=Ext.trans hw bF;replace aD:=aD.ext bF;replace ax:=ax.ext bF);clear bF;have l4:=bd.lt;refine SW.alloc rfl fun b5 w2 bF jj bC => ?_
 have kN:w.heap.size≤b5:=Nat.le_trans hw.size jj
 (replace hw:=Ext.trans hw bF;replace aD:=aD.ext bF;replace ax:=ax.ext bF;replace bd:=bd.ext bF);clear bF;have l5:=bC.lt;repeat' (first|refine Wy ?_|refine SW.st (aB rfl rfl ((fun _ _=>aD.cell))) rfl ?_)
 refine SW.alloc rfl fun b6 w1 ae eu aA => ?_
 skip;refine SW.ak aA rfl rfl rfl rfl (bt r) fun w2 dE hg => ?_
 have ap:=ae.own eu hg;have dl:w.heap.size≤b6:=Nat.le_trans hw.size eu
 replace hw:=Ext.trans hw ap;replace aD:=aD.ext ap;replace ax:=ax.ext ap;replace bd:=bd.ext ap;replace bC:=bC.ext ap;replace aA:=dE;clear dE ae hg ap;have l6:=aA.lt;repeat' (first|refine Wy ?_|fail);refine SW.alloc rfl fun b7 w1 ae jG bO => ?_
 skip;refine SW.ak bO rfl rfl rfl rfl (kr ⟨0,0,.nil⟩) fun w2 bB hg => ?_
 have ap:=ae.own jG hg;have jH:w.heap.size≤b7:=Nat.le_trans hw.size jG
 replace hw:=Ext.trans hw ap;replace aD:=aD.ext ap;replace ax:=ax.ext ap;replace bd:=bd.ext ap;replace bC:=bC.ext ap;replace aA:=aA.ext ap;replace bO:=bB;clear bB ae hg ap;have J1:b2≠b6:=by omega
 have J2:b4≠b6:=by omega
 have Ra:b2≠b4:=by omega
 have BG:b5≠b7:=by omega
 clear l2 l3 l4 l5 l6;repeat' (first|refine Wy ?_|refine SW.st (aB rfl rfl ((fun _ _=>aD.cell))) rfl ?_|refine SW.st (aq rfl (ax.cell (i:=1) (v := .int .i64 cpu) rfl)) rfl ?_|refine SW.st (aq rfl (ax.cell (i:=2) (v := .int .i64 n) rfl)) rfl ?_|refine SW.st (aq rfl (ax.cell (i:=0) (v := .int .i64 8) rfl)) rfl ?_)
 refine SW.call rfl rfl (Dq r s cpu n _ (hO.rd.ext hw) hf (hS.ext hw) (kq.ext hw)) fun v w7 j4 hv => ?_
 obtain ⟨u,hu,q,rfl,hH⟩:=hv;replace hH:=hH.low (Nat.le_trans gB hw.size);(replace hw:=Ext.trans hw j4;replace aD:=aD.ext j4;replace ax:=ax.ext j4;replace bd:=bd.ext j4;replace bC:=bC.ext j4;replace aA:=aA.ext j4;replace bO:=bO.ext j4);clear j4;have cJ:=hO.ext hw;have hA:=nO.lh (s:=s) (a:=⟨8,cpu,n,m,At,fl,nm⟩) rfl hu;obtain ⟨u1,N,e⟩:=u;simp only at hA hH ⊢;by_cases he:e=0
 ·rw [uU,if_pos he,he] at hA;rw [he];repeat' (first|refine Wy ?_|fail);refine SW.ak aA rfl rfl rfl rfl (bt q) fun xA dE hg => ?_
  have hG:=aA.gr hg;replace aD:=aD.grown hg (by simpa using J1);replace bd:=bd.grown hg (by simpa using J2);replace hw:=hw.own dl hg;(replace ax:=ax.aw hG rfl;replace bC:=bC.aw hG rfl;replace bO:=bO.aw hG rfl;replace cJ:=cJ.aw hG rfl;replace hH:=hH.aw hG rfl);replace aA:=dE;clear dE hG hg;repeat' (first|refine Wy ?_|fail);refine SW.bz (i:=1) bO rfl rfl rfl rfl fun xh bB hg => ?_
  have hG:=bO.gr hg;replace bC:=bC.grown hg (by simpa using BG);replace hw:=hw.own jH hg;(replace aD:=aD.aw hG rfl;replace ax:=ax.aw hG rfl;replace bd:=bd.aw hG rfl;replace aA:=aA.aw hG rfl;replace cJ:=cJ.aw hG rfl;replace hH:=hH.aw hG rfl);replace bO:aW _ b7 55 (dm ⟨0,N,.nil⟩):=bB;clear bB hG hg;repeat' (first|refine Wy ?_|fail);refine SW.bz (i:=0) bO rfl rfl rfl rfl fun xh bB hg => ?_
  have hG:=bO.gr hg;replace bC:=bC.grown hg (by simpa using BG);replace hw:=hw.own jH hg;(replace aD:=aD.aw hG rfl;replace ax:=ax.aw hG rfl;replace bd:=bd.aw hG rfl;replace aA:=aA.aw hG rfl;replace cJ:=cJ.aw hG rfl;replace hH:=hH.aw hG rfl);replace bO:aW _ b7 55 (dm ⟨0,N,.nil⟩):=bB;clear bB hG hg;repeat' (first|refine Wy ?_|refine SW.st (aq rfl (bO.cell (i:=0) (v := .int .i64 0) rfl)) rfl ?_)
  refine CW.iL 2 3 (fun w2=>aW w2 b7 55 (dm ⟨0,N,.nil⟩)) mixed (by kernel_rfl) fun w1 ae aJ => ?_
  replace hw:=Ext.trans hw ae;replace aD:=aD.ext ae;replace bd:=bd.ext ae;replace bC:=bC.ext ae;replace aA:=aA.ext ae;replace bO:=bO.ext ae;replace cJ:=cJ.ext ae;replace hH:=hH.ext ae;clear ae;refine SF.take 0 [] [] aJ rfl (by kernel_rfl) (by kernel_rfl) (by kernel_rfl) ?_;repeat ((show SW _ _ _ _ (⟨_,Op.load _ _,_,_,_,none⟩::_) _ _;refine SW.st (aB rfl rfl ((fun _ _=>aA.cell))) rfl ?_))
  refine SW.ai ?_;refine SF.eG 1 [] aJ rfl (by kernel_rfl) (by kernel_rfl) (by kernel_rfl) (aB rfl rfl ((fun _ _=>bO.cell))) (fun w2 hS=>aB rfl rfl ((fun _ _=>hS.cell))) rfl ?_;refine SF.turn rfl (by kernel_rfl) rfl ?_;refine SW.ak bd rfl rfl rfl rfl (bt q) fun w8 dZ hg => ?_
  have hG:=bd.gr hg;replace hw:=hw.own iN hg;(replace bC:=bC.aw hG rfl;replace bO:=bO.aw hG rfl;replace cJ:=cJ.aw hG rfl;replace hH:=hH.aw hG rfl);have hS:=bO;refine SW.nil (ah.sg hS ?_);refine SG.last rfl (by kernel_rfl) (by kernel_rfl) ?_;refine SW.ak bC rfl rfl rfl rfl (kr ⟨0,N,.nil⟩) fun w9 fg hg => ?_
  have hG:=bC.gr hg;replace hw:=hw.own kN hg;(replace dZ:=dZ.aw hG rfl;replace cJ:=cJ.aw hG rfl;replace hH:=hH.aw hG rfl);repeat' (first|refine Wy ?_|fail);exact ah.tQ rfl rfl rfl dZ fg rfl rfl ⟨_,rfl,hw,_,hA,q,⟨0,N,.nil⟩,rfl,hH,mx.plain _ _ _ _⟩
 ·rw [uU,if_neg he] at hA;repeat' (first|refine Wy ?_|fail);refine SW.ak aA rfl rfl rfl rfl (bt q) fun xA dE hg => ?_
  have hG:=aA.gr hg;replace aD:=aD.grown hg (by simpa using J1);replace bd:=bd.grown hg (by simpa using J2);replace hw:=hw.own dl hg;(replace ax:=ax.aw hG rfl;replace bC:=bC.aw hG rfl;replace bO:=bO.aw hG rfl;replace cJ:=cJ.aw hG rfl;replace hH:=hH.aw hG rfl);replace aA:=dE;clear dE hG hg;repeat' (first|refine Wy ?_|fail);refine SW.bz (i:=1) bO rfl rfl rfl rfl fun xh bB hg => ?_
  have hG:=bO.gr hg;replace bC:=bC.grown hg (by simpa using BG);replace hw:=hw.own jH hg;(replace aD:=aD.aw hG rfl;replace ax:=ax.aw hG rfl;replace bd:=bd.aw hG rfl;replace aA:=aA.aw hG rfl;replace cJ:=cJ.aw hG rfl;replace hH:=hH.aw hG rfl);replace bO:aW _ b7 55 (dm ⟨0,N,.nil⟩):=bB;clear bB hG hg;repeat' (first|refine Wy ?_|fail);refine SW.bz (i:=0) bO rfl rfl rfl rfl fun xh bB hg => ?_
  have hG:=bO.gr hg;replace bC:=bC.grown hg (by simpa using BG);replace hw:=hw.own jH hg;(replace aD:=aD.aw hG rfl;replace ax:=ax.aw hG rfl;replace bd:=bd.aw hG rfl;replace aA:=aA.aw hG rfl;replace cJ:=cJ.aw hG rfl;replace hH:=hH.aw hG rfl);replace bO:aW _ b7 55 (dm ⟨e,N,.nil⟩):=bB;clear bB hG hg;repeat' (first|refine Wy ?_|refine SW.st (aq rfl (bO.cell (i:=0) (v := .int .i64 e) rfl)) rfl ?_)
  refine CW.iL 2 3 (fun w2=>aW w2 b7 55 (dm ⟨e,N,.nil⟩)) mixed (by kernel_rfl) fun w1 ae aJ => ?_
  replace hw:=Ext.trans hw ae;replace aD:=aD.ext ae;replace bd:=bd.ext ae;replace bC:=bC.ext ae;replace aA:=aA.ext ae;replace bO:=bO.ext ae;replace cJ:=cJ.ext ae;replace hH:=hH.ext ae;clear ae;refine SF.take 0 [] [] aJ rfl (by kernel_rfl) (by kernel_rfl) (by kernel_rfl) ?_;repeat ((show SW _ _ _ _ (⟨_,Op.load _ _,_,_,_,none⟩::_) _ _;refine SW.st (aB rfl rfl ((fun _ _=>aD.cell))) rfl ?_))
  refine SW.ai ?_;refine SF.eG 1 [] aJ rfl (by kernel_rfl) (by kernel_rfl) (by kernel_rfl) (aB rfl rfl ((fun _ _=>bO.cell))) (fun w2 hS=>aB rfl rfl ((fun _ _=>hS.cell))) rfl ?_;refine SF.turn rfl (by kernel_rfl) rfl ?_;refine SW.ak bd rfl rfl rfl rfl (bt r) fun w8 dZ hg => ?_
  have hG:=bd.gr hg;replace hw:=hw.own iN hg;(replace bC:=bC.aw hG rfl;replace bO:=bO.aw hG rfl;replace cJ:=cJ.aw hG rfl;replace hH:=hH.aw hG rfl);have hS:=bO;refine SW.nil (ah.sg hS ?_);refine SG.last rfl (by kernel_rfl) (by kernel_rfl) ?_;refine SW.ak bC rfl rfl rfl rfl (kr ⟨e,N,.nil⟩) fun w9 fg hg => ?_
  have hG:=bC.gr hg;replace hw:=hw.own kN hg;(replace dZ:=dZ.aw hG rfl;replace cJ:=cJ.aw hG rfl;replace hH:=hH.aw hG rfl);repeat' (first|refine Wy ?_|fail);exact ah.tQ rfl rfl rfl dZ fg rfl rfl ⟨_,rfl,hw,_,hA,r,⟨e,N,.nil⟩,rfl,cJ,mx.plain _ _ _ _⟩
set_option maxHeartbeats 4000000 in
theorem Ig (a:jy) (hk:a.Kind=9) (KM : -9223372036854775808≤a.At∧a.At≤9223372036854775807) : mj eY a:=by
 intro r s lo w hO gB hI hS kq;obtain ⟨k,cpu,n,m,At,fl,nm⟩:=a;simp only at hk KM;subst hk;have hf:=hI.dW;have hs:=hf.small;have hM:=hI.may;refine aG Tryz.func35 rfl Tryz.ntmps35 rfl ?_;refine CW.seq (CW.region (SW.box rfl rfl fun b2 w1 hw j0 aD => ?_));have l2:=aD.lt;refine SW.box rfl rfl fun b3 w2 bF bQ ax => ?_
 have dB:w.heap.size≤b3:=Nat.le_trans hw.size bQ
 (replace hw:=Ext.trans hw bF;replace aD:=aD.ext bF);clear bF;have l3:=ax.lt;refine SW.alloc rfl fun b4 w2 bF jF bd => ?_
 have iN:w.heap.size≤b4:=Nat.le_trans hw.size jF
 (replace hw:=Ext.trans hw bF;replace aD:=aD.ext bF;replace ax:=ax.ext bF);clear bF;have l4:=bd.lt;refine SW.alloc rfl fun b5 w2 bF jj bC => ?_
 have kN:w.heap.size≤b5:=Nat.le_trans hw.size jj
 (replace hw:=Ext.trans hw bF;replace aD:=aD.ext bF;replace ax:=ax.ext bF;replace bd:=bd.ext bF);clear bF;have l5:=bC.lt;repeat' (first|refine Wy ?_|refine SW.st (aB rfl rfl ((fun _ _=>aD.cell))) rfl ?_)
 refine SW.alloc rfl fun b6 w1 ae eu aA => ?_
 skip;refine SW.ak aA rfl rfl rfl rfl (bt r) fun w2 dE hg => ?_
 have ap:=ae.own eu hg;have dl:w.heap.size≤b6:=Nat.le_trans hw.size eu
 replace hw:=Ext.trans hw ap;replace aD:=aD.ext ap;replace ax:=ax.ext ap;replace bd:=bd.ext ap;replace bC:=bC.ext ap;replace aA:=dE;clear dE ae hg ap;have l6:=aA.lt;repeat' (first|refine Wy ?_|fail);refine SW.alloc rfl fun b7 w1 ae jG bO => ?_
 skip;refine SW.ak bO rfl rfl rfl rfl (kr ⟨0,0,.nil⟩) fun w2 bB hg => ?_
 have ap:=ae.own jG hg;have jH:w.heap.size≤b7:=Nat.le_trans hw.size jG
 replace hw:=Ext.trans hw ap;replace aD:=aD.ext ap;replace ax:=ax.ext ap;replace bd:=bd.ext ap;replace bC:=bC.ext ap;replace aA:=aA.ext ap;replace bO:=bB;clear bB ae hg ap;have J1:b2≠b6:=by omega
 have J2:b4≠b6:=by omega
 have Ra:b2≠b4:=by omega
 have BG:b5≠b7:=by omega
 clear l2 l3 l4 l5 l6;repeat' (first|refine Wy ?_|refine SW.st (aB rfl rfl ((fun _ _=>aD.cell))) rfl ?_|refine SW.st (aq rfl (ax.cell (i:=1) (v := .int .i64 cpu) rfl)) rfl ?_|refine SW.st (aq rfl (ax.cell (i:=4) (v := .int .i64 At) rfl)) rfl ?_|refine SW.st (aq rfl (ax.cell (i:=0) (v := .int .i64 9) rfl)) rfl ?_)
 refine SW.call rfl rfl (FR r s cpu At _ (hO.rd.ext hw) hf KM (hS.ext hw)) fun v w7 j4 hv => ?_
 obtain ⟨u,hu,q,rfl,hH⟩:=hv;replace hH:=hH.low (Nat.le_trans gB hw.size);(replace hw:=Ext.trans hw j4;replace aD:=aD.ext j4;replace ax:=ax.ext j4;replace bd:=bd.ext j4;replace bC:=bC.ext j4;replace aA:=aA.ext j4;replace bO:=bO.ext j4);clear j4;have cJ:=hO.ext hw;have hA:=nO.rQ (s:=s) (a:=⟨9,cpu,n,m,At,fl,nm⟩) rfl hu;obtain ⟨u1,e⟩:=u;simp only at hA hH ⊢;by_cases he:e=0
 ·rw [uU,if_pos he,he] at hA;rw [he];repeat' (first|refine Wy ?_|fail);refine SW.ak aA rfl rfl rfl rfl (bt q) fun xA dE hg => ?_
  have hG:=aA.gr hg;replace aD:=aD.grown hg (by simpa using J1);replace bd:=bd.grown hg (by simpa using J2);replace hw:=hw.own dl hg;(replace ax:=ax.aw hG rfl;replace bC:=bC.aw hG rfl;replace bO:=bO.aw hG rfl;replace cJ:=cJ.aw hG rfl;replace hH:=hH.aw hG rfl);replace aA:=dE;clear dE hG hg;repeat' (first|refine Wy ?_|fail);refine SW.bz (i:=0) bO rfl rfl rfl rfl fun xh bB hg => ?_
  have hG:=bO.gr hg;replace bC:=bC.grown hg (by simpa using BG);replace hw:=hw.own jH hg;(replace aD:=aD.aw hG rfl;replace ax:=ax.aw hG rfl;replace bd:=bd.aw hG rfl;replace aA:=aA.aw hG rfl;replace cJ:=cJ.aw hG rfl;replace hH:=hH.aw hG rfl);replace bO:aW _ b7 55 (dm ⟨0,0,.nil⟩):=bB;clear bB hG hg;repeat' (first|refine Wy ?_|refine SW.st (aq rfl (bO.cell (i:=0) (v := .int .i64 0) rfl)) rfl ?_)
  refine CW.iL 2 3 (fun w2=>aW w2 b7 55 (dm ⟨0,0,.nil⟩)) mixed (by kernel_rfl) fun w1 ae aJ => ?_
  replace hw:=Ext.trans hw ae;replace aD:=aD.ext ae;replace bd:=bd.ext ae;replace bC:=bC.ext ae;replace aA:=aA.ext ae;replace bO:=bO.ext ae;replace cJ:=cJ.ext ae;replace hH:=hH.ext ae;clear ae;refine SF.take 0 [] [] aJ rfl (by kernel_rfl) (by kernel_rfl) (by kernel_rfl) ?_;repeat ((show SW _ _ _ _ (⟨_,Op.load _ _,_,_,_,none⟩::_) _ _;refine SW.st (aB rfl rfl ((fun _ _=>aA.cell))) rfl ?_))
  refine SW.ai ?_;refine SF.eG 1 [] aJ rfl (by kernel_rfl) (by kernel_rfl) (by kernel_rfl) (aB rfl rfl ((fun _ _=>bO.cell))) (fun w2 hS=>aB rfl rfl ((fun _ _=>hS.cell))) rfl ?_;refine SF.turn rfl (by kernel_rfl) rfl ?_;refine SW.ak bd rfl rfl rfl rfl (bt q) fun w8 dZ hg => ?_
  have hG:=bd.gr hg;replace hw:=hw.own iN hg;(replace bC:=bC.aw hG rfl;replace bO:=bO.aw hG rfl;replace cJ:=cJ.aw hG rfl;replace hH:=hH.aw hG rfl);have hS:=bO;refine SW.nil (ah.sg hS ?_);refine SG.last rfl (by kernel_rfl) (by kernel_rfl) ?_;refine SW.ak bC rfl rfl rfl rfl (kr ⟨0,0,.nil⟩) fun w9 fg hg => ?_
  have hG:=bC.gr hg;replace hw:=hw.own kN hg;(replace dZ:=dZ.aw hG rfl;replace cJ:=cJ.aw hG rfl;replace hH:=hH.aw hG rfl);repeat' (first|refine Wy ?_|fail);exact ah.tQ rfl rfl rfl dZ fg rfl rfl ⟨_,rfl,hw,_,hA,q,⟨0,0,.nil⟩,rfl,hH,mx.plain _ _ _ _⟩
 ·rw [uU,if_neg he] at hA;repeat' (first|refine Wy ?_|fail);refine SW.ak aA rfl rfl rfl rfl (bt q) fun xA dE hg => ?_
  have hG:=aA.gr hg;replace aD:=aD.grown hg (by simpa using J1);replace bd:=bd.grown hg (by simpa using J2);replace hw:=hw.own dl hg;(replace ax:=ax.aw hG rfl;replace bC:=bC.aw hG rfl;replace bO:=bO.aw hG rfl;replace cJ:=cJ.aw hG rfl;replace hH:=hH.aw hG rfl);replace aA:=dE;clear dE hG hg;repeat' (first|refine Wy ?_|fail);refine SW.bz (i:=0) bO rfl rfl rfl rfl fun xh bB hg => ?_
  have hG:=bO.gr hg;replace bC:=bC.grown hg (by simpa using BG);replace hw:=hw.own jH hg;(replace aD:=aD.aw hG rfl;replace ax:=ax.aw hG rfl;replace bd:=bd.aw hG rfl;replace aA:=aA.aw hG rfl;replace cJ:=cJ.aw hG rfl;replace hH:=hH.aw hG rfl);replace bO:aW _ b7 55 (dm ⟨e,0,.nil⟩):=bB;clear bB hG hg;repeat' (first|refine Wy ?_|refine SW.st (aq rfl (bO.cell (i:=0) (v := .int .i64 e) rfl)) rfl ?_)
  refine CW.iL 2 3 (fun w2=>aW w2 b7 55 (dm ⟨e,0,.nil⟩)) mixed (by kernel_rfl) fun w1 ae aJ => ?_
  replace hw:=Ext.trans hw ae;replace aD:=aD.ext ae;replace bd:=bd.ext ae;replace bC:=bC.ext ae;replace aA:=aA.ext ae;replace bO:=bO.ext ae;replace cJ:=cJ.ext ae;replace hH:=hH.ext ae;clear ae;refine SF.take 0 [] [] aJ rfl (by kernel_rfl) (by kernel_rfl) (by kernel_rfl) ?_;repeat ((show SW _ _ _ _ (⟨_,Op.load _ _,_,_,_,none⟩::_) _ _;refine SW.st (aB rfl rfl ((fun _ _=>aD.cell))) rfl ?_))
  refine SW.ai ?_;refine SF.eG 1 [] aJ rfl (by kernel_rfl) (by kernel_rfl) (by kernel_rfl) (aB rfl rfl ((fun _ _=>bO.cell))) (fun w2 hS=>aB rfl rfl ((fun _ _=>hS.cell))) rfl ?_;refine SF.turn rfl (by kernel_rfl) rfl ?_;refine SW.ak bd rfl rfl rfl rfl (bt r) fun w8 dZ hg => ?_
  have hG:=bd.gr hg;replace hw:=hw.own iN hg;(replace bC:=bC.aw hG rfl;replace bO:=bO.aw hG rfl;replace cJ:=cJ.aw hG rfl;replace hH:=hH.aw hG rfl);have hS:=bO;refine SW.nil (ah.sg hS ?_);refine SG.last rfl (by kernel_rfl) (by kernel_rfl) ?_;refine SW.ak bC rfl rfl rfl rfl (kr ⟨e,0,.nil⟩) fun w9 fg hg => ?_
  have hG:=bC.gr hg;replace hw:=hw.own kN hg;(replace dZ:=dZ.aw hG rfl;replace cJ:=cJ.aw hG rfl;replace hH:=hH.aw hG rfl);repeat' (first|refine Wy ?_|fail);exact ah.tQ rfl rfl rfl dZ fg rfl rfl ⟨_,rfl,hw,_,hA,r,⟨e,0,.nil⟩,rfl,cJ,mx.plain _ _ _ _⟩
set_option maxHeartbeats 4000000 in
theorem FT (a:jy) (hk:a.Kind=10) (KM : -9223372036854775808≤a.At∧a.At≤9223372036854775807) : mj eY a:=by
 intro r s lo w hO gB hI hS kq;obtain ⟨k,cpu,n,m,At,fl,nm⟩:=a;simp only at hk KM;subst hk;have hf:=hI.dW;have hs:=hf.small;have hM:=hI.may;refine aG Tryz.func35 rfl Tryz.ntmps35 rfl ?_;refine CW.seq (CW.region (SW.box rfl rfl fun b2 w1 hw j0 aD => ?_));have l2:=aD.lt;refine SW.box rfl rfl fun b3 w2 bF bQ ax => ?_
 have dB:w.heap.size≤b3:=Nat.le_trans hw.size bQ
 (replace hw:=Ext.trans hw bF;replace aD:=aD.ext bF);clear bF;have l3:=ax.lt;refine SW.alloc rfl fun b4 w2 bF jF bd => ?_
 have iN:w.heap.size≤b4:=Nat.le_trans hw.size jF
 (replace hw:=Ext.trans hw bF;replace aD:=aD.ext bF;replace ax:=ax.ext bF);clear bF;have l4:=bd.lt;refine SW.alloc rfl fun b5 w2 bF jj bC => ?_
 have kN:w.heap.size≤b5:=Nat.le_trans hw.size jj
 (replace hw:=Ext.trans hw bF;replace aD:=aD.ext bF;replace ax:=ax.ext bF;replace bd:=bd.ext bF);clear bF;have l5:=bC.lt;repeat' (first|refine Wy ?_|(first|refine CW.gG rfl (fun h => ?_) (fun h => ?_)|refine CW.jB rfl (fun h => ?_) (fun h => ?_)|refine CW.dh rfl ?_|refine CW.di rfl ?_|refine CW.cond rfl (fun h => ?_) (fun h => ?_))|refine SW.cw rfl rfl rfl (fun h => ?_) (fun h => ?_)|refine SW.fa rfl rfl rfl (fun h => ?_) (fun h => ?_)|refine SW.want rfl rfl ?_|refine SW.skip rfl rfl rfl rfl ?_|refine SW.j5 rfl rfl rfl ?_|refine SW.split rfl rfl rfl (fun h => ?_) (fun h => ?_)|refine SW.st (aB rfl rfl ((fun _ _=>aD.cell))) rfl ?_|refine SW.st (aU hw rfl rfl ((fun _ _=>aD.cell))) rfl ?_)
 refine SW.alloc rfl fun b6 w1 ae eu aA => ?_
 repeat' (first|refine Wy ?_|(first|refine CW.gG rfl (fun h => ?_) (fun h => ?_)|refine CW.jB rfl (fun h => ?_) (fun h => ?_)|refine CW.dh rfl ?_|refine CW.di rfl ?_|refine CW.cond rfl (fun h => ?_) (fun h => ?_))|refine SW.cw rfl rfl rfl (fun h => ?_) (fun h => ?_)|refine SW.fa rfl rfl rfl (fun h => ?_) (fun h => ?_)|refine SW.want rfl rfl ?_|refine SW.skip rfl rfl rfl rfl ?_|refine SW.j5 rfl rfl rfl ?_|refine SW.split rfl rfl rfl (fun h => ?_) (fun h => ?_))
 refine SW.ak aA rfl rfl rfl rfl (bt r) fun w2 dE hg => ?_
 have ap:=ae.own eu hg;have dl:w.heap.size≤b6:=Nat.le_trans hw.size eu
 replace hw:=Ext.trans hw ap;replace aD:=aD.ext ap;replace ax:=ax.ext ap;replace bd:=bd.ext ap;replace bC:=bC.ext ap;replace aA:=dE;clear dE ae hg ap;have l6:=aA.lt;repeat' (first|refine Wy ?_|(first|refine CW.gG rfl (fun h => ?_) (fun h => ?_)|refine CW.jB rfl (fun h => ?_) (fun h => ?_)|refine CW.dh rfl ?_|refine CW.di rfl ?_|refine CW.cond rfl (fun h => ?_) (fun h => ?_))|refine SW.cw rfl rfl rfl (fun h => ?_) (fun h => ?_)|refine SW.fa rfl rfl rfl (fun h => ?_) (fun h => ?_)|refine SW.want rfl rfl ?_|refine SW.skip rfl rfl rfl rfl ?_|refine SW.j5 rfl rfl rfl ?_|refine SW.split rfl rfl rfl (fun h => ?_) (fun h => ?_))
 refine SW.alloc rfl fun b7 w1 ae jG bO => ?_
 repeat' (first|refine Wy ?_|(first|refine CW.gG rfl (fun h => ?_) (fun h => ?_)|refine CW.jB rfl (fun h => ?_) (fun h => ?_)|refine CW.dh rfl ?_|refine CW.di rfl ?_|refine CW.cond rfl (fun h => ?_) (fun h => ?_))|refine SW.cw rfl rfl rfl (fun h => ?_) (fun h => ?_)|refine SW.fa rfl rfl rfl (fun h => ?_) (fun h => ?_)|refine SW.want rfl rfl ?_|refine SW.skip rfl rfl rfl rfl ?_|refine SW.j5 rfl rfl rfl ?_|refine SW.split rfl rfl rfl (fun h => ?_) (fun h => ?_))
 refine SW.ak bO rfl rfl rfl rfl (kr ⟨0,0,.nil⟩) fun w2 bB hg => ?_
 have ap:=ae.own jG hg;have jH:w.heap.size≤b7:=Nat.le_trans hw.size jG
 replace hw:=Ext.trans hw ap;replace aD:=aD.ext ap;replace ax:=ax.ext ap;replace bd:=bd.ext ap;replace bC:=bC.ext ap;replace aA:=aA.ext ap;replace bO:=bB;clear bB ae hg ap;have J1:b2≠b6:=by omega
 have J2:b4≠b6:=by omega
 have Ra:b2≠b4:=by omega
 have BG:b5≠b7:=by omega
 clear l2 l3 l4 l5 l6;repeat' (first|refine Wy ?_|(first|refine CW.gG rfl (fun h => ?_) (fun h => ?_)|refine CW.jB rfl (fun h => ?_) (fun h => ?_)|refine CW.dh rfl ?_|refine CW.di rfl ?_|refine CW.cond rfl (fun h => ?_) (fun h => ?_))|refine SW.cw rfl rfl rfl (fun h => ?_) (fun h => ?_)|refine SW.fa rfl rfl rfl (fun h => ?_) (fun h => ?_)|refine SW.want rfl rfl ?_|refine SW.skip rfl rfl rfl rfl ?_|refine SW.j5 rfl rfl rfl ?_|refine SW.split rfl rfl rfl (fun h => ?_) (fun h => ?_)|refine SW.st (aB rfl rfl ((fun _ _=>aD.cell))) rfl ?_|refine SW.st (aU hw rfl rfl ((fun _ _=>aD.cell))) rfl ?_|refine SW.st (aq rfl (ax.cell (i:=4) (v := .int .i64 At) rfl)) rfl ?_|refine SW.st (aT hw rfl (ax.cell (i:=4) (v := .int .i64 At) rfl)) rfl ?_|refine SW.st (aq rfl (ax.cell (i:=0) (v := .int .i64 10) rfl)) rfl ?_|refine SW.st (aT hw rfl (ax.cell (i:=0) (v := .int .i64 10) rfl)) rfl ?_)
 refine SW.call rfl rfl (Hr r s At _ (hO.rd.ext hw) hf KM (hS.ext hw)) fun v w7 j4 hv => ?_
 obtain ⟨u,hu,rfl⟩:=hv;(replace hw:=Ext.trans hw j4;replace aD:=aD.ext j4;replace ax:=ax.ext j4;replace bd:=bd.ext j4;replace bC:=bC.ext j4;replace aA:=aA.ext j4;replace bO:=bO.ext j4);clear j4;have cJ:=hO.ext hw;have hA:=nO.rR (s:=s) (a:=⟨10,cpu,n,m,At,fl,nm⟩) rfl hu;obtain ⟨N,e⟩:=u;simp only at hA ⊢;by_cases he:e=0
 ·rw [he] at hA;rw [he];repeat' (first|refine Wy ?_|(first|refine CW.gG rfl (fun h => ?_) (fun h => ?_)|refine CW.jB rfl (fun h => ?_) (fun h => ?_)|refine CW.dh rfl ?_|refine CW.di rfl ?_|refine CW.cond rfl (fun h => ?_) (fun h => ?_))|refine SW.cw rfl rfl rfl (fun h => ?_) (fun h => ?_)|refine SW.fa rfl rfl rfl (fun h => ?_) (fun h => ?_)|refine SW.want rfl rfl ?_|refine SW.skip rfl rfl rfl rfl ?_|refine SW.j5 rfl rfl rfl ?_|refine SW.split rfl rfl rfl (fun h => ?_) (fun h => ?_))
  repeat' (first|refine Wy ?_|(first|refine CW.gG rfl (fun h => ?_) (fun h => ?_)|refine CW.jB rfl (fun h => ?_) (fun h => ?_)|refine CW.dh rfl ?_|refine CW.di rfl ?_|refine CW.cond rfl (fun h => ?_) (fun h => ?_))|refine SW.cw rfl rfl rfl (fun h => ?_) (fun h => ?_)|refine SW.fa rfl rfl rfl (fun h => ?_) (fun h => ?_)|refine SW.want rfl rfl ?_|refine SW.skip rfl rfl rfl rfl ?_|refine SW.j5 rfl rfl rfl ?_|refine SW.split rfl rfl rfl (fun h => ?_) (fun h => ?_))
  refine SW.bz (i:=1) bO rfl rfl rfl rfl fun xh bB hg => ?_
  have hG:=bO.gr hg;replace bC:=bC.grown hg (by simpa using BG);replace hw:=hw.own jH hg;(replace aD:=aD.aw hG rfl;replace ax:=ax.aw hG rfl;replace bd:=bd.aw hG rfl;replace aA:=aA.aw hG rfl;replace cJ:=cJ.aw hG rfl);replace bO:aW _ b7 55 (dm ⟨0,N,.nil⟩):=bB;clear bB hG hg;repeat' (first|refine Wy ?_|(first|refine CW.gG rfl (fun h => ?_) (fun h => ?_)|refine CW.jB rfl (fun h => ?_) (fun h => ?_)|refine CW.dh rfl ?_|refine CW.di rfl ?_|refine CW.cond rfl (fun h => ?_) (fun h => ?_))|refine SW.cw rfl rfl rfl (fun h => ?_) (fun h => ?_)|refine SW.fa rfl rfl rfl (fun h => ?_) (fun h => ?_)|refine SW.want rfl rfl ?_|refine SW.skip rfl rfl rfl rfl ?_|refine SW.j5 rfl rfl rfl ?_|refine SW.split rfl rfl rfl (fun h => ?_) (fun h => ?_))
  refine SW.bz (i:=0) bO rfl rfl rfl rfl fun xh bB hg => ?_
  have hG:=bO.gr hg;replace bC:=bC.grown hg (by simpa using BG);replace hw:=hw.own jH hg;(replace aD:=aD.aw hG rfl;replace ax:=ax.aw hG rfl;replace bd:=bd.aw hG rfl;replace aA:=aA.aw hG rfl;replace cJ:=cJ.aw hG rfl);replace bO:aW _ b7 55 (dm ⟨0,N,.nil⟩):=bB;clear bB hG hg;repeat' (first|refine Wy ?_|(first|refine CW.gG rfl (fun h => ?_) (fun h => ?_)|refine CW.jB rfl (fun h => ?_) (fun h => ?_)|refine CW.dh rfl ?_|refine CW.di rfl ?_|refine CW.cond rfl (fun h => ?_) (fun h => ?_))|refine SW.cw rfl rfl rfl (fun h => ?_) (fun h => ?_)|refine SW.fa rfl rfl rfl (fun h => ?_) (fun h => ?_)|refine SW.want rfl rfl ?_|refine SW.skip rfl rfl rfl rfl ?_|refine SW.j5 rfl rfl rfl ?_|refine SW.split rfl rfl rfl (fun h => ?_) (fun h => ?_)|refine SW.st (aq rfl (bO.cell (i:=0) (v := .int .i64 0) rfl)) rfl ?_|refine SW.st (aT hw rfl (bO.cell (i:=0) (v := .int .i64 0) rfl)) rfl ?_)
  refine CW.iL 2 3 (fun w2=>aW w2 b7 55 (dm ⟨0,N,.nil⟩)) mixed (by kernel_rfl) fun w1 ae aJ => ?_
  replace hw:=Ext.trans hw ae;replace aD:=aD.ext ae;replace bd:=bd.ext ae;replace bC:=bC.ext ae;replace aA:=aA.ext ae;replace bO:=bO.ext ae;replace cJ:=cJ.ext ae;clear ae;refine SF.take 0 [] [] aJ rfl (by kernel_rfl) (by kernel_rfl) (by kernel_rfl) ?_;repeat (first|(show SW _ _ _ _ (⟨_,Op.load _ _,_,_,_,none⟩::_) _ _;first|refine SW.st (aB rfl rfl ((fun _ _=>aA.cell))) rfl ?_|refine SW.st (aU hw rfl rfl ((fun _ _=>aA.cell))) rfl ?_))
  refine SW.ai ?_;refine SF.eG 1 [] aJ rfl (by kernel_rfl) (by kernel_rfl) (by kernel_rfl) (aB rfl rfl ((fun _ _=>bO.cell))) (fun w2 hS=>aB rfl rfl ((fun _ _=>hS.cell))) rfl ?_;refine SF.turn rfl (by kernel_rfl) rfl ?_;refine SW.ak bd rfl rfl rfl rfl (bt r) fun w8 dZ hg => ?_
  have hG:=bd.gr hg;replace hw:=hw.own iN hg;(replace bC:=bC.aw hG rfl;replace bO:=bO.aw hG rfl;replace cJ:=cJ.aw hG rfl);have hS:=bO;refine SW.nil (ah.sg hS ?_);refine SG.last rfl (by kernel_rfl) (by kernel_rfl) ?_;refine SW.ak bC rfl rfl rfl rfl (kr ⟨0,N,.nil⟩) fun w9 fg hg => ?_
  have hG:=bC.gr hg;replace hw:=hw.own kN hg;(replace dZ:=dZ.aw hG rfl;replace cJ:=cJ.aw hG rfl);repeat' (first|refine Wy ?_|(first|refine CW.gG rfl (fun h => ?_) (fun h => ?_)|refine CW.jB rfl (fun h => ?_) (fun h => ?_)|refine CW.dh rfl ?_|refine CW.di rfl ?_|refine CW.cond rfl (fun h => ?_) (fun h => ?_))|refine SW.cw rfl rfl rfl (fun h => ?_) (fun h => ?_)|refine SW.fa rfl rfl rfl (fun h => ?_) (fun h => ?_)|refine SW.want rfl rfl ?_|refine SW.skip rfl rfl rfl rfl ?_|refine SW.j5 rfl rfl rfl ?_|refine SW.split rfl rfl rfl (fun h => ?_) (fun h => ?_))
  exact ah.tQ rfl rfl rfl dZ fg rfl rfl ⟨_,rfl,hw,_,hA,r,⟨0,N,.nil⟩,rfl,cJ,mx.plain _ _ _ _⟩
 ·repeat' (first|refine Wy ?_|(first|refine CW.gG rfl (fun h => ?_) (fun h => ?_)|refine CW.jB rfl (fun h => ?_) (fun h => ?_)|refine CW.dh rfl ?_|refine CW.di rfl ?_|refine CW.cond rfl (fun h => ?_) (fun h => ?_))|refine SW.cw rfl rfl rfl (fun h => ?_) (fun h => ?_)|refine SW.fa rfl rfl rfl (fun h => ?_) (fun h => ?_)|refine SW.want rfl rfl ?_|refine SW.skip rfl rfl rfl rfl ?_|refine SW.j5 rfl rfl rfl ?_|refine SW.split rfl rfl rfl (fun h => ?_) (fun h => ?_))
  repeat' (first|refine Wy ?_|(first|refine CW.gG rfl (fun h => ?_) (fun h => ?_)|refine CW.jB rfl (fun h => ?_) (fun h => ?_)|refine CW.dh rfl ?_|refine CW.di rfl ?_|refine CW.cond rfl (fun h => ?_) (fun h => ?_))|refine SW.cw rfl rfl rfl (fun h => ?_) (fun h => ?_)|refine SW.fa rfl rfl rfl (fun h => ?_) (fun h => ?_)|refine SW.want rfl rfl ?_|refine SW.skip rfl rfl rfl rfl ?_|refine SW.j5 rfl rfl rfl ?_|refine SW.split rfl rfl rfl (fun h => ?_) (fun h => ?_))
  refine SW.bz (i:=1) bO rfl rfl rfl rfl fun xh bB hg => ?_
  have hG:=bO.gr hg;replace bC:=bC.grown hg (by simpa using BG);replace hw:=hw.own jH hg;(replace aD:=aD.aw hG rfl;replace ax:=ax.aw hG rfl;replace bd:=bd.aw hG rfl;replace aA:=aA.aw hG rfl;replace cJ:=cJ.aw hG rfl);replace bO:aW _ b7 55 (dm ⟨0,N,.nil⟩):=bB;clear bB hG hg;repeat' (first|refine Wy ?_|(first|refine CW.gG rfl (fun h => ?_) (fun h => ?_)|refine CW.jB rfl (fun h => ?_) (fun h => ?_)|refine CW.dh rfl ?_|refine CW.di rfl ?_|refine CW.cond rfl (fun h => ?_) (fun h => ?_))|refine SW.cw rfl rfl rfl (fun h => ?_) (fun h => ?_)|refine SW.fa rfl rfl rfl (fun h => ?_) (fun h => ?_)|refine SW.want rfl rfl ?_|refine SW.skip rfl rfl rfl rfl ?_|refine SW.j5 rfl rfl rfl ?_|refine SW.split rfl rfl rfl (fun h => ?_) (fun h => ?_))
  refine SW.bz (i:=0) bO rfl rfl rfl rfl fun xh bB hg => ?_
  have hG:=bO.gr hg;replace bC:=bC.grown hg (by simpa using BG);replace hw:=hw.own jH hg;(replace aD:=aD.aw hG rfl;replace ax:=ax.aw hG rfl;replace bd:=bd.aw hG rfl;replace aA:=aA.aw hG rfl;replace cJ:=cJ.aw hG rfl);replace bO:aW _ b7 55 (dm ⟨e,N,.nil⟩):=bB;clear bB hG hg;repeat' (first|refine Wy ?_|(first|refine CW.gG rfl (fun h => ?_) (fun h => ?_)|refine CW.jB rfl (fun h => ?_) (fun h => ?_)|refine CW.dh rfl ?_|refine CW.di rfl ?_|refine CW.cond rfl (fun h => ?_) (fun h => ?_))|refine SW.cw rfl rfl rfl (fun h => ?_) (fun h => ?_)|refine SW.fa rfl rfl rfl (fun h => ?_) (fun h => ?_)|refine SW.want rfl rfl ?_|refine SW.skip rfl rfl rfl rfl ?_|refine SW.j5 rfl rfl rfl ?_|refine SW.split rfl rfl rfl (fun h => ?_) (fun h => ?_)|refine SW.st (aq rfl (bO.cell (i:=0) (v := .int .i64 e) rfl)) rfl ?_|refine SW.st (aT hw rfl (bO.cell (i:=0) (v := .int .i64 e) rfl)) rfl ?_)
  refine CW.iL 2 3 (fun w2=>aW w2 b7 55 (dm ⟨e,N,.nil⟩)) mixed (by kernel_rfl) fun w1 ae aJ => ?_
  replace hw:=Ext.trans hw ae;replace aD:=aD.ext ae;replace bd:=bd.ext ae;replace bC:=bC.ext ae;replace aA:=aA.ext ae;replace bO:=bO.ext ae;replace cJ:=cJ.ext ae;clear ae;refine SF.take 0 [] [] aJ rfl (by kernel_rfl) (by kernel_rfl) (by kernel_rfl) ?_;repeat (first|(show SW _ _ _ _ (⟨_,Op.load _ _,_,_,_,none⟩::_) _ _;first|refine SW.st (aB rfl rfl ((fun _ _=>aD.cell))) rfl ?_|refine SW.st (aU hw rfl rfl ((fun _ _=>aD.cell))) rfl ?_))
  refine SW.ai ?_;refine SF.eG 1 [] aJ rfl (by kernel_rfl) (by kernel_rfl) (by kernel_rfl) (aB rfl rfl ((fun _ _=>bO.cell))) (fun w2 hS=>aB rfl rfl ((fun _ _=>hS.cell))) rfl ?_;refine SF.turn rfl (by kernel_rfl) rfl ?_;refine SW.ak bd rfl rfl rfl rfl (bt r) fun w8 dZ hg => ?_
  have hG:=bd.gr hg;replace hw:=hw.own iN hg;(replace bC:=bC.aw hG rfl;replace bO:=bO.aw hG rfl;replace cJ:=cJ.aw hG rfl);have hS:=bO;refine SW.nil (ah.sg hS ?_);refine SG.last rfl (by kernel_rfl) (by kernel_rfl) ?_;refine SW.ak bC rfl rfl rfl rfl (kr ⟨e,N,.nil⟩) fun w9 fg hg => ?_
  have hG:=bC.gr hg;replace hw:=hw.own kN hg;(replace dZ:=dZ.aw hG rfl;replace cJ:=cJ.aw hG rfl);repeat' (first|refine Wy ?_|(first|refine CW.gG rfl (fun h => ?_) (fun h => ?_)|refine CW.jB rfl (fun h => ?_) (fun h => ?_)|refine CW.dh rfl ?_|refine CW.di rfl ?_|refine CW.cond rfl (fun h => ?_) (fun h => ?_))|refine SW.cw rfl rfl rfl (fun h => ?_) (fun h => ?_)|refine SW.fa rfl rfl rfl (fun h => ?_) (fun h => ?_)|refine SW.want rfl rfl ?_|refine SW.skip rfl rfl rfl rfl ?_|refine SW.j5 rfl rfl rfl ?_|refine SW.split rfl rfl rfl (fun h => ?_) (fun h => ?_))
  exact ah.tQ rfl rfl rfl dZ fg rfl rfl ⟨_,rfl,hw,_,hA,r,⟨e,N,.nil⟩,rfl,cJ,mx.plain _ _ _ _⟩
open Go.RowKit
set_option maxHeartbeats 4000000 in
theorem FU (a:jy) (hk:a.Kind=12) : mj eY a:=by
 intro r s lo w hO gB hI hS kq;obtain ⟨k,cpu,n,m,At,fl,nm⟩:=a;simp only at hk;subst hk;have hf:=hI.dW;have hs:=hf.small;have hM:=hI.may;refine aG Tryz.func35 rfl Tryz.ntmps35 rfl ?_;refine CW.seq (CW.region (SW.box rfl rfl fun b2 w1 hw j0 aD => ?_));have l2:=aD.lt;refine SW.box rfl rfl fun b3 w2 bF bQ ax => ?_
 have dB:w.heap.size≤b3:=Nat.le_trans hw.size bQ
 (replace hw:=Ext.trans hw bF;replace aD:=aD.ext bF);clear bF;have l3:=ax.lt;refine SW.alloc rfl fun b4 w2 bF jF bd => ?_
 have iN:w.heap.size≤b4:=Nat.le_trans hw.size jF
 (replace hw:=Ext.trans hw bF;replace aD:=aD.ext bF;replace ax:=ax.ext bF);clear bF;have l4:=bd.lt;refine SW.alloc rfl fun b5 w2 bF jj bC => ?_
 have kN:w.heap.size≤b5:=Nat.le_trans hw.size jj
 (replace hw:=Ext.trans hw bF;replace aD:=aD.ext bF;replace ax:=ax.ext bF;replace bd:=bd.ext bF);clear bF;have l5:=bC.lt;repeat' (first|refine Wy ?_|refine SW.st (aB rfl rfl ((fun _ _=>aD.cell))) rfl ?_)
 refine SW.alloc rfl fun b6 w1 ae eu aA => ?_
 skip;refine SW.ak aA rfl rfl rfl rfl (bt r) fun w2 dE hg => ?_
 have ap:=ae.own eu hg;have dl:w.heap.size≤b6:=Nat.le_trans hw.size eu
 replace hw:=Ext.trans hw ap;replace aD:=aD.ext ap;replace ax:=ax.ext ap;replace bd:=bd.ext ap;replace bC:=bC.ext ap;replace aA:=dE;clear dE ae hg ap;have l6:=aA.lt;repeat' (first|refine Wy ?_|fail);refine SW.alloc rfl fun b7 w1 ae jG bO => ?_
 skip;refine SW.ak bO rfl rfl rfl rfl (kr ⟨0,0,.nil⟩) fun w2 bB hg => ?_
 have ap:=ae.own jG hg;have jH:w.heap.size≤b7:=Nat.le_trans hw.size jG
 replace hw:=Ext.trans hw ap;replace aD:=aD.ext ap;replace ax:=ax.ext ap;replace bd:=bd.ext ap;replace bC:=bC.ext ap;replace aA:=aA.ext ap;replace bO:=bB;clear bB ae hg ap;have J1:b2≠b6:=by omega
 have J2:b4≠b6:=by omega
 have Ra:b2≠b4:=by omega
 have BG:b5≠b7:=by omega
 clear l2 l3 l4 l5 l6;repeat' (first|refine Wy ?_|refine SW.st (aB rfl rfl ((mq aD))) rfl ?_|refine SW.st (aq rfl (ax.cell (i:=0) (v := .int .i64 12) rfl)) rfl ?_)
 refine SW.call rfl rfl (FP r.Heap s.Heap _ (hO.rd.heap.ext hw) hs.heap hf.cj) fun v w7 j4 hv => ?_
 obtain ⟨H,rfl,hH⟩:=hv;replace hH:=hH.low (Nat.le_trans gB hw.size);(replace hw:=Ext.trans hw j4;replace aD:=aD.ext j4;replace ax:=ax.ext j4;replace bd:=bd.ext j4;replace bC:=bC.ext j4;replace aA:=aA.ext j4;replace bO:=bO.ext j4);clear j4;have cJ:=hO.ext hw;have hA:=nO.drain (s:=s) (a:=⟨12,cpu,n,m,At,fl,nm⟩) rfl;generalize mv s.Heap=u at hA hH ⊢
 obtain ⟨e,u1⟩:=u;simp only at hA hH ⊢;by_cases he:e=0
 ·rw [uU,if_pos he,he] at hA;rw [he];repeat' (first|refine Wy ?_|fail);refine SW.ko 1 aA rfl rfl rfl (Nat.le_of_ble_eq_true rfl) (dJ H) (ba ⟨r.Words,H,r.aa⟩) rfl fun xA dE hg => ?_
  have hG:=aA.gr hg;replace aD:=aD.grown hg (by simpa using J1);replace bd:=bd.grown hg (by simpa using J2);replace hw:=hw.own dl hg;(replace ax:=ax.aw hG rfl;replace bC:=bC.aw hG rfl;replace bO:=bO.aw hG rfl;replace cJ:=cJ.aw hG rfl;replace hH:=hH.aw hG rfl);replace aA:=dE;clear dE hG hg;repeat' (first|refine Wy ?_|fail);refine SW.bz (i:=0) bO rfl rfl rfl rfl fun xh bB hg => ?_
  have hG:=bO.gr hg;replace bC:=bC.grown hg (by simpa using BG);replace hw:=hw.own jH hg;(replace aD:=aD.aw hG rfl;replace ax:=ax.aw hG rfl;replace bd:=bd.aw hG rfl;replace aA:=aA.aw hG rfl;replace cJ:=cJ.aw hG rfl;replace hH:=hH.aw hG rfl);replace bO:aW _ b7 55 (dm ⟨0,0,.nil⟩):=bB;clear bB hG hg;repeat' (first|refine Wy ?_|refine SW.st (aq rfl (bO.cell (i:=0) (v := .int .i64 0) rfl)) rfl ?_)
  refine CW.iL 2 3 (fun w2=>aW w2 b7 55 (dm ⟨0,0,.nil⟩)) mixed (by kernel_rfl) fun w1 ae aJ => ?_
  replace hw:=Ext.trans hw ae;replace aD:=aD.ext ae;replace bd:=bd.ext ae;replace bC:=bC.ext ae;replace aA:=aA.ext ae;replace bO:=bO.ext ae;replace cJ:=cJ.ext ae;replace hH:=hH.ext ae;clear ae;refine SF.take 0 [] [] aJ rfl (by kernel_rfl) (by kernel_rfl) (by kernel_rfl) ?_;repeat ((show SW _ _ _ _ (⟨_,Op.load _ _,_,_,_,none⟩::_) _ _;refine SW.st (aB rfl rfl ((fun _ _=>aA.cell))) rfl ?_))
  refine SW.ai ?_;refine SF.eG 1 [] aJ rfl (by kernel_rfl) (by kernel_rfl) (by kernel_rfl) (aB rfl rfl ((fun _ _=>bO.cell))) (fun w2 hS=>aB rfl rfl ((fun _ _=>hS.cell))) rfl ?_;refine SF.turn rfl (by kernel_rfl) rfl ?_;refine SW.ak bd rfl rfl rfl rfl (bt ⟨r.Words,H,r.aa⟩) fun w8 dZ hg => ?_
  have hG:=bd.gr hg;replace hw:=hw.own iN hg;(replace bC:=bC.aw hG rfl;replace bO:=bO.aw hG rfl;replace cJ:=cJ.aw hG rfl;replace hH:=hH.aw hG rfl);have hS:=bO;refine SW.nil (ah.sg hS ?_);refine SG.last rfl (by kernel_rfl) (by kernel_rfl) ?_;refine SW.ak bC rfl rfl rfl rfl (kr ⟨0,0,.nil⟩) fun w9 fg hg => ?_
  have hG:=bC.gr hg;replace hw:=hw.own kN hg;(replace dZ:=dZ.aw hG rfl;replace cJ:=cJ.aw hG rfl;replace hH:=hH.aw hG rfl);repeat' (first|refine Wy ?_|fail);exact ah.tQ rfl rfl rfl dZ fg rfl rfl ⟨_,rfl,hw,_,hA,⟨r.Words,H,r.aa⟩,⟨0,0,.nil⟩,rfl,⟨cJ.words,hH,cJ.bR⟩,mx.plain _ _ _ _⟩
 ·rw [uU,if_neg he] at hA;repeat' (first|refine Wy ?_|fail);refine SW.ko 1 aA rfl rfl rfl (Nat.le_of_ble_eq_true rfl) (dJ H) (ba ⟨r.Words,H,r.aa⟩) rfl fun xA dE hg => ?_
  have hG:=aA.gr hg;replace aD:=aD.grown hg (by simpa using J1);replace bd:=bd.grown hg (by simpa using J2);replace hw:=hw.own dl hg;(replace ax:=ax.aw hG rfl;replace bC:=bC.aw hG rfl;replace bO:=bO.aw hG rfl;replace cJ:=cJ.aw hG rfl;replace hH:=hH.aw hG rfl);replace aA:=dE;clear dE hG hg;repeat' (first|refine Wy ?_|fail);refine SW.bz (i:=0) bO rfl rfl rfl rfl fun xh bB hg => ?_
  have hG:=bO.gr hg;replace bC:=bC.grown hg (by simpa using BG);replace hw:=hw.own jH hg;(replace aD:=aD.aw hG rfl;replace ax:=ax.aw hG rfl;replace bd:=bd.aw hG rfl;replace aA:=aA.aw hG rfl;replace cJ:=cJ.aw hG rfl;replace hH:=hH.aw hG rfl);replace bO:aW _ b7 55 (dm ⟨e,0,.nil⟩):=bB;clear bB hG hg;repeat' (first|refine Wy ?_|refine SW.st (aq rfl (bO.cell (i:=0) (v := .int .i64 e) rfl)) rfl ?_)
  refine CW.iL 2 3 (fun w2=>aW w2 b7 55 (dm ⟨e,0,.nil⟩)) mixed (by kernel_rfl) fun w1 ae aJ => ?_
  replace hw:=Ext.trans hw ae;replace aD:=aD.ext ae;replace bd:=bd.ext ae;replace bC:=bC.ext ae;replace aA:=aA.ext ae;replace bO:=bO.ext ae;replace cJ:=cJ.ext ae;replace hH:=hH.ext ae;clear ae;refine SF.take 0 [] [] aJ rfl (by kernel_rfl) (by kernel_rfl) (by kernel_rfl) ?_;repeat ((show SW _ _ _ _ (⟨_,Op.load _ _,_,_,_,none⟩::_) _ _;refine SW.st (aB rfl rfl ((fun _ _=>aD.cell))) rfl ?_))
  refine SW.ai ?_;refine SF.eG 1 [] aJ rfl (by kernel_rfl) (by kernel_rfl) (by kernel_rfl) (aB rfl rfl ((fun _ _=>bO.cell))) (fun w2 hS=>aB rfl rfl ((fun _ _=>hS.cell))) rfl ?_;refine SF.turn rfl (by kernel_rfl) rfl ?_;refine SW.ak bd rfl rfl rfl rfl (bt r) fun w8 dZ hg => ?_
  have hG:=bd.gr hg;replace hw:=hw.own iN hg;(replace bC:=bC.aw hG rfl;replace bO:=bO.aw hG rfl;replace cJ:=cJ.aw hG rfl;replace hH:=hH.aw hG rfl);have hS:=bO;refine SW.nil (ah.sg hS ?_);refine SG.last rfl (by kernel_rfl) (by kernel_rfl) ?_;refine SW.ak bC rfl rfl rfl rfl (kr ⟨e,0,.nil⟩) fun w9 fg hg => ?_
  have hG:=bC.gr hg;replace hw:=hw.own kN hg;(replace dZ:=dZ.aw hG rfl;replace cJ:=cJ.aw hG rfl;replace hH:=hH.aw hG rfl);repeat' (first|refine Wy ?_|fail);exact ah.tQ rfl rfl rfl dZ fg rfl rfl ⟨_,rfl,hw,_,hA,r,⟨e,0,.nil⟩,rfl,cJ,mx.plain _ _ _ _⟩
open Go.RowKit
theorem BH (A:Option Addr) (n c:Nat) (l:List Region) (w:World) (hl:Sl w 2 iM A n l) (hn:n≤9223372036854775807) :
 bq Tryz.prog 202 [.slice A n c] w fun v _=>v = .bool (dH l):=by
 refine aG Tryz.func202 rfl Tryz.ntmps202 rfl ?_;have hw:=Ext.refl w;have hA:=hl.base;have pp:=hl.len;repeat' (first|refine Wz ?_|(refine CW.gG rfl (fun h => ?_) (fun h => ?_)))
 ·refine ah.aY rfl rfl ⟨_,rfl,hw,?_⟩;rw [ni (fun h=>by have:=h.1;omega)]
 ·refine CW.loop (fun k:Nat=>[(0,.slice A n c),(8,.slice A n c),(9,.int .i64 (n:Int)),(10,.int .i64 (k:Int))]) (fun k w'=>k≤n∧Ext w w' ∧ ∀ (i:Nat) (h:i<l.length),i<k→(l[i]).ok ∧ ∀ (h0 : 0<i),(l[i-1]'(by omega)).aK+(l[i-1]'(by omega)).aE<(l[i]).aK)
   (fun k=>n-k) 0 ⟨rfl,rfl,rfl,rfl,trivial⟩ ⟨by omega,hw,fun i h hi=>by omega⟩ ?_
  clear hw;rintro k w' ⟨hk,hw,hI⟩
  by_cases dY:k<n
  ·have fe:=hl.lt dY;have dN:∀ {w1 w2:World} {b:Nat},Ext w w1→w.heap.size≤b→w1.grownBy w2 (some b)→Ext w w2:=fun h1 h2 hg=>aO h1 hg (Nat.le_refl _) (fun k e=>by cases e;exact h2)
   by_cases jv:(l[k]).ok
   ·by_cases xd:k=0
    ·subst xd;repeat' (first|refine Wz ?_|refine SW.st (aU hw rfl rfl ((hl.all dY))) rfl ?_)
     refine SW.alloc rfl fun b w1 ae hb hB => ?_
     have z8:w.heap.size≤b:=Nat.le_trans hw.size hb
     replace hw:=Ext.trans hw ae;refine Wz ?_;refine SW.ak hB rfl rfl rfl rfl (fP.one (enc:=iM) _) fun w2 px hg => ?_
     replace hw:=dN hw z8 hg;repeat' (first|refine Wz ?_|((apply CW.bl mixed;(· kernel_rfl);rotate_left;intro w1 ae;replace hw:=Ext.trans hw ae;replace px:=px.ext ae;clear ae;rotate_right))|refine SW.cx rfl rfl (fun w1 ae=>(oC jv _)) ?_|exact SW.dF rfl)
     refine ah.again (0+1) ⟨rfl,rfl,rfl,rfl,trivial⟩ (by omega) ⟨by omega,hw,fun i h hi => ?_⟩;obtain rfl:i=0:=by omega
     exact ⟨jv,fun h0=>by omega⟩
    ·obtain ⟨j,rfl⟩ : ∃ j,k=j+1:=⟨k-1,by omega⟩;have hj:j<n:=by omega
     have hp:=(hI j (hl.lt hj) (by omega)).1;by_cases dL:(l[j]'(hl.lt hj)).aK+(l[j]'(hl.lt hj)).aE<(l[j+1]).aK
     all_goals
      repeat' (first|refine Wz ?_|refine SW.st (aU hw rfl rfl ((hl.all dY))) rfl ?_)
      refine SW.alloc rfl fun b w1 ae hb hB => ?_
      have z8:w.heap.size≤b:=Nat.le_trans hw.size hb
      replace hw:=Ext.trans hw ae;refine Wz ?_;refine SW.ak hB rfl rfl rfl rfl (fP.one (enc:=iM) _) fun w2 px hg => ?_
      replace hw:=dN hw z8 hg;repeat' (first|refine Wz ?_|((apply CW.bl mixed;(· kernel_rfl);rotate_left;intro w1 ae;replace hw:=Ext.trans hw ae;replace px:=px.ext ae;clear ae;rotate_right))|refine SW.st (aZ (j) rfl rfl (by assumption) (by omega) (by omega)) rfl ?_|refine SW.st (aU hw rfl rfl ((hl.all hj))) rfl ?_|refine SW.cx rfl rfl (fun w1 ae=>(oC jv _)) ?_|refine SW.cx rfl rfl (fun w1 ae=>(vr hp _)) ?_|exact SW.dF rfl)
     ·refine ah.again (j+1+1) ⟨rfl,rfl,rfl,rfl,trivial⟩ (by omega) ⟨by omega,hw,fun i h hi => ?_⟩;by_cases lz:i=j+1
      ·subst lz;exact ⟨jv,fun _=>dL⟩
      ·exact hI i h (by omega)
     ·refine ah.aY rfl rfl ⟨_,rfl,hw,?_⟩;rw [ni (fun h=>dL ((h.2 (j+1) fe).2 (by omega)))]
   ·repeat' (first|refine Wz ?_|refine SW.st (aU hw rfl rfl ((hl.all dY))) rfl ?_)
    refine SW.alloc rfl fun b w1 ae hb hB => ?_
    have z8:w.heap.size≤b:=Nat.le_trans hw.size hb
    replace hw:=Ext.trans hw ae;refine Wz ?_;refine SW.ak hB rfl rfl rfl rfl (fP.one (enc:=iM) _) fun w2 px hg => ?_
    replace hw:=dN hw z8 hg;repeat' (first|refine Wz ?_|((apply CW.bl mixed;(· kernel_rfl);rotate_left;intro w1 ae;replace hw:=Ext.trans hw ae;replace px:=px.ext ae;clear ae;rotate_right))|refine SW.cx rfl rfl (fun w1 ae=>(vq jv _)) ?_|exact SW.dF rfl)
    refine ah.aY rfl rfl ⟨_,rfl,hw,?_⟩;rw [ni (fun h=>jv (h.2 k fe).1)]
  ·refine Wz ?_;refine ah.aY rfl rfl ⟨_,rfl,hw,?_⟩;rw [j9 ⟨by omega,fun i h=>hI i h (by omega)⟩]
def mT (A:Option Addr) (n c:Nat) (B:Option Addr) (m d:Nat) : List Value:=[.slice A n c,.slice B m d]
noncomputable def mU (x y:List Region) : Bool:=dH x && dH y
theorem yx (A:Option Addr) (n c:Nat) (B:Option Addr) (m d:Nat) (x y:List Region) (w:World) (hx:Sl w 2 iM A n x) (hy:Sl w 2 iM B m y) (hn:n≤9223372036854775807) (hm:m≤9223372036854775807) :
 bq Tryz.prog 131 [.agg (mT A n c B m d).toArray] w fun v _=>v = .int .i64 (if mU x y then 0 else 8):=by
 refine aG Tryz.func131 rfl Tryz.ntmps131 rfl ?_;refine CW.seq (CW.region (SW.box rfl rfl fun b w1 hw hb hB => ?_));obtain ⟨bx,Sn⟩ : ∃ b,dH x=b:=⟨_,rfl⟩;obtain ⟨bY,So⟩ : ∃ b,dH y=b:=⟨_,rfl⟩;have l1:∀ w',Ext w w'→bq Tryz.prog 202 [.slice A n c] w' fun v _=>v = .bool bx:=fun w' h=>by have:=BH A n c x w' (hx.ext h) hn;rwa [Sn] at this
 have l2:∀ w',Ext w w'→bq Tryz.prog 202 [.slice B m d] w' fun v _=>v = .bool bY:=fun w' h=>by have:=BH B m d y w' (hy.ext h) hm;rwa [So] at this
 cases bx<;>cases bY
 all_goals
  repeat' (first|refine Wz ?_|(first|refine CW.dh rfl ?_|refine CW.di rfl ?_)|refine SW.want rfl rfl ?_|refine SW.skip rfl rfl rfl rfl ?_|((first|refine SW.call rfl rfl (l1 _ hw) ?_|refine SW.call rfl rfl (l2 _ hw) ?_);intro v w1 ae hv;subst hv;replace hw:=Ext.trans hw ae;replace hB:=hB.ext ae;clear ae))
  refine ah.aY rfl rfl ⟨_,rfl,hw,?_⟩;simp [mU,Sn,So]
open Go.RowKit
theorem Dr {l:List Region} {k:Nat} (hk:k<l.length) (i:Int) : dC (l.take (k+1)) i=(dC (l.take k) i || (decide ((l[k]).aK≤i) && decide (i<(l[k]).aK+(l[k]).aE))):=by
 unfold dC;rw [List.take_succ_eq_append_getElem hk,List.any_append];simp only [List.any_cons,List.any_nil,Bool.or_false]
theorem MH:marksOf (fun i=>dC [] i) 256=List.replicate 256 false:=by
 apply List.ext_getElem (by rw [AA,List.length_replicate]);intro j h1 h2;rw [kD,List.getElem_replicate]
 rfl
theorem wC (A:Option Addr) (n c:Nat) (l:List Region) (w:World) (hl:Sl w 2 iM A n l) (jv:∀ r∈l,r.ok) (hn:n≤9223372036854775807) :
 bq Tryz.prog 132 [.slice A n c] w fun v w' => ∃ B d,v = .slice B 256 d∧Own w' w.heap.size 4 1 qz B 256 d (marksOf (fun i=>dC l i) 256):=by
 refine aG Tryz.func132 rfl Tryz.ntmps132 rfl ?_;have hw:=Ext.refl w;have hA:=hl.base;refine Wz ?_;refine SW.make (enc:=qz) (k:=256) false rfl rfl rfl (by omega) (by omega) rfl fun B d w1 ae hS => ?_
 have gB:=hw.size;replace hw:=Ext.trans hw ae;replace hS:=Own.low hS gB;have VN:=hS.sl.base;refine Wz ?_
 refine CW.loop (fun k:Nat=>[(3,.slice B 256 d),(8,.slice A n c),(9,.int .i64 (n:Int)),(10,.int .i64 (k:Int))])
  (fun k w'=>k≤n∧Ext w w'∧Own w' w.heap.size 4 1 qz B 256 d (marksOf (fun i=>dC (l.take k) i) 256)) (fun k=>n-k) 0 ⟨rfl,rfl,rfl,rfl,trivial⟩ ⟨by omega,hw,by
    have e:marksOf (fun i=>dC (l.take 0) i) 256=List.replicate 256 false:=MH
    rw [e];exact hS⟩ ?_
 clear hw hS;rintro k w' ⟨hk,hw,hO⟩
 by_cases dY:k<n
 ·have fe:=hl.lt dY;have wD:=jv (l[k]) (List.getElem_mem fe);obtain ⟨f,hf⟩:=Int.eq_ofNat_of_zero_le wD.1;obtain ⟨s,hs⟩:=Int.eq_ofNat_of_zero_le (show 0≤(l[k]).aE by have:=wD.2.1;omega);have Ut:=wD.2.2.2;repeat' (first|refine Wz ?_|refine SW.st (aU hw rfl rfl ((hl.all dY))) rfl ?_)
  refine SW.alloc rfl fun b w1 ae hb hB => ?_
  have z8:w.heap.size≤b:=Nat.le_trans hw.size hb
  replace hw:=Ext.trans hw ae;replace hO:=hO.ext ae;skip;refine SW.ak hB rfl rfl rfl rfl (fP.one (enc:=iM) _) fun w2 px hg => ?_
  replace hw:=hw.own z8 hg;replace hO:=hO.grown hg (.inr (hO.dq hB rfl));refine Wz ?_
  refine CW.loop (fun j:Nat=>[(3,.slice B 256 d),(5,.pointer (some ⟨b,0,none⟩)),(6,.int .i64 ((f+j:Nat) : Int)),(8,.slice A n c),(9,.int .i64 (n:Int)),(10,.int .i64 (k:Int))])
   (fun j w'=>j≤s∧Ext w w'∧aW w' b 123 (iM (l[k]))∧Own w' w.heap.size 4 1 qz B 256 d (marksOf (fun i=>dC (l.take k) i || (decide (f≤i) && decide (i<f+j))) 256)) (fun j=>s-j) 0
   ⟨rfl,rfl,by rw [hf];rfl,rfl,rfl,rfl,trivial⟩ ⟨by omega,hw,px,by
    have e:marksOf (fun i=>dC (l.take k) i || (decide (f≤i) && decide (i<f+0))) 256=marksOf (fun i=>dC (l.take k) i) 256:=fr fun i _=>by
     have:(decide (f≤i) && decide (i<f+0))=false:=by
      rcases Nat.lt_or_ge i f with h|h
      ·rw [decide_eq_false (by omega : ¬ f≤i)];rfl
      ·rw [decide_eq_false (by omega : ¬ i<f+0),Bool.and_false]
     rw [this,Bool.or_false]
    rw [e];exact hO⟩ ?_
  clear hw hO hB px hg ae;rintro j w' ⟨hj,hw,px,hO⟩
  by_cases Pz:j<s
  ·repeat' (first|refine Wz ?_|(refine SW.call rfl rfl (vr wD _) ?_;intro v w1 ae hv;subst hv;replace hw:=Ext.trans hw ae;replace px:=px.ext ae;replace hO:=hO.ext ae;clear ae))
   refine SW.fH (f+j) 0 true hO rfl rfl rfl (by omega) (by omega) (by rw [add_zero]) rfl fun w3 Cn hg => ?_
   replace hw:=aO hw hg (Nat.le_refl _) hO.bc;replace px:=px.grown hg (fun e=>hO.dq px rfl e.symm);rw [oF] at Cn;refine Wz ?_;refine ah.again (j+1) ⟨rfl,rfl,rfl,rfl,rfl,rfl,trivial⟩ (by omega) ⟨by omega,hw,px,?_⟩
   have e:marksOf (fun i=>dC (l.take k) i || (decide (f≤i) && decide (i<f+(j+1)))) 256=marksOf (fun i=>if i=f+j then true else dC (l.take k) i || (decide (f≤i) && decide (i<f+j))) 256:=fr fun i _=>by
    by_cases hi:i=f+j
    ·subst hi;have h1:f≤f+j:=by omega
     have h2:f+j<f+(j+1):=by omega
     simp [h1,h2]
    ·have e2:decide (i<f+(j+1))=decide (i<f+j):=by rw [decide_eq_decide];omega
     simp [hi,e2]
   rw [e];exact Cn
  ·obtain rfl:j=s:=by omega
   repeat' (first|refine Wz ?_|(refine SW.call rfl rfl (vr wD _) ?_;intro v w1 ae hv;subst hv;replace hw:=Ext.trans hw ae;replace px:=px.ext ae;replace hO:=hO.ext ae;clear ae))
   refine ah.again (k+1) ⟨rfl,rfl,rfl,rfl,trivial⟩ (by omega) ⟨by omega,hw,?_⟩
   have e:marksOf (fun i=>dC (l.take (k+1)) i) 256=marksOf (fun i=>dC (l.take k) i || (decide (f≤i) && decide (i<f+j))) 256:=fr fun i _=>by
    rw [Dr fe,hf,hs];have e1:decide (((f:Nat) : Int)≤(i:Int))=decide (f≤i):=by rw [decide_eq_decide];omega
    have e2:decide ((i:Int)<((f:Nat) : Int)+((j:Nat) : Int))=decide (i<f+j):=by rw [decide_eq_decide];omega
    rw [e1,e2]
   rw [e];exact hO
 ·refine Wz ?_;obtain rfl:k=n:=by omega
  refine ah.aY rfl rfl ⟨_,rfl,hw,B,d,rfl,?_⟩;rwa [List.take_of_length_le (by have:=hl.len;omega)] at hO
open Go.RowKit
def Ey (lo:Nat) (l:List Region) (v:Value) (w:World) : Prop := ∃ A c,v = .slice A l.length c∧Own w lo 123 2 iM A l.length c l
theorem aW.Sp {w:World} {b:Nat} {t:TypeId} {r:Region} {vs:List Value} (h:aW w b t vs) (e:vs=iM r) : Sl w 2 iM (some ⟨b,0,none⟩) 1 [r]:=by subst e;exact aW.z7 h
theorem zR (A:Option Addr) (c N:Nat) (hN:N=256) (p:Nat→Bool) (w:World) (hl:Sl w 1 qz A N (marksOf p N)) :
 bq Tryz.prog 133 [.slice A N c] w (Ey w.heap.size (runs p N)):=by
 refine aG Tryz.func133 rfl Tryz.ntmps133 rfl ?_;have hw:=Ext.refl w;have hA:=hl.base;have tw:∀ k,k<N→w.cell? ((A.getD default).add (k*1))=some (.bool (p k)):=fun k hk=>hl.one hk (by rw [kD];rfl)
 refine Wz ?_
 refine CW.loop (fun s:Nat×Option Addr×Nat=>[(3,.slice s.2.1 (runs p s.1).length s.2.2),(7,.slice A N c),(8,.int .i64 (N:Int)),(9,.int .i64 (s.1:Int))])
  (fun s w'=>s.1≤N∧Ext w w'∧Own w' w.heap.size 123 2 iM s.2.1 (runs p s.1).length s.2.2 (runs p s.1)) (fun s=>N-s.1) (0,none,0) ⟨rfl,rfl,rfl,rfl,trivial⟩ ⟨by omega,hw,Own.gz _ _ _ _ _ _⟩ ?_
 clear hw;rintro ⟨k,A1,c1⟩ w' ⟨hk,hw,hO⟩
 simp only at hk hO ⊢;have jv:=rf p k;have hlen:=jv.len;by_cases dY:k<N
 ·obtain ⟨bk,sk⟩ : ∃ b,p k=b:=⟨_,rfl⟩;have hc:=tw k dY;rw [sk] at hc;cases bk
  ·have e:runs p (k+1)=runs p k:=by simp [runs,sk]
   repeat' (first|refine Wz ?_|(refine CW.dh rfl ?_)|refine SW.st (aT hw rfl hc) rfl ?_)
   refine ah.again (k+1,A1,c1) ⟨by rw [e];rfl,rfl,rfl,rfl,trivial⟩ (by simp only;omega) ⟨by simp only;omega,hw,by simp only;rw [e];exact hO⟩
  ·by_cases hq : 0<k∧p (k-1)=true
   ·obtain ⟨init,r,hr,VO⟩:=jv.last hq.1 hq.2;have e:runs p (k+1)=init++[⟨r.aK,r.aE+1⟩]:=by simp [runs,sk,hq,hr,lX]
    have uO:=jv.Kl r (by rw [hr];simp);have wD:r.ok:=⟨uO.1,uO.2.1,by omega,by omega⟩
    rw [hr] at hO hlen ⊢;have r9:(init++[r]).length=init.length+1:=by simp
    rw [r9] at hO hlen;rw [r9];have Gh:=hO.sl.base;have j2:(init++[r])[init.length]'(by simp)=r:=by simp
    have fk:=hO.sl.all (i:=init.length) (by omega);rw [j2] at fk;have Px:(init++[r]).set init.length ⟨r.aK,r.aE+1⟩=init++[⟨r.aK,r.aE+1⟩]:=by simp
    refine CW.seq ?_;repeat' (first|refine Wz ?_|(refine CW.di rfl ?_)|refine SW.st (aZ (init.length) rfl rfl (by assumption) (by omega) (by omega)) rfl ?_|refine SW.st (aT hw rfl hc) rfl ?_)
    refine SW.st (aB rfl rfl fk) rfl ?_;repeat' (first|refine Wz ?_|refine SW.st (aZ (init.length) rfl rfl (by assumption) (by omega) (by omega)) rfl ?_|(refine SW.call rfl rfl (vr wD _) ?_;intro v w1 ae hv;subst hv;replace hw:=Ext.trans hw ae;replace hO:=hO.ext ae;clear ae))
    have fk:=hO.sl.all (i:=init.length) (by omega);rw [j2] at fk;refine SW.st (aq rfl (fk 1 (.int .i64 r.aE) rfl)) rfl ?_;repeat' (first|refine Wz ?_|refine SW.st (aZ (init.length) rfl rfl (by assumption) (by omega) (by omega)) rfl ?_)
    refine SW.fH init.length 1 ⟨r.aK,r.aE+1⟩ hO rfl rfl rfl (by omega) (by omega) rfl (by rw [j2];rfl) fun w2 cJ hg => ?_
    replace hw:=aO hw hg (Nat.le_refl _) hO.bc;refine Wz ?_;refine ah.again (k+1,A1,c1) ⟨by simp only [e];simp [get];rfl,rfl,rfl,rfl,trivial⟩ (by simp only;omega) ⟨by simp only;omega,hw,?_⟩;simp only [e];rw [Px] at cJ;simpa using cJ
   ·have e:runs p (k+1)=runs p k++[⟨(k:Int),1⟩]:=by
     simp only [runs,sk,if_true];rw [if_neg hq]
    have Af:∀ r∈runs p k,r.aK+r.aE<(k:Int):=jv.below fun h0=>by
     cases hh:p (k-1) with
     | false=>rfl
     | true=>exact absurd ⟨h0,hh⟩ hq
    have Gh:=hO.sl.base;rcases List.eq_nil_or_concat (runs p k) with hn|⟨init,r,hr⟩
    ·rw [hn] at hO hlen e ⊢;simp only [List.length_nil];repeat' (first|refine Wz ?_|(refine CW.di rfl ?_)|refine SW.st (aT hw rfl hc) rfl ?_)
     refine SW.dR rfl rfl rfl rfl rfl fun b w1 ae hb hB => ?_
     replace hw:=Ext.trans hw ae;replace hO:=hO.ext ae;refine SW.append hO (aW.Sp (r:=⟨(k:Int),1⟩) hB rfl) hw.size rfl rfl rfl (by simp) (by simp) fun A2 c2 w2 n7 hg => ?_
     replace hw:=aO hw hg (Nat.le_refl _) hO.bc;refine Wz ?_;refine ah.again (k+1,A2,c2) ⟨by simp only [e];rfl,rfl,rfl,rfl,trivial⟩ (by simp only;omega) ⟨by simp only;omega,hw,?_⟩;simp only [e];exact n7
    ·have n0:runs p k=init++[r]:=by simpa using hr
     have uO:=jv.Kl r (by rw [n0];simp);have wD:r.ok:=⟨uO.1,uO.2.1,by omega,by omega⟩
     have Jp:=Af r (by rw [n0];simp);rw [n0] at hO hlen e ⊢;have r9:(init++[r]).length=init.length+1:=by simp
     rw [r9] at hO hlen;rw [r9];have Gh:=hO.sl.base;have j2:(init++[r])[init.length]'(by simp)=r:=by simp
     have fk:=hO.sl.all (i:=init.length) (by omega);rw [j2] at fk;repeat' (first|refine Wz ?_|(refine CW.di rfl ?_)|refine SW.st (aZ (init.length) rfl rfl (by assumption) (by omega) (by omega)) rfl ?_|refine SW.st (aT hw rfl hc) rfl ?_)
     refine SW.st (aB rfl rfl fk) rfl ?_;repeat' (first|refine Wz ?_|(refine SW.call rfl rfl (vr wD _) ?_;intro v w1 ae hv;subst hv;replace hw:=Ext.trans hw ae;replace hO:=hO.ext ae;clear ae))
     refine SW.dR rfl rfl rfl rfl rfl fun b w1 ae hb hB => ?_
     replace hw:=Ext.trans hw ae;replace hO:=hO.ext ae;refine SW.append hO (aW.Sp (r:=⟨(k:Int),1⟩) hB rfl) hw.size rfl rfl rfl (by omega) (by omega) fun A2 c2 w2 n7 hg => ?_
     replace hw:=aO hw hg (Nat.le_refl _) hO.bc;refine Wz ?_;refine ah.again (k+1,A2,c2) ⟨by simp only [e];simp [get];rfl,rfl,rfl,rfl,trivial⟩ (by simp only;omega) ⟨by simp only;omega,hw,?_⟩;simp only [e];simpa using n7
 ·refine Wz ?_;obtain rfl:k=N:=by omega
  exact ah.aY rfl rfl ⟨_,rfl,hw,A1,c1,rfl,hO⟩
open Go.RowKit
end Go.Proofs.YtbidkghlpijecaaGreatDoor
