/-
  Texts of the claim TopRoom, part 17: what its theorem leans on.
-/
import Derived.Test.YtbidkghlpijecaaGreatDoorPackTopRoom16
import Derived.Test.YtbidkghlpijecaaGreatDoorPackTopRoom14
import Derived.Test.YtbidkghlpijecaaGreatDoorPackTopRoom13
import Derived.Test.YtbidkghlpijecaaGreatDoorPackTopRoom2
import Derived.Test.YtbidkghlpijecaaGreatDoorPackTopRoom3
import Derived.Test.YtbidkghlpijecaaGreatDoorPackTopRoom8
import Derived.Test.YtbidkghlpijecaaGreatDoorPackTopRoom6
set_option linter.unusedVariables false
set_option linter.unusedSimpArgs false
namespace Go.Proofs.YtbidkghlpijecaaGreatDoor
open Go.RowKit
set_option maxHeartbeats 4000000 in
theorem EK (r:ik) (s:ak) (a:iY) (lo:Nat) (w:World) (hO:km w lo r s) (gQ:lo≤w.heap.size) (hI:mj s) :
 bl Tryz.prog 78 [.agg (bq r).toArray,.agg (rm a).toArray] w fun v w' => ∃ u,pq s a u ∧ ∃ q,v = .tuple #[.agg (bq q).toArray,.int .i64 u.2]∧km w' lo q u.1:=by
 obtain ⟨k,cpu,n,m,At,fl,nm⟩:=a;have hf:=hI.g7;have hs:=hf.small;have hM:=hI.may;refine aD Tryz.func78 rfl Tryz.ntmps78 rfl ?_;refine CW.seq (CW.region (SW.box rfl rfl fun b2 w1 hw jg aC => ?_));have l2:=aC.lt;refine SW.box rfl rfl fun b3 w2 bo bL aq => ?_
 have cJ:w.heap.size≤b3:=Nat.le_trans hw.size bL
 (replace hw:=Ext.trans hw bo;replace aC:=aC.ext bo);clear bo;have l3:=aq.lt;refine SW.alloc rfl fun b4 w2 bo je aQ => ?_
 have fZ:w.heap.size≤b4:=Nat.le_trans hw.size je
 (replace hw:=Ext.trans hw bo;replace aC:=aC.ext bo;replace aq:=aq.ext bo);clear bo;have LC:b4≠b2:=by omega
 by_cases h1 : 0≤At∧At<256
 ·obtain ⟨OJ,Qr⟩:=h1;have h1 : 0≤At∧At<256:=⟨OJ,Qr⟩
  repeat' (first|refine Wy ?_|refine SW.st (ax rfl (aq.cell (i:=4) (v := .int .i64 At) rfl)) rfl ?_|refine SW.st (ay rfl rfl ((fun _ _=>aC.cell))) rfl ?_)
  refine SW.call rfl rfl (Ci r s (At*16) _ (hO.rd.ext hw) hs hM (by omega)) fun v w6 He hv => ?_
  obtain ⟨ix,rfl,BL⟩:=hv;(replace hw:=Ext.trans hw He;replace aC:=aC.ext He;replace aq:=aq.ext He;replace aQ:=aQ.ext He);cases hW:dN s (At*16)
  ·have cm:=hO.ext hw;repeat' (first|refine Wy ?_|(refine CW.eX rfl ?_)|refine SW.st (ay rfl rfl ((fun _ _=>aC.cell))) rfl ?_)
   refine SW.ah aQ rfl rfl rfl rfl (cq r) fun w7 hR hg => ?_
   have hG:=aQ.gr hg;replace hw:=hw.own fZ hg;(replace cm:=cm.au hG rfl);repeat' (first|refine Wy ?_|fail);exact ae.cA rfl rfl rfl hR rfl ⟨_,rfl,hw,_,.no h1 hW,r,rfl,cm⟩
  ·repeat' (first|refine Wy ?_|(refine CW.eY rfl ?_)|refine SW.st (ay rfl rfl ((mP aC))) rfl ?_|refine SW.st (ax rfl (aq.cell (i:=1) (v := .int .i64 cpu) rfl)) rfl ?_|refine SW.st (ax rfl (aq.cell (i:=4) (v := .int .i64 At) rfl)) rfl ?_)
   refine SW.call rfl rfl (En r.Heap s.Heap cpu At _ (hO.rd.heap.ext hw) hs.heap hf.bz (by omega)) fun v w7 j4 hv => ?_
   obtain ⟨H,rfl,hH⟩:=hv;replace hH:=hH.low (Nat.le_trans gQ hw.size);(replace hw:=Ext.trans hw j4;replace aC:=aC.ext j4;replace aq:=aq.ext j4;replace aQ:=aQ.ext j4);have II:=fun he=>pq.ok (s:=s) (a:=⟨k,cpu,n,m,At,fl,nm⟩) h1 hW he
   have ct:=fun he=>pq.fault (s:=s) (a:=⟨k,cpu,n,m,At,fl,nm⟩) h1 hW he
   simp only at II ct;generalize iW s.Heap cpu At=u at hH II ct ⊢
   obtain ⟨e,u1⟩:=u;simp only at hH II ct ⊢;by_cases he:e=0
   ·subst he;repeat' (first|refine Wy ?_|fail);have cm:=hO.ext hw;refine SW.alloc rfl fun b8 w1 aa tm bX => ?_
    skip;refine SW.ah bX rfl rfl rfl rfl (dt H) fun w2 EL hg => ?_
    have ao:=aa.own tm hg;have ks:w.heap.size≤b8:=Nat.le_trans hw.size tm
    replace hw:=Ext.trans hw ao;replace aC:=aC.ext ao;replace aq:=aq.ext ao;replace aQ:=aQ.ext ao;replace hH:=hH.ext ao;replace cm:=cm.ext ao;replace bX:=EL;clear EL aa hg ao;repeat' (first|refine Wy ?_|refine SW.st (ay rfl rfl ((fun _ _=>bX.cell))) rfl ?_)
    refine SW.kV 1 aC rfl rfl rfl (Nat.le_of_ble_eq_true rfl) (dt H) (bq ⟨r.Words,H,r.ai⟩) rfl fun Cu Nj hg => ?_
    have hG:=aC.gr hg;replace aQ:=aQ.grown hg (by simpa using LC);replace hw:=hw.own jg hg;(replace hH:=hH.au hG rfl;replace cm:=cm.au hG rfl);repeat' (first|refine Wy ?_|refine SW.st (ay rfl rfl ((fun _ _=>Nj.cell))) rfl ?_)
    refine SW.ah aQ rfl rfl rfl rfl (cq ⟨r.Words,H,r.ai⟩) fun w7 hR hg => ?_
    have hG:=aQ.gr hg;replace hw:=hw.own fZ hg;(replace hH:=hH.au hG rfl;replace cm:=cm.au hG rfl);repeat' (first|refine Wy ?_|fail);exact ae.cA rfl rfl rfl hR rfl ⟨_,rfl,hw,_,II rfl,⟨r.Words,H,r.ai⟩,rfl,cm.words,hH,cm.ck⟩
   ·repeat' (first|refine Wy ?_|fail);have cm:=hO.ext hw;refine SW.alloc rfl fun b8 w1 aa tm bX => ?_
    skip;refine SW.ah bX rfl rfl rfl rfl (dt H) fun w2 EL hg => ?_
    have ao:=aa.own tm hg;have ks:w.heap.size≤b8:=Nat.le_trans hw.size tm
    replace hw:=Ext.trans hw ao;replace aC:=aC.ext ao;replace aq:=aq.ext ao;replace aQ:=aQ.ext ao;replace hH:=hH.ext ao;replace cm:=cm.ext ao;replace bX:=EL;clear EL aa hg ao;repeat' (first|refine Wy ?_|refine SW.st (ay rfl rfl ((fun _ _=>aC.cell))) rfl ?_)
    refine SW.ah aQ rfl rfl rfl rfl (cq r) fun w7 hR hg => ?_
    have hG:=aQ.gr hg;replace hw:=hw.own fZ hg;(replace cm:=cm.au hG rfl);repeat' (first|refine Wy ?_|fail);exact ae.cA rfl rfl rfl hR rfl ⟨_,rfl,hw,_,ct he,r,rfl,cm⟩
 ·have hc:At<0∨(0≤At∧256≤At):=by omega
  rcases hc with h2|h2
  all_goals repeat' (first|refine Wy ?_|refine SW.st (ax rfl (aq.cell (i:=4) (v := .int .i64 At) rfl)) rfl ?_|refine SW.st (ay rfl rfl ((fun _ _=>aC.cell))) rfl ?_)
  all_goals
   have cm:=hO.ext hw;refine SW.ah aQ rfl rfl rfl rfl (cq r) fun w7 hR hg => ?_
   have hG:=aQ.gr hg;replace hw:=hw.own fZ hg;(replace cm:=cm.au hG rfl);repeat' (first|refine Wy ?_|fail);exact ae.cA rfl rfl rfl hR rfl ⟨_,rfl,hw,_,.range h1,r,rfl,cm⟩
set_option maxHeartbeats 4000000 in
theorem EM (a:iY) (hk:a.Kind=1) : nB mj a:=by
 intro r s lo w hO gQ hI hS uw;obtain ⟨k,cpu,n,m,At,fl,nm⟩:=a;simp only at hk;subst hk;have hf:=hI.g7;have hs:=hf.small;have hM:=hI.may;refine aD Tryz.func35 rfl Tryz.ntmps35 rfl ?_;refine CW.seq (CW.region (SW.box rfl rfl fun b2 w1 hw jg aC => ?_));have l2:=aC.lt;refine SW.box rfl rfl fun b3 w2 bo bL aq => ?_
 have cJ:w.heap.size≤b3:=Nat.le_trans hw.size bL
 (replace hw:=Ext.trans hw bo;replace aC:=aC.ext bo);clear bo;have l3:=aq.lt;refine SW.alloc rfl fun b4 w2 bo je aQ => ?_
 have fZ:w.heap.size≤b4:=Nat.le_trans hw.size je
 (replace hw:=Ext.trans hw bo;replace aC:=aC.ext bo;replace aq:=aq.ext bo);clear bo;have l4:=aQ.lt;refine SW.alloc rfl fun b5 w2 bo ig bw => ?_
 have j2:w.heap.size≤b5:=Nat.le_trans hw.size ig
 (replace hw:=Ext.trans hw bo;replace aC:=aC.ext bo;replace aq:=aq.ext bo;replace aQ:=aQ.ext bo);clear bo;have l5:=bw.lt;repeat' (first|refine Wy ?_|refine SW.st (ay rfl rfl ((fun _ _=>aC.cell))) rfl ?_)
 refine SW.alloc rfl fun b6 w1 aa fk az => ?_
 skip;refine SW.ah az rfl rfl rfl rfl (cq r) fun w2 de hg => ?_
 have ao:=aa.own fk hg;have dU:w.heap.size≤b6:=Nat.le_trans hw.size fk
 replace hw:=Ext.trans hw ao;replace aC:=aC.ext ao;replace aq:=aq.ext ao;replace aQ:=aQ.ext ao;replace bw:=bw.ext ao;replace az:=de;clear de aa hg ao;have l6:=az.lt;repeat' (first|refine Wy ?_|fail);refine SW.alloc rfl fun b7 w1 aa iP bP => ?_
 skip;refine SW.ah bP rfl rfl rfl rfl (jY ⟨0,0,.nil⟩) fun w2 bu hg => ?_
 have ao:=aa.own iP hg;have jq:w.heap.size≤b7:=Nat.le_trans hw.size iP
 replace hw:=Ext.trans hw ao;replace aC:=aC.ext ao;replace aq:=aq.ext ao;replace aQ:=aQ.ext ao;replace bw:=bw.ext ao;replace az:=az.ext ao;replace bP:=bu;clear bu aa hg ao;have Hf:b2≠b6:=by omega
 have Hg:b4≠b6:=by omega
 have LC:b2≠b4:=by omega
 have C2:b5≠b7:=by omega
 clear l2 l3 l4 l5 l6;repeat' (first|refine Wy ?_|refine SW.st (ay rfl rfl ((mP aC))) rfl ?_|refine SW.st (ax rfl (aq.cell (i:=1) (v := .int .i64 cpu) rfl)) rfl ?_|refine SW.st (ax rfl (aq.cell (i:=2) (v := .int .i64 n) rfl)) rfl ?_|refine SW.st (ax rfl (aq.cell (i:=5) (v := .int .i64 fl) rfl)) rfl ?_|refine SW.st (ax rfl (aq.cell (i:=0) (v := .int .i64 1) rfl)) rfl ?_)
 refine SW.call rfl rfl (Ct r.Heap s.Heap cpu n fl _ (hO.rd.heap.ext hw) hs.heap hf.bz (uw.ext hw)) fun v w7 j4 hv => ?_
 obtain ⟨u,hu,H,rfl,hH⟩:=hv;replace hH:=hH.low (Nat.le_trans gQ hw.size);(replace hw:=Ext.trans hw j4;replace aC:=aC.ext j4;replace aq:=aq.ext j4;replace aQ:=aQ.ext j4;replace bw:=bw.ext j4;replace az:=az.ext j4;replace bP:=bP.ext j4);clear j4;have cm:=hO.ext hw;have hA:=na.cb (s:=s) (a:=⟨1,cpu,n,m,At,fl,nm⟩) rfl hu;obtain ⟨u1,N,e⟩:=u;simp only at hA hH ⊢;by_cases he:e=0
 ·rw [tr,if_pos he,he] at hA;rw [he];repeat' (first|refine Wy ?_|fail);refine SW.kV 1 az rfl rfl rfl (Nat.le_of_ble_eq_true rfl) (dt H) (bq ⟨r.Words,H,r.ai⟩) rfl fun Cu de hg => ?_
  have hG:=az.gr hg;replace aC:=aC.grown hg (by simpa using Hf);replace aQ:=aQ.grown hg (by simpa using Hg);replace hw:=hw.own dU hg;(replace aq:=aq.au hG rfl;replace bw:=bw.au hG rfl;replace bP:=bP.au hG rfl;replace cm:=cm.au hG rfl;replace hH:=hH.au hG rfl);replace az:=de;clear de hG hg;repeat' (first|refine Wy ?_|fail);refine SW.bp (i:=1) bP rfl rfl rfl rfl fun C1 bu hg => ?_
  have hG:=bP.gr hg;replace bw:=bw.grown hg (by simpa using C2);replace hw:=hw.own jq hg;(replace aC:=aC.au hG rfl;replace aq:=aq.au hG rfl;replace aQ:=aQ.au hG rfl;replace az:=az.au hG rfl;replace cm:=cm.au hG rfl;replace hH:=hH.au hG rfl);replace bP:aT _ b7 55 (fM ⟨0,N,.nil⟩):=bu;clear bu hG hg;repeat' (first|refine Wy ?_|fail);refine SW.bp (i:=0) bP rfl rfl rfl rfl fun C1 bu hg => ?_
  have hG:=bP.gr hg;replace bw:=bw.grown hg (by simpa using C2);replace hw:=hw.own jq hg;(replace aC:=aC.au hG rfl;replace aq:=aq.au hG rfl;replace aQ:=aQ.au hG rfl;replace az:=az.au hG rfl;replace cm:=cm.au hG rfl;replace hH:=hH.au hG rfl);replace bP:aT _ b7 55 (fM ⟨0,N,.nil⟩):=bu;clear bu hG hg;repeat' (first|refine Wy ?_|refine SW.st (ax rfl (bP.cell (i:=0) (v := .int .i64 0) rfl)) rfl ?_)
  refine CW.l9 2 3 (fun w2=>aT w2 b7 55 (fM ⟨0,N,.nil⟩)) mixed (by kernel_rfl) fun w1 aa bm => ?_
  replace hw:=Ext.trans hw aa;replace aC:=aC.ext aa;replace aQ:=aQ.ext aa;replace bw:=bw.ext aa;replace az:=az.ext aa;replace bP:=bP.ext aa;replace cm:=cm.ext aa;replace hH:=hH.ext aa;clear aa;refine SF.take 0 [] [] bm rfl (by kernel_rfl) (by kernel_rfl) (by kernel_rfl) ?_;repeat ((show SW _ _ _ _ (⟨_,Op.load _ _,_,_,_,none⟩::_) _ _;refine SW.st (ay rfl rfl ((fun _ _=>az.cell))) rfl ?_))
  refine SW.ar ?_;refine SF.hU 1 [] bm rfl (by kernel_rfl) (by kernel_rfl) (by kernel_rfl) (ay rfl rfl ((fun _ _=>bP.cell))) (fun w2 hS=>ay rfl rfl ((fun _ _=>hS.cell))) rfl ?_;refine SF.turn rfl (by kernel_rfl) rfl ?_;refine SW.ah aQ rfl rfl rfl rfl (cq ⟨r.Words,H,r.ai⟩) fun w8 eW hg => ?_
  have hG:=aQ.gr hg;replace hw:=hw.own fZ hg;(replace bw:=bw.au hG rfl;replace bP:=bP.au hG rfl;replace cm:=cm.au hG rfl;replace hH:=hH.au hG rfl);have hS:=bP;refine SW.nil (ae.sg hS ?_);refine SG.last rfl (by kernel_rfl) (by kernel_rfl) ?_;refine SW.ah bw rfl rfl rfl rfl (jY ⟨0,N,.nil⟩) fun w9 eQ hg => ?_
  have hG:=bw.gr hg;replace hw:=hw.own j2 hg;(replace eW:=eW.au hG rfl;replace cm:=cm.au hG rfl;replace hH:=hH.au hG rfl);repeat' (first|refine Wy ?_|fail);exact ae.vd rfl rfl rfl eW eQ rfl rfl ⟨_,rfl,hw,_,hA,⟨r.Words,H,r.ai⟩,⟨0,N,.nil⟩,rfl,⟨cm.words,hH,cm.ck⟩,lL.plain _ _ _ _⟩
 ·rw [tr,if_neg he] at hA;repeat' (first|refine Wy ?_|fail);refine SW.kV 1 az rfl rfl rfl (Nat.le_of_ble_eq_true rfl) (dt H) (bq ⟨r.Words,H,r.ai⟩) rfl fun Cu de hg => ?_
  have hG:=az.gr hg;replace aC:=aC.grown hg (by simpa using Hf);replace aQ:=aQ.grown hg (by simpa using Hg);replace hw:=hw.own dU hg;(replace aq:=aq.au hG rfl;replace bw:=bw.au hG rfl;replace bP:=bP.au hG rfl;replace cm:=cm.au hG rfl;replace hH:=hH.au hG rfl);replace az:=de;clear de hG hg;repeat' (first|refine Wy ?_|fail);refine SW.bp (i:=1) bP rfl rfl rfl rfl fun C1 bu hg => ?_
  have hG:=bP.gr hg;replace bw:=bw.grown hg (by simpa using C2);replace hw:=hw.own jq hg;(replace aC:=aC.au hG rfl;replace aq:=aq.au hG rfl;replace aQ:=aQ.au hG rfl;replace az:=az.au hG rfl;replace cm:=cm.au hG rfl;replace hH:=hH.au hG rfl);replace bP:aT _ b7 55 (fM ⟨0,N,.nil⟩):=bu;clear bu hG hg;repeat' (first|refine Wy ?_|fail);refine SW.bp (i:=0) bP rfl rfl rfl rfl fun C1 bu hg => ?_
  have hG:=bP.gr hg;replace bw:=bw.grown hg (by simpa using C2);replace hw:=hw.own jq hg;(replace aC:=aC.au hG rfl;replace aq:=aq.au hG rfl;replace aQ:=aQ.au hG rfl;replace az:=az.au hG rfl;replace cm:=cm.au hG rfl;replace hH:=hH.au hG rfl);replace bP:aT _ b7 55 (fM ⟨e,N,.nil⟩):=bu;clear bu hG hg;repeat' (first|refine Wy ?_|refine SW.st (ax rfl (bP.cell (i:=0) (v := .int .i64 e) rfl)) rfl ?_)
  refine CW.l9 2 3 (fun w2=>aT w2 b7 55 (fM ⟨e,N,.nil⟩)) mixed (by kernel_rfl) fun w1 aa bm => ?_
  replace hw:=Ext.trans hw aa;replace aC:=aC.ext aa;replace aQ:=aQ.ext aa;replace bw:=bw.ext aa;replace az:=az.ext aa;replace bP:=bP.ext aa;replace cm:=cm.ext aa;replace hH:=hH.ext aa;clear aa;refine SF.take 0 [] [] bm rfl (by kernel_rfl) (by kernel_rfl) (by kernel_rfl) ?_;repeat ((show SW _ _ _ _ (⟨_,Op.load _ _,_,_,_,none⟩::_) _ _;refine SW.st (ay rfl rfl ((fun _ _=>aC.cell))) rfl ?_))
  refine SW.ar ?_;refine SF.hU 1 [] bm rfl (by kernel_rfl) (by kernel_rfl) (by kernel_rfl) (ay rfl rfl ((fun _ _=>bP.cell))) (fun w2 hS=>ay rfl rfl ((fun _ _=>hS.cell))) rfl ?_;refine SF.turn rfl (by kernel_rfl) rfl ?_;refine SW.ah aQ rfl rfl rfl rfl (cq r) fun w8 eW hg => ?_
  have hG:=aQ.gr hg;replace hw:=hw.own fZ hg;(replace bw:=bw.au hG rfl;replace bP:=bP.au hG rfl;replace cm:=cm.au hG rfl;replace hH:=hH.au hG rfl);have hS:=bP;refine SW.nil (ae.sg hS ?_);refine SG.last rfl (by kernel_rfl) (by kernel_rfl) ?_;refine SW.ah bw rfl rfl rfl rfl (jY ⟨e,N,.nil⟩) fun w9 eQ hg => ?_
  have hG:=bw.gr hg;replace hw:=hw.own j2 hg;(replace eW:=eW.au hG rfl;replace cm:=cm.au hG rfl;replace hH:=hH.au hG rfl);repeat' (first|refine Wy ?_|fail);exact ae.vd rfl rfl rfl eW eQ rfl rfl ⟨_,rfl,hw,_,hA,r,⟨e,N,.nil⟩,rfl,cm,lL.plain _ _ _ _⟩
set_option maxHeartbeats 4000000 in
theorem EN (a:iY) (hk:a.Kind=2) : nB mj a:=by
 intro r s lo w hO gQ hI hS uw;obtain ⟨k,cpu,n,m,At,fl,nm⟩:=a;simp only at hk;subst hk;have hf:=hI.g7;have hs:=hf.small;have hM:=hI.may;refine aD Tryz.func35 rfl Tryz.ntmps35 rfl ?_;refine CW.seq (CW.region (SW.box rfl rfl fun b2 w1 hw jg aC => ?_));have l2:=aC.lt;refine SW.box rfl rfl fun b3 w2 bo bL aq => ?_
 have cJ:w.heap.size≤b3:=Nat.le_trans hw.size bL
 (replace hw:=Ext.trans hw bo;replace aC:=aC.ext bo);clear bo;have l3:=aq.lt;refine SW.alloc rfl fun b4 w2 bo je aQ => ?_
 have fZ:w.heap.size≤b4:=Nat.le_trans hw.size je
 (replace hw:=Ext.trans hw bo;replace aC:=aC.ext bo;replace aq:=aq.ext bo);clear bo;have l4:=aQ.lt;refine SW.alloc rfl fun b5 w2 bo ig bw => ?_
 have j2:w.heap.size≤b5:=Nat.le_trans hw.size ig
 (replace hw:=Ext.trans hw bo;replace aC:=aC.ext bo;replace aq:=aq.ext bo;replace aQ:=aQ.ext bo);clear bo;have l5:=bw.lt;repeat' (first|refine Wy ?_|refine SW.st (ay rfl rfl ((fun _ _=>aC.cell))) rfl ?_)
 refine SW.alloc rfl fun b6 w1 aa fk az => ?_
 skip;refine SW.ah az rfl rfl rfl rfl (cq r) fun w2 de hg => ?_
 have ao:=aa.own fk hg;have dU:w.heap.size≤b6:=Nat.le_trans hw.size fk
 replace hw:=Ext.trans hw ao;replace aC:=aC.ext ao;replace aq:=aq.ext ao;replace aQ:=aQ.ext ao;replace bw:=bw.ext ao;replace az:=de;clear de aa hg ao;have l6:=az.lt;repeat' (first|refine Wy ?_|fail);refine SW.alloc rfl fun b7 w1 aa iP bP => ?_
 skip;refine SW.ah bP rfl rfl rfl rfl (jY ⟨0,0,.nil⟩) fun w2 bu hg => ?_
 have ao:=aa.own iP hg;have jq:w.heap.size≤b7:=Nat.le_trans hw.size iP
 replace hw:=Ext.trans hw ao;replace aC:=aC.ext ao;replace aq:=aq.ext ao;replace aQ:=aQ.ext ao;replace bw:=bw.ext ao;replace az:=az.ext ao;replace bP:=bu;clear bu aa hg ao;have Hf:b2≠b6:=by omega
 have Hg:b4≠b6:=by omega
 have LC:b2≠b4:=by omega
 have C2:b5≠b7:=by omega
 clear l2 l3 l4 l5 l6;repeat' (first|refine Wy ?_|refine SW.st (ay rfl rfl ((fun _ _=>aC.cell))) rfl ?_|refine SW.st (ay rfl rfl ((fun _ _=>aq.cell))) rfl ?_|refine SW.st (ax rfl (aq.cell (i:=0) (v := .int .i64 2) rfl)) rfl ?_)
 refine SW.call rfl rfl (EK r s ⟨2,cpu,n,m,At,fl,nm⟩ lo _ (hO.ext hw) (Nat.le_trans gQ hw.size) hI) fun v w7 j4 hv => ?_
 obtain ⟨u,hu,q,rfl,hH⟩:=hv;(replace hw:=Ext.trans hw j4;replace aC:=aC.ext j4;replace aq:=aq.ext j4;replace aQ:=aQ.ext j4;replace bw:=bw.ext j4;replace az:=az.ext j4;replace bP:=bP.ext j4);clear j4;have cm:=hO.ext hw;have hA:=na.Cw (s:=s) (a:=⟨2,cpu,n,m,At,fl,nm⟩) rfl hu;obtain ⟨u1,e⟩:=u;simp only at hA hH ⊢;by_cases he:e=0
 ·rw [tr,if_pos he,he] at hA;rw [he];repeat' (first|refine Wy ?_|fail);refine SW.ah az rfl rfl rfl rfl (cq q) fun Cu de hg => ?_
  have hG:=az.gr hg;replace aC:=aC.grown hg (by simpa using Hf);replace aQ:=aQ.grown hg (by simpa using Hg);replace hw:=hw.own dU hg;(replace aq:=aq.au hG rfl;replace bw:=bw.au hG rfl;replace bP:=bP.au hG rfl;replace cm:=cm.au hG rfl;replace hH:=hH.au hG rfl);replace az:=de;clear de hG hg;repeat' (first|refine Wy ?_|fail);refine SW.bp (i:=0) bP rfl rfl rfl rfl fun C1 bu hg => ?_
  have hG:=bP.gr hg;replace bw:=bw.grown hg (by simpa using C2);replace hw:=hw.own jq hg;(replace aC:=aC.au hG rfl;replace aq:=aq.au hG rfl;replace aQ:=aQ.au hG rfl;replace az:=az.au hG rfl;replace cm:=cm.au hG rfl;replace hH:=hH.au hG rfl);replace bP:aT _ b7 55 (fM ⟨0,0,.nil⟩):=bu;clear bu hG hg;repeat' (first|refine Wy ?_|refine SW.st (ax rfl (bP.cell (i:=0) (v := .int .i64 0) rfl)) rfl ?_)
  refine CW.l9 2 3 (fun w2=>aT w2 b7 55 (fM ⟨0,0,.nil⟩)) mixed (by kernel_rfl) fun w1 aa bm => ?_
  replace hw:=Ext.trans hw aa;replace aC:=aC.ext aa;replace aQ:=aQ.ext aa;replace bw:=bw.ext aa;replace az:=az.ext aa;replace bP:=bP.ext aa;replace cm:=cm.ext aa;replace hH:=hH.ext aa;clear aa;refine SF.take 0 [] [] bm rfl (by kernel_rfl) (by kernel_rfl) (by kernel_rfl) ?_;repeat ((show SW _ _ _ _ (⟨_,Op.load _ _,_,_,_,none⟩::_) _ _;refine SW.st (ay rfl rfl ((fun _ _=>az.cell))) rfl ?_))
  refine SW.ar ?_;refine SF.hU 1 [] bm rfl (by kernel_rfl) (by kernel_rfl) (by kernel_rfl) (ay rfl rfl ((fun _ _=>bP.cell))) (fun w2 hS=>ay rfl rfl ((fun _ _=>hS.cell))) rfl ?_;refine SF.turn rfl (by kernel_rfl) rfl ?_;refine SW.ah aQ rfl rfl rfl rfl (cq q) fun w8 eW hg => ?_
  have hG:=aQ.gr hg;replace hw:=hw.own fZ hg;(replace bw:=bw.au hG rfl;replace bP:=bP.au hG rfl;replace cm:=cm.au hG rfl;replace hH:=hH.au hG rfl);have hS:=bP;refine SW.nil (ae.sg hS ?_);refine SG.last rfl (by kernel_rfl) (by kernel_rfl) ?_;refine SW.ah bw rfl rfl rfl rfl (jY ⟨0,0,.nil⟩) fun w9 eQ hg => ?_
  have hG:=bw.gr hg;replace hw:=hw.own j2 hg;(replace eW:=eW.au hG rfl;replace cm:=cm.au hG rfl;replace hH:=hH.au hG rfl);repeat' (first|refine Wy ?_|fail);exact ae.vd rfl rfl rfl eW eQ rfl rfl ⟨_,rfl,hw,_,hA,q,⟨0,0,.nil⟩,rfl,hH,lL.plain _ _ _ _⟩
 ·rw [tr,if_neg he] at hA;repeat' (first|refine Wy ?_|fail);refine SW.ah az rfl rfl rfl rfl (cq q) fun Cu de hg => ?_
  have hG:=az.gr hg;replace aC:=aC.grown hg (by simpa using Hf);replace aQ:=aQ.grown hg (by simpa using Hg);replace hw:=hw.own dU hg;(replace aq:=aq.au hG rfl;replace bw:=bw.au hG rfl;replace bP:=bP.au hG rfl;replace cm:=cm.au hG rfl;replace hH:=hH.au hG rfl);replace az:=de;clear de hG hg;repeat' (first|refine Wy ?_|fail);refine SW.bp (i:=0) bP rfl rfl rfl rfl fun C1 bu hg => ?_
  have hG:=bP.gr hg;replace bw:=bw.grown hg (by simpa using C2);replace hw:=hw.own jq hg;(replace aC:=aC.au hG rfl;replace aq:=aq.au hG rfl;replace aQ:=aQ.au hG rfl;replace az:=az.au hG rfl;replace cm:=cm.au hG rfl;replace hH:=hH.au hG rfl);replace bP:aT _ b7 55 (fM ⟨e,0,.nil⟩):=bu;clear bu hG hg;repeat' (first|refine Wy ?_|refine SW.st (ax rfl (bP.cell (i:=0) (v := .int .i64 e) rfl)) rfl ?_)
  refine CW.l9 2 3 (fun w2=>aT w2 b7 55 (fM ⟨e,0,.nil⟩)) mixed (by kernel_rfl) fun w1 aa bm => ?_
  replace hw:=Ext.trans hw aa;replace aC:=aC.ext aa;replace aQ:=aQ.ext aa;replace bw:=bw.ext aa;replace az:=az.ext aa;replace bP:=bP.ext aa;replace cm:=cm.ext aa;replace hH:=hH.ext aa;clear aa;refine SF.take 0 [] [] bm rfl (by kernel_rfl) (by kernel_rfl) (by kernel_rfl) ?_;repeat ((show SW _ _ _ _ (⟨_,Op.load _ _,_,_,_,none⟩::_) _ _;refine SW.st (ay rfl rfl ((fun _ _=>aC.cell))) rfl ?_))
  refine SW.ar ?_;refine SF.hU 1 [] bm rfl (by kernel_rfl) (by kernel_rfl) (by kernel_rfl) (ay rfl rfl ((fun _ _=>bP.cell))) (fun w2 hS=>ay rfl rfl ((fun _ _=>hS.cell))) rfl ?_;refine SF.turn rfl (by kernel_rfl) rfl ?_;refine SW.ah aQ rfl rfl rfl rfl (cq r) fun w8 eW hg => ?_
  have hG:=aQ.gr hg;replace hw:=hw.own fZ hg;(replace bw:=bw.au hG rfl;replace bP:=bP.au hG rfl;replace cm:=cm.au hG rfl;replace hH:=hH.au hG rfl);have hS:=bP;refine SW.nil (ae.sg hS ?_);refine SG.last rfl (by kernel_rfl) (by kernel_rfl) ?_;refine SW.ah bw rfl rfl rfl rfl (jY ⟨e,0,.nil⟩) fun w9 eQ hg => ?_
  have hG:=bw.gr hg;replace hw:=hw.own j2 hg;(replace eW:=eW.au hG rfl;replace cm:=cm.au hG rfl;replace hH:=hH.au hG rfl);repeat' (first|refine Wy ?_|fail);exact ae.vd rfl rfl rfl eW eQ rfl rfl ⟨_,rfl,hw,_,hA,r,⟨e,0,.nil⟩,rfl,cm,lL.plain _ _ _ _⟩
set_option maxHeartbeats 4000000 in
theorem Cx (a:iY) (hk:a.Kind=12) : nB mj a:=by
 intro r s lo w hO gQ hI hS uw;obtain ⟨k,cpu,n,m,At,fl,nm⟩:=a;simp only at hk;subst hk;have hf:=hI.g7;have hs:=hf.small;have hM:=hI.may;refine aD Tryz.func35 rfl Tryz.ntmps35 rfl ?_;refine CW.seq (CW.region (SW.box rfl rfl fun b2 w1 hw jg aC => ?_));have l2:=aC.lt;refine SW.box rfl rfl fun b3 w2 bo bL aq => ?_
 have cJ:w.heap.size≤b3:=Nat.le_trans hw.size bL
 (replace hw:=Ext.trans hw bo;replace aC:=aC.ext bo);clear bo;have l3:=aq.lt;refine SW.alloc rfl fun b4 w2 bo je aQ => ?_
 have fZ:w.heap.size≤b4:=Nat.le_trans hw.size je
 (replace hw:=Ext.trans hw bo;replace aC:=aC.ext bo;replace aq:=aq.ext bo);clear bo;have l4:=aQ.lt;refine SW.alloc rfl fun b5 w2 bo ig bw => ?_
 have j2:w.heap.size≤b5:=Nat.le_trans hw.size ig
 (replace hw:=Ext.trans hw bo;replace aC:=aC.ext bo;replace aq:=aq.ext bo;replace aQ:=aQ.ext bo);clear bo;have l5:=bw.lt;repeat' (first|refine Wy ?_|refine SW.st (ay rfl rfl ((fun _ _=>aC.cell))) rfl ?_)
 refine SW.alloc rfl fun b6 w1 aa fk az => ?_
 skip;refine SW.ah az rfl rfl rfl rfl (cq r) fun w2 de hg => ?_
 have ao:=aa.own fk hg;have dU:w.heap.size≤b6:=Nat.le_trans hw.size fk
 replace hw:=Ext.trans hw ao;replace aC:=aC.ext ao;replace aq:=aq.ext ao;replace aQ:=aQ.ext ao;replace bw:=bw.ext ao;replace az:=de;clear de aa hg ao;have l6:=az.lt;repeat' (first|refine Wy ?_|fail);refine SW.alloc rfl fun b7 w1 aa iP bP => ?_
 skip;refine SW.ah bP rfl rfl rfl rfl (jY ⟨0,0,.nil⟩) fun w2 bu hg => ?_
 have ao:=aa.own iP hg;have jq:w.heap.size≤b7:=Nat.le_trans hw.size iP
 replace hw:=Ext.trans hw ao;replace aC:=aC.ext ao;replace aq:=aq.ext ao;replace aQ:=aQ.ext ao;replace bw:=bw.ext ao;replace az:=az.ext ao;replace bP:=bu;clear bu aa hg ao;have Hf:b2≠b6:=by omega
 have Hg:b4≠b6:=by omega
 have LC:b2≠b4:=by omega
 have C2:b5≠b7:=by omega
 clear l2 l3 l4 l5 l6;repeat' (first|refine Wy ?_|refine SW.st (ay rfl rfl ((mP aC))) rfl ?_|refine SW.st (ax rfl (aq.cell (i:=0) (v := .int .i64 12) rfl)) rfl ?_)
 refine SW.call rfl rfl (Cv r.Heap s.Heap _ (hO.rd.heap.ext hw) hs.heap hf.bz) fun v w7 j4 hv => ?_
 obtain ⟨H,rfl,hH⟩:=hv;replace hH:=hH.low (Nat.le_trans gQ hw.size);(replace hw:=Ext.trans hw j4;replace aC:=aC.ext j4;replace aq:=aq.ext j4;replace aQ:=aQ.ext j4;replace bw:=bw.ext j4;replace az:=az.ext j4;replace bP:=bP.ext j4);clear j4;have cm:=hO.ext hw;have hA:=na.drain (s:=s) (a:=⟨12,cpu,n,m,At,fl,nm⟩) rfl;generalize ku s.Heap=u at hA hH ⊢
 obtain ⟨e,u1⟩:=u;simp only at hA hH ⊢;by_cases he:e=0
 ·rw [tr,if_pos he,he] at hA;rw [he];repeat' (first|refine Wy ?_|fail);refine SW.kV 1 az rfl rfl rfl (Nat.le_of_ble_eq_true rfl) (dt H) (bq ⟨r.Words,H,r.ai⟩) rfl fun Cu de hg => ?_
  have hG:=az.gr hg;replace aC:=aC.grown hg (by simpa using Hf);replace aQ:=aQ.grown hg (by simpa using Hg);replace hw:=hw.own dU hg;(replace aq:=aq.au hG rfl;replace bw:=bw.au hG rfl;replace bP:=bP.au hG rfl;replace cm:=cm.au hG rfl;replace hH:=hH.au hG rfl);replace az:=de;clear de hG hg;repeat' (first|refine Wy ?_|fail);refine SW.bp (i:=0) bP rfl rfl rfl rfl fun C1 bu hg => ?_
  have hG:=bP.gr hg;replace bw:=bw.grown hg (by simpa using C2);replace hw:=hw.own jq hg;(replace aC:=aC.au hG rfl;replace aq:=aq.au hG rfl;replace aQ:=aQ.au hG rfl;replace az:=az.au hG rfl;replace cm:=cm.au hG rfl;replace hH:=hH.au hG rfl);replace bP:aT _ b7 55 (fM ⟨0,0,.nil⟩):=bu;clear bu hG hg;repeat' (first|refine Wy ?_|refine SW.st (ax rfl (bP.cell (i:=0) (v := .int .i64 0) rfl)) rfl ?_)
  refine CW.l9 2 3 (fun w2=>aT w2 b7 55 (fM ⟨0,0,.nil⟩)) mixed (by kernel_rfl) fun w1 aa bm => ?_
  replace hw:=Ext.trans hw aa;replace aC:=aC.ext aa;replace aQ:=aQ.ext aa;replace bw:=bw.ext aa;replace az:=az.ext aa;replace bP:=bP.ext aa;replace cm:=cm.ext aa;replace hH:=hH.ext aa;clear aa;refine SF.take 0 [] [] bm rfl (by kernel_rfl) (by kernel_rfl) (by kernel_rfl) ?_;repeat ((show SW _ _ _ _ (⟨_,Op.load _ _,_,_,_,none⟩::_) _ _;refine SW.st (ay rfl rfl ((fun _ _=>az.cell))) rfl ?_))
  refine SW.ar ?_;refine SF.hU 1 [] bm rfl (by kernel_rfl) (by kernel_rfl) (by kernel_rfl) (ay rfl rfl ((fun _ _=>bP.cell))) (fun w2 hS=>ay rfl rfl ((fun _ _=>hS.cell))) rfl ?_;refine SF.turn rfl (by kernel_rfl) rfl ?_;refine SW.ah aQ rfl rfl rfl rfl (cq ⟨r.Words,H,r.ai⟩) fun w8 eW hg => ?_
  have hG:=aQ.gr hg;replace hw:=hw.own fZ hg;(replace bw:=bw.au hG rfl;replace bP:=bP.au hG rfl;replace cm:=cm.au hG rfl;replace hH:=hH.au hG rfl);have hS:=bP;refine SW.nil (ae.sg hS ?_);refine SG.last rfl (by kernel_rfl) (by kernel_rfl) ?_;refine SW.ah bw rfl rfl rfl rfl (jY ⟨0,0,.nil⟩) fun w9 eQ hg => ?_
  have hG:=bw.gr hg;replace hw:=hw.own j2 hg;(replace eW:=eW.au hG rfl;replace cm:=cm.au hG rfl;replace hH:=hH.au hG rfl);repeat' (first|refine Wy ?_|fail);exact ae.vd rfl rfl rfl eW eQ rfl rfl ⟨_,rfl,hw,_,hA,⟨r.Words,H,r.ai⟩,⟨0,0,.nil⟩,rfl,⟨cm.words,hH,cm.ck⟩,lL.plain _ _ _ _⟩
 ·rw [tr,if_neg he] at hA;repeat' (first|refine Wy ?_|fail);refine SW.kV 1 az rfl rfl rfl (Nat.le_of_ble_eq_true rfl) (dt H) (bq ⟨r.Words,H,r.ai⟩) rfl fun Cu de hg => ?_
  have hG:=az.gr hg;replace aC:=aC.grown hg (by simpa using Hf);replace aQ:=aQ.grown hg (by simpa using Hg);replace hw:=hw.own dU hg;(replace aq:=aq.au hG rfl;replace bw:=bw.au hG rfl;replace bP:=bP.au hG rfl;replace cm:=cm.au hG rfl;replace hH:=hH.au hG rfl);replace az:=de;clear de hG hg;repeat' (first|refine Wy ?_|fail);refine SW.bp (i:=0) bP rfl rfl rfl rfl fun C1 bu hg => ?_
  have hG:=bP.gr hg;replace bw:=bw.grown hg (by simpa using C2);replace hw:=hw.own jq hg;(replace aC:=aC.au hG rfl;replace aq:=aq.au hG rfl;replace aQ:=aQ.au hG rfl;replace az:=az.au hG rfl;replace cm:=cm.au hG rfl;replace hH:=hH.au hG rfl);replace bP:aT _ b7 55 (fM ⟨e,0,.nil⟩):=bu;clear bu hG hg;repeat' (first|refine Wy ?_|refine SW.st (ax rfl (bP.cell (i:=0) (v := .int .i64 e) rfl)) rfl ?_)
  refine CW.l9 2 3 (fun w2=>aT w2 b7 55 (fM ⟨e,0,.nil⟩)) mixed (by kernel_rfl) fun w1 aa bm => ?_
  replace hw:=Ext.trans hw aa;replace aC:=aC.ext aa;replace aQ:=aQ.ext aa;replace bw:=bw.ext aa;replace az:=az.ext aa;replace bP:=bP.ext aa;replace cm:=cm.ext aa;replace hH:=hH.ext aa;clear aa;refine SF.take 0 [] [] bm rfl (by kernel_rfl) (by kernel_rfl) (by kernel_rfl) ?_;repeat ((show SW _ _ _ _ (⟨_,Op.load _ _,_,_,_,none⟩::_) _ _;refine SW.st (ay rfl rfl ((fun _ _=>aC.cell))) rfl ?_))
  refine SW.ar ?_;refine SF.hU 1 [] bm rfl (by kernel_rfl) (by kernel_rfl) (by kernel_rfl) (ay rfl rfl ((fun _ _=>bP.cell))) (fun w2 hS=>ay rfl rfl ((fun _ _=>hS.cell))) rfl ?_;refine SF.turn rfl (by kernel_rfl) rfl ?_;refine SW.ah aQ rfl rfl rfl rfl (cq r) fun w8 eW hg => ?_
  have hG:=aQ.gr hg;replace hw:=hw.own fZ hg;(replace bw:=bw.au hG rfl;replace bP:=bP.au hG rfl;replace cm:=cm.au hG rfl;replace hH:=hH.au hG rfl);have hS:=bP;refine SW.nil (ae.sg hS ?_);refine SG.last rfl (by kernel_rfl) (by kernel_rfl) ?_;refine SW.ah bw rfl rfl rfl rfl (jY ⟨e,0,.nil⟩) fun w9 eQ hg => ?_
  have hG:=bw.gr hg;replace hw:=hw.own j2 hg;(replace eW:=eW.au hG rfl;replace cm:=cm.au hG rfl;replace hH:=hH.au hG rfl);repeat' (first|refine Wy ?_|fail);exact ae.vd rfl rfl rfl eW eQ rfl rfl ⟨_,rfl,hw,_,hA,r,⟨e,0,.nil⟩,rfl,cm,lL.plain _ _ _ _⟩
open Go.RowKit
theorem yo (A:Option Addr) (n c:Nat) (l:List Region) (w:World) (hl:Sl w 2 gp A n l) (hn:n≤9223372036854775807) :
 bl Tryz.prog 202 [.slice A n c] w fun v _=>v = .bool (da l):=by
 refine aD Tryz.func202 rfl Tryz.ntmps202 rfl ?_;have hw:=Ext.refl w;have hA:=hl.base;have nP:=hl.len;repeat' (first|refine Wz ?_|(refine CW.nM rfl (fun h => ?_) (fun h => ?_)))
 ·refine ae.aI rfl rfl ⟨_,rfl,hw,?_⟩;rw [lm (fun h=>by have:=h.1;omega)]
 ·refine CW.loop (fun k:Nat=>[(0,.slice A n c),(8,.slice A n c),(9,.int .i64 (n:Int)),(10,.int .i64 (k:Int))]) (fun k w'=>k≤n∧Ext w w' ∧ ∀ (i:Nat) (h:i<l.length),i<k→(l[i]).ok ∧ ∀ (h0 : 0<i),(l[i-1]'(by omega)).aw+(l[i-1]'(by omega)).aY<(l[i]).aw)
   (fun k=>n-k) 0 ⟨rfl,rfl,rfl,rfl,trivial⟩ ⟨by omega,hw,fun i h hi=>by omega⟩ ?_
  clear hw;rintro k w' ⟨hk,hw,hI⟩
  by_cases ey:k<n
  ·have eV:=hl.lt ey;have fQ:∀ {w1 w2:World} {b:Nat},Ext w w1→w.heap.size≤b→w1.grownBy w2 (some b)→Ext w w2:=fun h1 h2 hg=>aJ h1 hg (Nat.le_refl _) (fun k e=>by cases e;exact h2)
   by_cases iO:(l[k]).ok
   ·by_cases tY:k=0
    ·subst tY;repeat' (first|refine Wz ?_|refine SW.st (aN hw rfl rfl ((hl.all ey))) rfl ?_)
     refine SW.alloc rfl fun b w1 aa hb hB => ?_
     have wP:w.heap.size≤b:=Nat.le_trans hw.size hb
     replace hw:=Ext.trans hw aa;refine Wz ?_;refine SW.ah hB rfl rfl rfl rfl (fu.one (enc:=gp) _) fun w2 nl hg => ?_
     replace hw:=fQ hw wP hg;repeat' (first|refine Wz ?_|((apply CW.bg mixed;(· kernel_rfl);rotate_left;intro w1 aa;replace hw:=Ext.trans hw aa;replace nl:=nl.ext aa;clear aa;rotate_right))|refine SW.cI rfl rfl (fun w1 aa=>(mC iO _)) ?_|exact SW.du rfl)
     refine ae.again (0+1) ⟨rfl,rfl,rfl,rfl,trivial⟩ (by omega) ⟨by omega,hw,fun i h hi => ?_⟩;obtain rfl:i=0:=by omega
     exact ⟨iO,fun h0=>by omega⟩
    ·obtain ⟨j,rfl⟩ : ∃ j,k=j+1:=⟨k-1,by omega⟩;have hj:j<n:=by omega
     have hp:=(hI j (hl.lt hj) (by omega)).1;by_cases dg:(l[j]'(hl.lt hj)).aw+(l[j]'(hl.lt hj)).aY<(l[j+1]).aw
     all_goals
      repeat' (first|refine Wz ?_|refine SW.st (aN hw rfl rfl ((hl.all ey))) rfl ?_)
      refine SW.alloc rfl fun b w1 aa hb hB => ?_
      have wP:w.heap.size≤b:=Nat.le_trans hw.size hb
      replace hw:=Ext.trans hw aa;refine Wz ?_;refine SW.ah hB rfl rfl rfl rfl (fu.one (enc:=gp) _) fun w2 nl hg => ?_
      replace hw:=fQ hw wP hg;repeat' (first|refine Wz ?_|((apply CW.bg mixed;(· kernel_rfl);rotate_left;intro w1 aa;replace hw:=Ext.trans hw aa;replace nl:=nl.ext aa;clear aa;rotate_right))|refine SW.st (bc (j) rfl rfl (by assumption) (by omega) (by omega)) rfl ?_|refine SW.st (aN hw rfl rfl ((hl.all hj))) rfl ?_|refine SW.cI rfl rfl (fun w1 aa=>(mC iO _)) ?_|refine SW.cI rfl rfl (fun w1 aa=>(sk hp _)) ?_|exact SW.du rfl)
     ·refine ae.again (j+1+1) ⟨rfl,rfl,rfl,rfl,trivial⟩ (by omega) ⟨by omega,hw,fun i h hi => ?_⟩;by_cases j1:i=j+1
      ·subst j1;exact ⟨iO,fun _=>dg⟩
      ·exact hI i h (by omega)
     ·refine ae.aI rfl rfl ⟨_,rfl,hw,?_⟩;rw [lm (fun h=>dg ((h.2 (j+1) eV).2 (by omega)))]
   ·repeat' (first|refine Wz ?_|refine SW.st (aN hw rfl rfl ((hl.all ey))) rfl ?_)
    refine SW.alloc rfl fun b w1 aa hb hB => ?_
    have wP:w.heap.size≤b:=Nat.le_trans hw.size hb
    replace hw:=Ext.trans hw aa;refine Wz ?_;refine SW.ah hB rfl rfl rfl rfl (fu.one (enc:=gp) _) fun w2 nl hg => ?_
    replace hw:=fQ hw wP hg;repeat' (first|refine Wz ?_|((apply CW.bg mixed;(· kernel_rfl);rotate_left;intro w1 aa;replace hw:=Ext.trans hw aa;replace nl:=nl.ext aa;clear aa;rotate_right))|refine SW.cI rfl rfl (fun w1 aa=>(sj iO _)) ?_|exact SW.du rfl)
    refine ae.aI rfl rfl ⟨_,rfl,hw,?_⟩;rw [lm (fun h=>iO (h.2 k eV).1)]
  ·refine Wz ?_;refine ae.aI rfl rfl ⟨_,rfl,hw,?_⟩;rw [iA ⟨by omega,fun i h=>hI i h (by omega)⟩]
def kX (A:Option Addr) (n c:Nat) (B:Option Addr) (m d:Nat) : List Value:=[.slice A n c,.slice B m d]
noncomputable def kY (x y:List Region) : Bool:=da x && da y
theorem ve (A:Option Addr) (n c:Nat) (B:Option Addr) (m d:Nat) (x y:List Region) (w:World) (hx:Sl w 2 gp A n x) (hy:Sl w 2 gp B m y) (hn:n≤9223372036854775807) (hm:m≤9223372036854775807) :
 bl Tryz.prog 131 [.agg (kX A n c B m d).toArray] w fun v _=>v = .int .i64 (if kY x y then 0 else 8):=by
 refine aD Tryz.func131 rfl Tryz.ntmps131 rfl ?_;refine CW.seq (CW.region (SW.box rfl rfl fun b w1 hw hb hB => ?_));obtain ⟨bx,OK⟩ : ∃ b,da x=b:=⟨_,rfl⟩;obtain ⟨bY,OL⟩ : ∃ b,da y=b:=⟨_,rfl⟩;have l1:∀ w',Ext w w'→bl Tryz.prog 202 [.slice A n c] w' fun v _=>v = .bool bx:=fun w' h=>by have:=yo A n c x w' (hx.ext h) hn;rwa [OK] at this
 have l2:∀ w',Ext w w'→bl Tryz.prog 202 [.slice B m d] w' fun v _=>v = .bool bY:=fun w' h=>by have:=yo B m d y w' (hy.ext h) hm;rwa [OL] at this
 cases bx<;>cases bY
 all_goals
  repeat' (first|refine Wz ?_|(first|refine CW.eX rfl ?_|refine CW.eY rfl ?_)|refine SW.want rfl rfl ?_|refine SW.skip rfl rfl rfl rfl ?_|((first|refine SW.call rfl rfl (l1 _ hw) ?_|refine SW.call rfl rfl (l2 _ hw) ?_);intro v w1 aa hv;subst hv;replace hw:=Ext.trans hw aa;replace hB:=hB.ext aa;clear aa))
  refine ae.aI rfl rfl ⟨_,rfl,hw,?_⟩;simp [kY,OK,OL]
open Go.RowKit
theorem Ad {l:List Region} {k:Nat} (hk:k<l.length) (i:Int) : cK (l.take (k+1)) i=(cK (l.take k) i || (decide ((l[k]).aw≤i) && decide (i<(l[k]).aw+(l[k]).aY))):=by
 unfold cK;rw [List.take_succ_eq_append_getElem hk,List.any_append];simp only [List.any_cons,List.any_nil,Bool.or_false]
theorem IJ:marksOf (fun i=>cK [] i) 256=List.replicate 256 false:=by
 apply List.ext_getElem (by rw [xn,List.length_replicate]);intro j h1 h2;rw [iU,List.getElem_replicate]
 rfl
theorem tu (A:Option Addr) (n c:Nat) (l:List Region) (w:World) (hl:Sl w 2 gp A n l) (iO:∀ r∈l,r.ok) (hn:n≤9223372036854775807) :
 bl Tryz.prog 132 [.slice A n c] w fun v w' => ∃ B d,v = .slice B 256 d∧Own w' w.heap.size 4 1 oh B 256 d (marksOf (fun i=>cK l i) 256):=by
 refine aD Tryz.func132 rfl Tryz.ntmps132 rfl ?_;have hw:=Ext.refl w;have hA:=hl.base;refine Wz ?_;refine SW.make (enc:=oh) (k:=256) false rfl rfl rfl (by omega) (by omega) rfl fun B d w1 aa hS => ?_
 have gQ:=hw.size;replace hw:=Ext.trans hw aa;replace hS:=Own.low hS gQ;have RX:=hS.sl.base;refine Wz ?_
 refine CW.loop (fun k:Nat=>[(3,.slice B 256 d),(8,.slice A n c),(9,.int .i64 (n:Int)),(10,.int .i64 (k:Int))])
  (fun k w'=>k≤n∧Ext w w'∧Own w' w.heap.size 4 1 oh B 256 d (marksOf (fun i=>cK (l.take k) i) 256)) (fun k=>n-k) 0 ⟨rfl,rfl,rfl,rfl,trivial⟩ ⟨by omega,hw,by
    have e:marksOf (fun i=>cK (l.take 0) i) 256=List.replicate 256 false:=IJ
    rw [e];exact hS⟩ ?_
 clear hw hS;rintro k w' ⟨hk,hw,hO⟩
 by_cases ey:k<n
 ·have eV:=hl.lt ey;have tv:=iO (l[k]) (List.getElem_mem eV);obtain ⟨f,hf⟩:=Int.eq_ofNat_of_zero_le tv.1;obtain ⟨s,hs⟩:=Int.eq_ofNat_of_zero_le (show 0≤(l[k]).aY by have:=tv.2.1;omega);have KO:=tv.2.2.2;repeat' (first|refine Wz ?_|refine SW.st (aN hw rfl rfl ((hl.all ey))) rfl ?_)
  refine SW.alloc rfl fun b w1 aa hb hB => ?_
  have wP:w.heap.size≤b:=Nat.le_trans hw.size hb
  replace hw:=Ext.trans hw aa;replace hO:=hO.ext aa;skip;refine SW.ah hB rfl rfl rfl rfl (fu.one (enc:=gp) _) fun w2 nl hg => ?_
  replace hw:=hw.own wP hg;replace hO:=hO.grown hg (.inr (hO.cu hB rfl));refine Wz ?_
  refine CW.loop (fun j:Nat=>[(3,.slice B 256 d),(5,.pointer (some ⟨b,0,none⟩)),(6,.int .i64 ((f+j:Nat) : Int)),(8,.slice A n c),(9,.int .i64 (n:Int)),(10,.int .i64 (k:Int))])
   (fun j w'=>j≤s∧Ext w w'∧aT w' b 123 (gp (l[k]))∧Own w' w.heap.size 4 1 oh B 256 d (marksOf (fun i=>cK (l.take k) i || (decide (f≤i) && decide (i<f+j))) 256)) (fun j=>s-j) 0
   ⟨rfl,rfl,by rw [hf];rfl,rfl,rfl,rfl,trivial⟩ ⟨by omega,hw,nl,by
    have e:marksOf (fun i=>cK (l.take k) i || (decide (f≤i) && decide (i<f+0))) 256=marksOf (fun i=>cK (l.take k) i) 256:=eu fun i _=>by
     have:(decide (f≤i) && decide (i<f+0))=false:=by
      rcases Nat.lt_or_ge i f with h|h
      ·rw [decide_eq_false (by omega : ¬ f≤i)];rfl
      ·rw [decide_eq_false (by omega : ¬ i<f+0),Bool.and_false]
     rw [this,Bool.or_false]
    rw [e];exact hO⟩ ?_
  clear hw hO hB nl hg aa;rintro j w' ⟨hj,hw,nl,hO⟩
  by_cases RY:j<s
  ·repeat' (first|refine Wz ?_|(refine SW.call rfl rfl (sk tv _) ?_;intro v w1 aa hv;subst hv;replace hw:=Ext.trans hw aa;replace nl:=nl.ext aa;replace hO:=hO.ext aa;clear aa))
   refine SW.jz (f+j) 0 true hO rfl rfl rfl (by omega) (by omega) (by rw [add_zero]) rfl fun w3 Bv hg => ?_
   replace hw:=aJ hw hg (Nat.le_refl _) hO.ba;replace nl:=nl.grown hg (fun e=>hO.cu nl rfl e.symm);rw [mH] at Bv;refine Wz ?_;refine ae.again (j+1) ⟨rfl,rfl,rfl,rfl,rfl,rfl,trivial⟩ (by omega) ⟨by omega,hw,nl,?_⟩
   have e:marksOf (fun i=>cK (l.take k) i || (decide (f≤i) && decide (i<f+(j+1)))) 256=marksOf (fun i=>if i=f+j then true else cK (l.take k) i || (decide (f≤i) && decide (i<f+j))) 256:=eu fun i _=>by
    by_cases hi:i=f+j
    ·subst hi;have h1:f≤f+j:=by omega
     have h2:f+j<f+(j+1):=by omega
     simp [h1,h2]
    ·have e2:decide (i<f+(j+1))=decide (i<f+j):=by rw [decide_eq_decide];omega
     simp [hi,e2]
   rw [e];exact Bv
  ·obtain rfl:j=s:=by omega
   repeat' (first|refine Wz ?_|(refine SW.call rfl rfl (sk tv _) ?_;intro v w1 aa hv;subst hv;replace hw:=Ext.trans hw aa;replace nl:=nl.ext aa;replace hO:=hO.ext aa;clear aa))
   refine ae.again (k+1) ⟨rfl,rfl,rfl,rfl,trivial⟩ (by omega) ⟨by omega,hw,?_⟩
   have e:marksOf (fun i=>cK (l.take (k+1)) i) 256=marksOf (fun i=>cK (l.take k) i || (decide (f≤i) && decide (i<f+j))) 256:=eu fun i _=>by
    rw [Ad eV,hf,hs];have e1:decide (((f:Nat) : Int)≤(i:Int))=decide (f≤i):=by rw [decide_eq_decide];omega
    have e2:decide ((i:Int)<((f:Nat) : Int)+((j:Nat) : Int))=decide (i<f+j):=by rw [decide_eq_decide];omega
    rw [e1,e2]
   rw [e];exact hO
 ·refine Wz ?_;obtain rfl:k=n:=by omega
  refine ae.aI rfl rfl ⟨_,rfl,hw,B,d,rfl,?_⟩;rwa [List.take_of_length_le (by have:=hl.len;omega)] at hO
open Go.RowKit
def Bl (lo:Nat) (l:List Region) (v:Value) (w:World) : Prop := ∃ A c,v = .slice A l.length c∧Own w lo 123 2 gp A l.length c l
theorem aT.OM {w:World} {b:Nat} {t:TypeId} {r:Region} {vs:List Value} (h:aT w b t vs) (e:vs=gp r) : Sl w 2 gp (some ⟨b,0,none⟩) 1 [r]:=by subst e;exact aT.wU h
theorem wA (A:Option Addr) (c N:Nat) (hN:N=256) (p:Nat→Bool) (w:World) (hl:Sl w 1 oh A N (marksOf p N)) :
 bl Tryz.prog 133 [.slice A N c] w (Bl w.heap.size (runs p N)):=by
 refine aD Tryz.func133 rfl Tryz.ntmps133 rfl ?_;have hw:=Ext.refl w;have hA:=hl.base;have qE:∀ k,k<N→w.cell? ((A.getD default).add (k*1))=some (.bool (p k)):=fun k hk=>hl.one hk (by rw [iU];rfl)
 refine Wz ?_
 refine CW.loop (fun s:Nat×Option Addr×Nat=>[(3,.slice s.2.1 (runs p s.1).length s.2.2),(7,.slice A N c),(8,.int .i64 (N:Int)),(9,.int .i64 (s.1:Int))])
  (fun s w'=>s.1≤N∧Ext w w'∧Own w' w.heap.size 123 2 gp s.2.1 (runs p s.1).length s.2.2 (runs p s.1)) (fun s=>N-s.1) (0,none,0) ⟨rfl,rfl,rfl,rfl,trivial⟩ ⟨by omega,hw,Own.fj _ _ _ _ _ _⟩ ?_
 clear hw;rintro ⟨k,A1,c1⟩ w' ⟨hk,hw,hO⟩
 simp only at hk hO ⊢;have iO:=oR p k;have hlen:=iO.len;by_cases ey:k<N
 ·obtain ⟨bk,pQ⟩ : ∃ b,p k=b:=⟨_,rfl⟩;have hc:=qE k ey;rw [pQ] at hc;cases bk
  ·have e:runs p (k+1)=runs p k:=by simp [runs,pQ]
   repeat' (first|refine Wz ?_|(refine CW.eX rfl ?_)|refine SW.st (aM hw rfl hc) rfl ?_)
   refine ae.again (k+1,A1,c1) ⟨by rw [e];rfl,rfl,rfl,rfl,trivial⟩ (by simp only;omega) ⟨by simp only;omega,hw,by simp only;rw [e];exact hO⟩
  ·by_cases hq : 0<k∧p (k-1)=true
   ·obtain ⟨init,r,hr,RZ⟩:=iO.last hq.1 hq.2;have e:runs p (k+1)=init++[⟨r.aw,r.aY+1⟩]:=by simp [runs,pQ,hq,hr,j9]
    have rM:=iO.GK r (by rw [hr];simp);have tv:r.ok:=⟨rM.1,rM.2.1,by omega,by omega⟩
    rw [hr] at hO hlen ⊢;have um:(init++[r]).length=init.length+1:=by simp
    rw [um] at hO hlen;rw [um];have D7:=hO.sl.base;have ju:(init++[r])[init.length]'(by simp)=r:=by simp
    have eH:=hO.sl.all (i:=init.length) (by omega);rw [ju] at eH;have Qs:(init++[r]).set init.length ⟨r.aw,r.aY+1⟩=init++[⟨r.aw,r.aY+1⟩]:=by simp
    refine CW.seq ?_;repeat' (first|refine Wz ?_|(refine CW.eY rfl ?_)|refine SW.st (bc (init.length) rfl rfl (by assumption) (by omega) (by omega)) rfl ?_|refine SW.st (aM hw rfl hc) rfl ?_)
    refine SW.st (ay rfl rfl eH) rfl ?_;repeat' (first|refine Wz ?_|refine SW.st (bc (init.length) rfl rfl (by assumption) (by omega) (by omega)) rfl ?_|(refine SW.call rfl rfl (sk tv _) ?_;intro v w1 aa hv;subst hv;replace hw:=Ext.trans hw aa;replace hO:=hO.ext aa;clear aa))
    have eH:=hO.sl.all (i:=init.length) (by omega);rw [ju] at eH;refine SW.st (ax rfl (eH 1 (.int .i64 r.aY) rfl)) rfl ?_;repeat' (first|refine Wz ?_|refine SW.st (bc (init.length) rfl rfl (by assumption) (by omega) (by omega)) rfl ?_)
    refine SW.jz init.length 1 ⟨r.aw,r.aY+1⟩ hO rfl rfl rfl (by omega) (by omega) rfl (by rw [ju];rfl) fun w2 cm hg => ?_
    replace hw:=aJ hw hg (Nat.le_refl _) hO.ba;refine Wz ?_;refine ae.again (k+1,A1,c1) ⟨by simp only [e];simp [get];rfl,rfl,rfl,rfl,trivial⟩ (by simp only;omega) ⟨by simp only;omega,hw,?_⟩;simp only [e];rw [Qs] at cm;simpa using cm
   ·have e:runs p (k+1)=runs p k++[⟨(k:Int),1⟩]:=by
     simp only [runs,pQ,if_true];rw [if_neg hq]
    have Jq:∀ r∈runs p k,r.aw+r.aY<(k:Int):=iO.below fun h0=>by
     cases hh:p (k-1) with
     | false=>rfl
     | true=>exact absurd ⟨h0,hh⟩ hq
    have D7:=hO.sl.base;rcases List.eq_nil_or_concat (runs p k) with hn|⟨init,r,hr⟩
    ·rw [hn] at hO hlen e ⊢;simp only [List.length_nil];repeat' (first|refine Wz ?_|(refine CW.eY rfl ?_)|refine SW.st (aM hw rfl hc) rfl ?_)
     refine SW.dJ rfl rfl rfl rfl rfl fun b w1 aa hb hB => ?_
     replace hw:=Ext.trans hw aa;replace hO:=hO.ext aa;refine SW.append hO (aT.OM (r:=⟨(k:Int),1⟩) hB rfl) hw.size rfl rfl rfl (by simp) (by simp) fun A2 c2 w2 mn hg => ?_
     replace hw:=aJ hw hg (Nat.le_refl _) hO.ba;refine Wz ?_;refine ae.again (k+1,A2,c2) ⟨by simp only [e];rfl,rfl,rfl,rfl,trivial⟩ (by simp only;omega) ⟨by simp only;omega,hw,?_⟩;simp only [e];exact mn
    ·have lS:runs p k=init++[r]:=by simpa using hr
     have rM:=iO.GK r (by rw [lS];simp);have tv:r.ok:=⟨rM.1,rM.2.1,by omega,by omega⟩
     have FU:=Jq r (by rw [lS];simp);rw [lS] at hO hlen e ⊢;have um:(init++[r]).length=init.length+1:=by simp
     rw [um] at hO hlen;rw [um];have D7:=hO.sl.base;have ju:(init++[r])[init.length]'(by simp)=r:=by simp
     have eH:=hO.sl.all (i:=init.length) (by omega);rw [ju] at eH;repeat' (first|refine Wz ?_|(refine CW.eY rfl ?_)|refine SW.st (bc (init.length) rfl rfl (by assumption) (by omega) (by omega)) rfl ?_|refine SW.st (aM hw rfl hc) rfl ?_)
     refine SW.st (ay rfl rfl eH) rfl ?_;repeat' (first|refine Wz ?_|(refine SW.call rfl rfl (sk tv _) ?_;intro v w1 aa hv;subst hv;replace hw:=Ext.trans hw aa;replace hO:=hO.ext aa;clear aa))
     refine SW.dJ rfl rfl rfl rfl rfl fun b w1 aa hb hB => ?_
     replace hw:=Ext.trans hw aa;replace hO:=hO.ext aa;refine SW.append hO (aT.OM (r:=⟨(k:Int),1⟩) hB rfl) hw.size rfl rfl rfl (by omega) (by omega) fun A2 c2 w2 mn hg => ?_
     replace hw:=aJ hw hg (Nat.le_refl _) hO.ba;refine Wz ?_;refine ae.again (k+1,A2,c2) ⟨by simp only [e];simp [get];rfl,rfl,rfl,rfl,trivial⟩ (by simp only;omega) ⟨by simp only;omega,hw,?_⟩;simp only [e];simpa using mn
 ·refine Wz ?_;obtain rfl:k=N:=by omega
  exact ae.aI rfl rfl ⟨_,rfl,hw,A1,c1,rfl,hO⟩
open Go.RowKit
open Go.RowKit
theorem Own.IK {α β:Type} {w w':World} {lo kA:Nat} {e e':TypeId} {sz MJ:Nat} {enc : α → List Value} {Ih : β → List Value} {A B:Option Addr} {m c k d:Nat} {l:List α} {l':List β}
 (hO:Own w lo e sz enc A m c l) (hS:Own w' kA e' MJ Ih B k d l') (hle:w.heap.size≤kA) : (aG A c=none∨aG A c≠aG B d)∧(aG B d=none∨aG B d≠aG A c):=by
 rcases hO.row with ⟨_,rfl⟩|⟨hc,g,fW,rfl,_,h2,_⟩
 ·refine ⟨.inl (by simp [aG]),?_⟩;rcases hS.row with ⟨_,rfl⟩|⟨hd,g',Nk,rfl,_,ml,_⟩
  ·exact .inl (by simp [aG])
  ·exact .inr (by simp [aG,Nat.pos_iff_ne_zero.1 hd])
 ·have hg:g<w.heap.size:=(Array.getElem?_eq_some_iff.1 h2).1
  rcases hS.row with ⟨_,rfl⟩|⟨hd,g',Nk,rfl,gQ,ml,_⟩
  ·exact ⟨.inr (by simp [aG,Nat.pos_iff_ne_zero.1 hc]),.inl (by simp [aG])⟩
  ·have cr:g≠g':=by omega
   exact ⟨.inr (by simp [aG,Nat.pos_iff_ne_zero.1 hc,Nat.pos_iff_ne_zero.1 hd,cr]),.inr (by simp [aG,Nat.pos_iff_ne_zero.1 hc,Nat.pos_iff_ne_zero.1 hd,cr.symm])⟩
def gB (x y:List Region) (i:Nat) : Bool:=cK x i && !cK y i
theorem EO {x y:List Region} (h:kY x y=true) : (∀ r∈x,r.ok)∧(∀ r∈y,r.ok):=by
 simp only [kY,Bool.and_eq_true,oH] at h
 have key:∀ l:List Region,dX l → ∀ r∈l,r.ok:=fun l hl r hr=>by
  obtain ⟨i,hi,rfl⟩:=List.getElem_of_mem hr;exact (hl.2 i hi).1
 exact ⟨key x h.1,key y h.2⟩
noncomputable def gF (N:Nat) (x y:List Region) : Int×List Region:=if kY x y then (0,runs (gB x y) N) else (8,[])
def Cy (lo:Nat) (r:Int×List Region) (v:Value) (w:World) : Prop := ∃ A c,v = .tuple #[.slice A r.2.length c,.int .i64 r.1]∧Own w lo 123 2 gp A r.2.length c r.2
theorem qq {N:Nat} {x y:List Region} (h:kY x y=true) : gF N x y=(0,runs (gB x y) N):=by simp [gF,h]
theorem vf {N:Nat} {x y:List Region} (h:kY x y=false) : gF N x y=(8,[]):=by simp [gF,h]
theorem Ae (A:Option Addr) (n c:Nat) (B:Option Addr) (m d:Nat) (x y:List Region) (N:Nat) (hN:N=256) (w:World) (hx:Sl w 2 gp A n x) (hy:Sl w 2 gp B m y) (hn:n≤9223372036854775807) (hm:m≤9223372036854775807) :
 bl Tryz.prog 55 [.agg (kX A n c B m d).toArray] w (Cy w.heap.size (gF N x y)):=by
 refine aD Tryz.func55 rfl Tryz.ntmps55 rfl ?_;refine CW.seq (CW.region (SW.box rfl rfl fun b w1 hw hb hB => ?_));obtain ⟨q,hq⟩ : ∃ b,kY x y=b:=⟨_,rfl⟩;have c1:∀ w',Ext w w'→bl Tryz.prog 131 [.agg (kX A n c B m d).toArray] w' fun v _=>v = .int .i64 (if q then 0 else 8):=fun w' h=>by have:=ve A n c B m d x y w' (hx.ext h) (hy.ext h) hn hm;rwa [hq] at this
 cases q
 ·simp only [Bool.false_eq_true,if_false] at c1;rw [vf hq];repeat' (first|refine Wz ?_|(refine SW.call rfl rfl (c1 _ hw) ?_;intro v w1 aa hv;subst hv;replace hw:=Ext.trans hw aa;replace hB:=hB.ext aa;clear aa))
  exact ae.dk rfl rfl rfl ⟨_,rfl,hw,none,0,rfl,Own.fj _ _ _ _ _ _⟩
 ·simp only [if_true] at c1;rw [qq hq];obtain ⟨Qt,Qu⟩:=EO hq;repeat' (first|refine Wz ?_|(refine SW.call rfl rfl (c1 _ hw) ?_;intro v w1 aa hv;subst hv;replace hw:=Ext.trans hw aa;replace hB:=hB.ext aa;clear aa))
  refine CW.cut (fun L' w' => ∃ M d1 M2 d2,gH L' [(5,.slice M 256 d1),(6,.slice M2 256 d2)]∧Ext w w'∧Own w' w.heap.size 4 1 oh M 256 d1 (marksOf (fun i=>cK x i) 256)∧Own w' w.heap.size 4 1 oh M2 256 d2 (marksOf (fun i=>cK y i) 256)∧(aG M2 d2=none∨aG M2 d2≠aG M d1)) ?_ ?_
  ·refine CW.any 6 mixed (dq (by kernel_rfl)) rfl fun w1 aa bm => ?_
   replace hw:=Ext.trans hw aa;replace hB:=hB.ext aa;clear aa;refine Wa ?_;refine SA.one 2 rfl (by kernel_rfl) rfl ?_;refine SW.call rfl rfl (tu _ _ _ _ _ (hx.ext hw) Qt hn) fun v w2 ao hv => ?_
   obtain ⟨M,d1,rfl,hM⟩:=hv;replace hM:=hM.low hw.size;replace hw:=Ext.trans hw ao;replace hB:=hB.ext ao;refine SW.nil (ae.sa ao ?_);refine SA.one 5 rfl (by kernel_rfl) rfl ?_;refine SW.call rfl rfl (tu _ _ _ _ _ (hy.ext hw) Qu hm) fun v w3 ao hv => ?_
   obtain ⟨M2,d2,rfl,oY⟩:=hv;have cr:=(hM.IK oY (Nat.le_refl _)).2;replace oY:=oY.low hw.size;replace hM:=hM.ext ao;replace hw:=Ext.trans hw ao;replace hB:=hB.ext ao;refine SW.nil (ae.sa ao ?_);refine SA.done (by kernel_rfl) ?_;refine Wz ?_;exact ae.cut (K:=fun L' w' => ∃ M d1 M2 d2,gH L' [(5,.slice M 256 d1),(6,.slice M2 256 d2)]∧Ext w w'∧Own w' w.heap.size 4 1 oh M 256 d1 (marksOf (fun i=>cK x i) 256)∧Own w' w.heap.size 4 1 oh M2 256 d2 (marksOf (fun i=>cK y i) 256)∧(aG M2 d2=none∨aG M2 d2≠aG M d1)) ⟨M,d1,M2,d2,⟨rfl,rfl,trivial⟩,hw,hM,oY,cr⟩
  ·clear hB hw c1;rintro L' w' ⟨M,d1,M2,d2,hs,hw,hM,oY,cr⟩
   refine ae.sub hs ?_;have R0:=hM.sl.base;have Qv:=oY.sl.base;have e0:marksOf (fun i=>cK x i) 256=marksOf (fun i=>if i<0 then gB x y i else cK x i) 256:=eu fun i _=>by rw [if_neg (by omega)]
   rw [e0] at hM;clear e0;refine Wz ?_
   refine CW.loop (fun k:Nat=>[(5,.slice M 256 d1),(6,.slice M2 256 d2),(20,.int .i64 256),(21,.int .i64 (k:Int))])
    (fun k w'=>k≤256∧Ext w w'∧Own w' w.heap.size 4 1 oh M 256 d1 (marksOf (fun i=>if i<k then gB x y i else cK x i) 256)∧Own w' w.heap.size 4 1 oh M2 256 d2 (marksOf (fun i=>cK y i) 256)) (fun k=>256-k) 0 ⟨rfl,rfl,rfl,rfl,trivial⟩ ⟨by omega,hw,hM,oY⟩ ?_
   clear hw hM oY;rintro k w' ⟨hk,hw,hM,oY⟩
   by_cases ey:k<256
   ·obtain ⟨bx,LD⟩ : ∃ b,cK x k=b:=⟨_,rfl⟩;obtain ⟨bY,rB⟩ : ∃ b,cK y k=b:=⟨_,rfl⟩;have h1:w'.cell? ((M.getD default).add (k*1))=some (.bool bx):=hM.sl.one ey (by rw [iU,if_neg (by omega),LD];rfl)
    have h2:w'.cell? ((M2.getD default).add (k*1))=some (.bool bY):=oY.sl.one ey (by rw [iU,rB];rfl)
    have hf:gB x y k=(bx && !bY):=by simp [gB,LD,rB]
    have e1:marksOf (fun i=>if i<k+1 then gB x y i else cK x i) 256=marksOf (fun i=>if i=k then (bx && !bY) else if i<k then gB x y i else cK x i) 256:=eu fun i _=>by
     by_cases hi:i=k
     ·subst hi;rw [if_pos (by omega),if_pos rfl,hf]
     ·rw [if_neg hi];by_cases h2:i<k
      ·rw [if_pos (by omega),if_pos h2]
      ·rw [if_neg (by omega),if_neg h2]
    cases bx<;>cases bY
    all_goals
     repeat' (first|refine Wz ?_|refine SW.st (ax rfl h1) rfl ?_|refine SW.st (ax rfl h2) rfl ?_)
     first
      | refine SW.jz k 0 true hM rfl rfl rfl ey (by omega) (by rw [add_zero]) rfl fun w3 Bv hg => ?_
      | refine SW.jz k 0 false hM rfl rfl rfl ey (by omega) (by rw [add_zero]) rfl fun w3 Bv hg => ?_
     replace hw:=aJ hw hg (Nat.le_refl _) hM.ba;replace oY:=oY.grown hg cr;rw [mH] at Bv;refine Wz ?_;exact ae.again (k+1) ⟨rfl,rfl,rfl,rfl,trivial⟩ (by omega) ⟨by omega,hw,by rw [e1];exact Bv,oY⟩
   ·have e:marksOf (fun i=>if i<k then gB x y i else cK x i) 256=marksOf (gB x y) 256:=eu fun i hi=>by rw [if_pos (by omega)]
    rw [e] at hM
    have KP:∀ w',Sl w' 1 oh M 256 (marksOf (gB x y) 256)→bl Tryz.prog 133 [.slice M 256 d1] w' (Bl w'.heap.size (runs (gB x y) N)):=fun w' h=>by
     have Bz:Sl w' 1 oh M N (marksOf (gB x y) N):=by rw [hN];exact h
     have h1:=wA M d1 N hN (gB x y) _ Bz;rwa [show Value.slice M N d1 = .slice M 256 d1 by rw [hN]] at h1
    refine Wz ?_;refine SW.call rfl rfl (KP _ hM.sl) fun v w3 iN hv => ?_
    obtain ⟨A2,c2,rfl,cm⟩:=hv;have gQ:=hw.size;replace hw:=Ext.trans hw iN;refine Wz ?_;exact ae.dk rfl rfl rfl ⟨_,rfl,hw,A2,c2,rfl,cm.low gQ⟩
open Go.RowKit
set_option maxHeartbeats 4000000 in
theorem Cz (r:bU) (z:ab) (f s:Int) (w:World) (hr:yU w r z) (hf:(r.ag.n+1)*24≤140737488355328) (ht:r.Types.n*8≤140737488355328) (h1 : -9223372036854775808≤r.aw∧r.aw≤9223372036854775807) (h2 : -9223372036854775808≤r.To∧r.To≤9223372036854775807) :
 bl Tryz.prog 135 [.agg (bG r).toArray,.int .i64 f,.int .i64 s] w (oL w.heap.size (kG z f s)):=by
 refine aD Tryz.func135 rfl Tryz.ntmps135 rfl ?_;refine CW.seq (CW.region (SW.box rfl rfl fun b3 w1 hw bL aq => ?_));refine SW.alloc rfl fun b6 w2 bo fk az => ?_
 have dU:w.heap.size≤b6:=Nat.le_trans hw.size fk
 have jF:b3≠b6:=by have:=aq.lt;omega
 (replace hw:=Ext.trans hw bo;replace aq:=aq.ext bo);have eF:=hr.from_;have eT:=hr.jA;have Fe:=hr.free.len;have I5:=hr.types.len;obtain ⟨q,hq⟩ : ∃ q,df z=q:=⟨_,rfl⟩
 have c1:∀ w',Ext w w'→bl Tryz.prog 176 [.agg (bG r).toArray] w' fun v _=>v = .int .i64 (if q then 0 else 8):=fun w' h=>by
  have:=gK r z w' (hr.ext h) (by omega) (by omega) h1 h2
  rwa [hq] at this
 cases q
 ·simp only [Bool.false_eq_true,if_false] at c1;rw [AO hq];repeat' (first|refine Wz ?_|(refine SW.call rfl rfl (c1 _ hw) ?_;intro v w1 aa hv;subst hv;replace hw:=Ext.trans hw aa;replace aq:=aq.ext aa;replace az:=az.ext aa;clear aa))
  refine SW.ah az rfl rfl rfl rfl (cx .zero) fun w5 ct hg => ?_
  replace hw:=hw.own dU hg;refine Wz ?_;exact ae.cA rfl rfl rfl ct rfl ⟨_,rfl,hw,.zero,rfl,dT.zero _ _⟩
 ·simp only [if_true] at c1;have hz:=dc.1 hq;obtain ⟨o1,o2,o3,o4,o5⟩:=hz.ok;have zp:=gu hz;by_cases vg:iT z f s
  ·obtain ⟨a1,a2,a3,a4⟩:=id vg;obtain ⟨n,rfl⟩:=Int.eq_ofNat_of_zero_le a1;rw [AQ hq vg];repeat' (first|refine Wz ?_|(refine SW.call rfl rfl (c1 _ hw) ?_;intro v w1 aa hv;subst hv;replace hw:=Ext.trans hw aa;replace aq:=aq.ext aa;replace az:=az.ext aa;clear aa))
   all_goals try omega
   refine SW.call rfl rfl (nk r z _ (hr.ext hw) (by omega) ht) fun v w4 dz hv => ?_
   obtain ⟨u,rfl,hs,_,_⟩:=hv;replace hs:=hs.low hw.size;(replace hw:=Ext.trans hw dz;replace aq:=aq.ext dz;replace az:=az.ext dz);clear c1;skip;refine SW.ah aq rfl rfl rfl rfl (cx u) fun w5 cS hg => ?_
   have hG:=aq.gr hg;replace hw:=hw.own bL hg;replace hs:=hs.cU aq hg rfl rfl;replace az:=az.grown hg (by simpa using jF.symm);replace aq:=cS;clear cS hg hG;refine Wz ?_
   refine CW.loop (fun t:Nat×ab×bU=>[(1,.int .i64 f),(2,.int .i64 (n:Int)),(3,.pointer (some ⟨b3,0,none⟩)),(6,.pointer (some ⟨b6,0,none⟩)),(9,.int .i64 (f+(t.1:Int)))])
    (fun t w'=>t.1≤n∧Ext w w'∧aT w' b3 139 (bG t.2.2)∧aT w' b6 139 (bG .zero)∧dT w' w.heap.size t.2.2 t.2.1∧oP n z f=oP (n-t.1) t.2.1 (f+(t.1:Int))∧t.2.1.ag.length≤257∧t.2.1.Types.length≤32∧t.2.1.aw=z.aw∧t.2.1.To=z.To) (fun t=>n-t.1) (0,z,u)
    ⟨rfl,rfl,rfl,rfl,congrArg (fun x=>some (Value.int .i64 x)) (by simp),trivial⟩ ⟨by omega,hw,aq,az,hs,by simp,by simp only;omega,by simp only;omega,rfl,rfl⟩ ?_
   clear hw aq az hs;rintro ⟨k,zc,u⟩ w' ⟨hk,hw,aq,az,hs,xl,oB,Mq,M3,Qw⟩
   simp only at hk aq hs xl oB Mq M3 Qw ⊢;by_cases ey:k<n
   ·have e1:=hs.free.sl.len;have e2:=hs.types.sl.len;have e3:=hs.from_;have e4:=hs.jA;have Jq:=iC zc (f+(k:Int)) 0;refine Wz ?_;refine SW.call rfl rfl (kH u zc (f+(k:Int)) 0 _ hs.rd (Nat.le_trans (Nat.mul_le_mul_right 24 (show u.ag.n+1≤258 by omega)) (by decide)) (by omega) ⟨by omega,by omega⟩ ⟨by omega,by omega⟩) fun v w5 qL hv => ?_
    obtain ⟨o,ho⟩ : ∃ o,bV zc (f+(k:Int)) 0=o:=⟨_,rfl⟩;rw [ho] at hv Jq;obtain ⟨u',rfl,jo⟩:=hv;replace jo:=jo.low hw.size;(replace hw:=Ext.trans hw qL;replace aq:=aq.ext qL;replace az:=az.ext qL;replace hs:=hs.ext qL);refine Wz ?_;refine SW.alloc rfl fun Fk w1 aa qN eA => ?_
    skip;refine SW.ah eA rfl rfl rfl rfl (cx _) fun w2 kg hg => ?_
    have ao:=aa.own qN hg;have A6:w.heap.size≤Fk:=Nat.le_trans hw.size qN
    replace hw:=Ext.trans hw ao;replace aq:=aq.ext ao;replace az:=az.ext ao;replace hs:=hs.ext ao;replace jo:=jo.ext ao;replace eA:=kg;clear kg aa hg ao;have ON:=aq.lt;obtain ⟨m,hm⟩ : ∃ m,n-k=m+1:=⟨n-k-1,by omega⟩;rw [hm] at xl;simp only [oP,ho] at xl;by_cases Ga:o.1=0
    ·rw [if_pos Ga] at xl;rw [Ga];refine Wz ?_;refine SW.ah aq rfl rfl rfl rfl (cx u') fun w6 cS hg => ?_
     replace hw:=hw.own bL hg;replace jo:=jo.cU aq hg rfl rfl;replace az:=az.grown hg (by simpa using jF.symm);refine Wz ?_;obtain ⟨q1,q2,q3⟩:=Jq.2.2 Ga;have e9:f+(k:Int)+1=f+((k+1:Nat) : Int):=by omega
     have Qx:m=n-(k+1):=by omega
     exact ae.again (k+1,o.2,u') ⟨rfl,rfl,rfl,rfl,congrArg (fun x=>some (Value.int .i64 x)) e9,trivial⟩ (by simp only;omega) ⟨by simp only;omega,hw,cS,az,jo,by simp only;rw [← e9,← Qx];exact xl,Jq.1,Jq.2.1,by simp only;omega,by simp only;omega⟩
    ·rw [if_neg Ga] at xl;rw [xl];refine Wz ?_;refine SW.ah az rfl rfl rfl rfl (cx .zero) fun w5 ct hg => ?_
     replace hw:=hw.own dU hg;refine Wz ?_;exact ae.cA rfl rfl rfl ct rfl ⟨_,rfl,hw,.zero,rfl,dT.zero _ _⟩
   ·have e0:n-k=0:=by omega
    rw [e0] at xl;simp only [oP] at xl;rw [xl];refine Wz ?_;refine SW.ah az rfl rfl rfl rfl (cx u) fun w5 ct hg => ?_
    replace hw:=hw.own dU hg;replace hs:=hs.cU az hg rfl rfl;refine Wz ?_;exact ae.cA rfl rfl rfl ct rfl ⟨_,rfl,hw,u,rfl,hs⟩
  ·rw [AP hq vg];unfold iT at vg;repeat' (first|refine Wz ?_|refine SW.en rfl rfl rfl (fun h => ?_) (fun h => ?_)|(refine SW.call rfl rfl (c1 _ hw) ?_;intro v w1 aa hv;subst hv;replace hw:=Ext.trans hw aa;replace aq:=aq.ext aa;replace az:=az.ext aa;clear aa))
   all_goals
    first
     | (exfalso;omega)
     | (refine SW.ah az rfl rfl rfl rfl (cx .zero) fun w5 ct hg => ?_
        replace hw:=hw.own dU hg;refine Wz ?_;exact ae.cA rfl rfl rfl ct rfl ⟨_,rfl,hw,.zero,rfl,dT.zero _ _⟩)
end Go.Proofs.YtbidkghlpijecaaGreatDoor
