/-
  Texts of the claim KmemAllocs, part 21: what its theorem leans on.
-/
import Derived.Test.YtbidkghlpijecaaGreatDoorPackKmemAllocs15
import Derived.Test.YtbidkghlpijecaaGreatDoorPackKmemAllocs2
import Derived.Test.YtbidkghlpijecaaGreatDoorPackKmemAllocs6
import Derived.Test.YtbidkghlpijecaaGreatDoorPackKmemAllocs14
set_option linter.unusedVariables false
set_option linter.unusedSimpArgs false
namespace Go.Proofs.YtbidkghlpijecaaGreatDoor
open Go.RowKit
set_option maxHeartbeats 4000000 in
theorem gL (r:dQ) (s:aE) (w:World) (hr:qR w r s) (hs:s.small) :
 bo Tryz.prog 20 [.agg (aR r).toArray] w fun v w' => ∃ q zr,v = .agg (aR q).toArray∧SX w' w.heap.size q s zr∧SI w' w.heap.size q s zr:=by
 refine aI Tryz.func20 rfl Tryz.ntmps20 rfl ?_;refine CW.seq (CW.region (SW.box rfl rfl fun b1 w1 hw gV aB => ?_));refine SW.alloc rfl fun b2 w2 cq g7 aL => ?_
 have pY:w.heap.size≤b2:=Nat.le_trans hw.size g7
 have yP:b2≠b1:=by have:=aB.lt;omega
 (replace hw:=Ext.trans hw cq;replace aB:=aB.ext cq);obtain ⟨cs,hc⟩:=hr.dn;have Ia:=hr.words.len;have s1:=hs.words;have s3:=hs.dn;obtain ⟨c1,c2⟩:=hc.len;refine Wz ?_
 obtain ⟨K,hK⟩ : ∃ K:Env→World→Prop,K=fun L' w' => ∃ X c1 G b3 m1 m2,ez L' [(1,.pointer (some ⟨b1,0,none⟩)),(2,.pointer (some ⟨b2,0,none⟩)),(3,.pointer (some ⟨b3,0,none⟩))]∧Ext w w'∧aJ w' b1 44 (aR r)∧aJ w' b2 44 (aR .zero) ∧
  aJ w' b3 44 (aR ⟨⟨X,r.Words.n,c1⟩,G,.nil⟩)∧Own w' w.heap.size 3 1 bd X r.Words.n c1 s.Words∧fC w' m1 m2 G s.Heap∧(w.heap.size≤m1∧m1≤m2∧m2≤w'.heap.size ∧ ∀ g,aU X c1=some g→g<m1)∧w.heap.size≤b3∧b1≠b3∧b2≠b3:=⟨_,rfl⟩
 refine CW.cut K ?_ ?_
 ·refine CW.any 8 mixed (cj (by kernel_rfl)) rfl fun w1 ab aG => ?_
  replace hw:=Ext.trans hw ab;replace aB:=aB.ext ab;replace aL:=aL.ext ab;clear ab;refine Wa ?_;refine SA.take 4 aG rfl (by kernel_rfl) (by kernel_rfl) rfl ?_;repeat ((show SW _ _ _ _ (⟨_,Op.load _ _,_,_,_,none⟩::_) _ _;refine SW.st (aW rfl rfl ((fY aB))) rfl ?_))
  refine SW.ah ?_;refine SA.two 2 7 rfl rfl (by kernel_rfl) rfl rfl ?_ ?_
  ·refine SW.call rfl rfl (gf _ _ _ _ _ (hr.words.ext hw) (by omega)) fun v w4 aj hv => ?_
   obtain ⟨X,c4,rfl,hX⟩:=hv;replace hX:=hX.low hw.size;replace hw:=Ext.trans hw aj;replace aB:=aB.ext aj;replace aL:=aL.ext aj;try replace aq:=aq.ext aj
   refine SW.nil (ae.sa aj ?_);refine SA.two 5 7 rfl rfl (by kernel_rfl) rfl rfl ?_ ?_
   ·refine SW.call rfl rfl (jS _ _ _ (hr.heap.ext hw) hs.heap) fun v w4 aj hv => ?_
    obtain ⟨G,rfl,hY⟩:=hv;have DV:∃ m1 m2,w.heap.size≤m1∧m1≤m2∧m2≤w4.heap.size∧(∀ g,aU X c4=some g→g<m1)∧fC w4 m1 m2 G s.Heap:=⟨_,_,hw.size,aj.size,Nat.le_refl _,hX.lt_size,hY.mc⟩
    clear hY;obtain ⟨m1,m2,qx,la,qy,zN,hY⟩:=DV;replace hX:=hX.ext aj;replace hw:=Ext.trans hw aj;replace aB:=aB.ext aj;replace aL:=aL.ext aj;try replace aq:=aq.ext aj
    refine SW.nil (ae.sa aj ?_);refine Wa ?_;refine SA.one 7 rfl (by kernel_rfl) rfl ?_;refine SW.alloc rfl fun b3 w4 aj bH aq => ?_
    have cw:w.heap.size≤b3:=Nat.le_trans hw.size bH
    try replace qy:=Nat.le_trans qy aj.size
    have ey:b1≠b3:=by have:=aB.lt;omega
    have er:b2≠b3:=by have:=aL.lt;omega
    replace hw:=Ext.trans hw aj;replace aB:=aB.ext aj;replace aL:=aL.ext aj;try replace hX:=hX.ext aj
    try replace hY:=hY.ext aj
    refine SW.nil (ae.sa aj ?_);refine SA.done (by kernel_rfl) ?_;skip;refine SW.ak aq rfl rfl rfl rfl (cr ⟨⟨X,r.Words.n,c4⟩,G,.nil⟩) fun w5 bF hg => ?_
    have hG:=aq.gr hg;have wz:=Nat.le_trans qy hg.size;replace hw:=hw.own cw hg;(replace hX:=hX.ay hG rfl;replace hY:=hY.ay hG rfl);replace aB:=aB.grown hg (by simpa using ey);replace aL:=aL.grown hg (by simpa using er);refine Wz ?_;exact ae.cut (K:=K) (by rw [hK];exact ⟨X,c4,G,b3,m1,m2,⟨rfl,rfl,rfl,trivial⟩,hw,aB,aL,bF,hX,hY,⟨qx,la,wz,zN⟩,cw,ey,er⟩)
   ·refine SW.alloc rfl fun b3 w4 aj bH aq => ?_
    have cw:w.heap.size≤b3:=Nat.le_trans hw.size bH
    try replace qy:=Nat.le_trans qy aj.size
    have ey:b1≠b3:=by have:=aB.lt;omega
    have er:b2≠b3:=by have:=aL.lt;omega
    replace hw:=Ext.trans hw aj;replace aB:=aB.ext aj;replace aL:=aL.ext aj;try replace hX:=hX.ext aj
    try replace hY:=hY.ext aj
    refine SW.nil (ae.sa aj ?_);refine SA.one 5 rfl (by kernel_rfl) rfl ?_;refine SW.call rfl rfl (jS _ _ _ (hr.heap.ext hw) hs.heap) fun v w4 aj hv => ?_
    obtain ⟨G,rfl,hY⟩:=hv;have DV:∃ m1 m2,w.heap.size≤m1∧m1≤m2∧m2≤w4.heap.size∧(∀ g,aU X c4=some g→g<m1)∧fC w4 m1 m2 G s.Heap:=⟨_,_,hw.size,aj.size,Nat.le_refl _,hX.lt_size,hY.mc⟩
    clear hY;obtain ⟨m1,m2,qx,la,qy,zN,hY⟩:=DV;replace hX:=hX.ext aj;replace hw:=Ext.trans hw aj;replace aB:=aB.ext aj;replace aL:=aL.ext aj;try replace aq:=aq.ext aj
    refine SW.nil (ae.sa aj ?_);refine Wa ?_;refine SA.done (by kernel_rfl) ?_;skip;refine SW.ak aq rfl rfl rfl rfl (cr ⟨⟨X,r.Words.n,c4⟩,G,.nil⟩) fun w5 bF hg => ?_
    have hG:=aq.gr hg;have wz:=Nat.le_trans qy hg.size;replace hw:=hw.own cw hg;(replace hX:=hX.ay hG rfl;replace hY:=hY.ay hG rfl);replace aB:=aB.grown hg (by simpa using ey);replace aL:=aL.grown hg (by simpa using er);refine Wz ?_;exact ae.cut (K:=K) (by rw [hK];exact ⟨X,c4,G,b3,m1,m2,⟨rfl,rfl,rfl,trivial⟩,hw,aB,aL,bF,hX,hY,⟨qx,la,wz,zN⟩,cw,ey,er⟩)
  ·refine SW.alloc rfl fun b3 w4 aj bH aq => ?_
   have cw:w.heap.size≤b3:=Nat.le_trans hw.size bH
   try replace qy:=Nat.le_trans qy aj.size
   have ey:b1≠b3:=by have:=aB.lt;omega
   have er:b2≠b3:=by have:=aL.lt;omega
   replace hw:=Ext.trans hw aj;replace aB:=aB.ext aj;replace aL:=aL.ext aj;try replace hX:=hX.ext aj
   try replace hY:=hY.ext aj
   refine SW.nil (ae.sa aj ?_);refine SA.one 2 rfl (by kernel_rfl) rfl ?_;refine SW.call rfl rfl (gf _ _ _ _ _ (hr.words.ext hw) (by omega)) fun v w4 aj hv => ?_
   obtain ⟨X,c4,rfl,hX⟩:=hv;replace hX:=hX.low hw.size;replace hw:=Ext.trans hw aj;replace aB:=aB.ext aj;replace aL:=aL.ext aj;try replace aq:=aq.ext aj
   refine SW.nil (ae.sa aj ?_);refine SA.one 5 rfl (by kernel_rfl) rfl ?_;refine SW.call rfl rfl (jS _ _ _ (hr.heap.ext hw) hs.heap) fun v w4 aj hv => ?_
   obtain ⟨G,rfl,hY⟩:=hv;have DV:∃ m1 m2,w.heap.size≤m1∧m1≤m2∧m2≤w4.heap.size∧(∀ g,aU X c4=some g→g<m1)∧fC w4 m1 m2 G s.Heap:=⟨_,_,hw.size,aj.size,Nat.le_refl _,hX.lt_size,hY.mc⟩
   clear hY;obtain ⟨m1,m2,qx,la,qy,zN,hY⟩:=DV;replace hX:=hX.ext aj;replace hw:=Ext.trans hw aj;replace aB:=aB.ext aj;replace aL:=aL.ext aj;try replace aq:=aq.ext aj
   refine SW.nil (ae.sa aj ?_);refine Wa ?_;refine SA.done (by kernel_rfl) ?_;skip;refine SW.ak aq rfl rfl rfl rfl (cr ⟨⟨X,r.Words.n,c4⟩,G,.nil⟩) fun w5 bF hg => ?_
   have hG:=aq.gr hg;have wz:=Nat.le_trans qy hg.size;replace hw:=hw.own cw hg;(replace hX:=hX.ay hG rfl;replace hY:=hY.ay hG rfl);replace aB:=aB.grown hg (by simpa using ey);replace aL:=aL.grown hg (by simpa using er);refine Wz ?_;exact ae.cut (K:=K) (by rw [hK];exact ⟨X,c4,G,b3,m1,m2,⟨rfl,rfl,rfl,trivial⟩,hw,aB,aL,bF,hX,hY,⟨qx,la,wz,zN⟩,cw,ey,er⟩)
 ·clear aB aL hw;subst hK;rintro L' w' ⟨X,c4,G,b3,m1,m2,fv,hw,aB,aL,aq,hX,hY,⟨qx,la,wz,zN⟩,cw,ey,er⟩
  refine ae.sub fv ?_;refine Wz ?_
  refine CW.loop (fun s:Nat×Option Addr×Nat×List dr=>[(1,.pointer (some ⟨b1,0,none⟩)),(2,.pointer (some ⟨b2,0,none⟩)),(3,.pointer (some ⟨b3,0,none⟩)),(4,.int .i64 (s.1:Int))])
   (fun t w'=>t.1≤r.aa.n∧m2≤w'.heap.size∧Ext w w'∧aJ w' b1 44 (aR r)∧aJ w' b2 44 (aR .zero)∧aJ w' b3 44 (aR ⟨⟨X,r.Words.n,c4⟩,G,⟨t.2.1,t.1,t.2.2.1⟩⟩)∧Own w' w.heap.size 3 1 bd X r.Words.n c4 s.Words∧fC w' m1 m2 G s.Heap ∧
     dX w' m2 ⟨t.2.1,t.1,t.2.2.1⟩ t.2.2.2 (s.aa.take t.1)∧wm ⟨X,r.Words.n,c4⟩ t.2.2.2) (fun t=>r.aa.n-t.1) (0,none,0,[]) ⟨rfl,rfl,rfl,rfl,trivial⟩ ⟨by omega,wz,hw,aB,aL,aq,hX,hY,dX.nil _ _,wm.nil _⟩ ?_
  clear aB aL aq hX hY hw fv;rintro ⟨k,A,c,zr⟩ w' ⟨hk,wz,hw,aB,aL,aq,hX,hY,hO,xl⟩
  simp only at hk aq hO xl ⊢;have hA:=hc.row.base;by_cases cb:k<r.aa.n
  ·have ul:k<cs.length:=by omega
   have nF:k<s.aa.length:=by omega
   have gn:=hc.each.get k ul nF;have q:=hs.each _ (List.getElem_mem nF);have q1:=gn.names.len;have q2:=gn.aS.len;have q3:=gn.a8.len;have q4:=q.names;have q5:=q.aS;have q6:=q.a8;have zO:=hO.row.lt_size;repeat' (first|refine Wz ?_|refine SW.st (aH hw rfl rfl ((hc.row.all cb))) rfl ?_)
   refine SW.alloc rfl fun b5 w1 ab il cd => ?_
   skip;refine SW.ak cd rfl rfl rfl rfl (sO _) fun w2 fX hg => ?_
   have aj:=ab.own il hg;have nS:w.heap.size≤b5:=Nat.le_trans hw.size il
   replace hw:=Ext.trans hw aj;replace aB:=aB.ext aj;replace aL:=aL.ext aj;replace aq:=aq.ext aj;replace hX:=hX.ext aj;replace hY:=hY.ext aj;replace hO:=hO.ext aj;replace cd:=fX;clear fX ab hg aj;have DW:m2≤b5:=Nat.le_trans wz il
   refine Wz ?_;have M6:Ext w w2:=hw
   refine CW.loop (fun t:Nat×Option Addr×Nat=>[(1,.pointer (some ⟨b1,0,none⟩)),(2,.pointer (some ⟨b2,0,none⟩)),(3,.pointer (some ⟨b3,0,none⟩)),(4,.int .i64 (k:Int)),(5,.pointer (some ⟨b5,0,none⟩)),(6,.slice t.2.1 t.1 t.2.2),(7,.int .i64 (t.1:Int))])
    (fun t w'=>t.1≤cs[k].Names.n∧Ext w2 w'∧Own w' w2.heap.size 9 1 encStr t.2.1 t.1 t.2.2 (s.aa[k].Names.take t.1)) (fun t=>cs[k].Names.n-t.1) (0,none,0) ⟨rfl,rfl,rfl,rfl,rfl,rfl,rfl,trivial⟩ ⟨by omega,Ext.refl _,by simpa using Own.eJ _ _ _ _ _ _⟩ ?_
   clear hw;rintro ⟨j,B,d⟩ w3 ⟨hj,hw,hB⟩
   simp only at hj hB ⊢;have rX:=gn.names.base;by_cases je:j<cs[k].Names.n
   ·repeat' (first|refine Wz ?_|refine SW.st (ap hw rfl (cd.cell (i:=0) (v := .slice cs[k].Names.A cs[k].Names.n cs[k].Names.c) rfl)) rfl ?_|refine SW.st (ap hw rfl ((gn.names.ext M6).one je rfl)) rfl ?_)
    refine SW.bK rfl rfl rfl rfl rfl fun b w1 ab hb HC => ?_
    replace hw:=Ext.trans hw ab;replace hB:=hB.ext ab;refine SW.append hB (aJ.mo (enc:=encStr) HC) hw.size rfl rfl rfl (by omega) (by omega) fun A2 c2 w4 fU hg => ?_
    replace hw:=aF hw hg (Nat.le_refl _) hB.aM;refine Wz ?_;refine ae.again (j+1,A2,c2) ⟨rfl,rfl,rfl,rfl,rfl,rfl,rfl,trivial⟩ (by simp only;omega) ⟨by simp only;omega,hw,?_⟩;rw [List.take_succ_eq_append_getElem (by omega)];exact fU
   ·obtain rfl:j=cs[k].Names.n:=by omega
    rw [List.take_of_length_le (by omega)] at hB;repeat' (first|refine Wz ?_|refine SW.st (ap hw rfl (cd.cell (i:=0) (v := .slice cs[k].Names.A cs[k].Names.n cs[k].Names.c) rfl)) rfl ?_)
    have wB:=hw;have zZ:=hO.MQ (b:=⟨B,cs[k].Names.n,d⟩) hB.aM;replace hB:=hB.low (Nat.le_trans DW (Nat.le_of_lt cd.lt));replace hw:=M6;(replace hw:=Ext.trans hw wB;replace aB:=aB.ext wB;replace aL:=aL.ext wB;replace aq:=aq.ext wB;replace cd:=cd.ext wB;replace hX:=hX.ext wB;replace hY:=hY.ext wB;replace hO:=hO.ext wB);have M7:Ext w w3:=hw
    refine CW.loop (fun t:Nat×Option Addr×Nat=>[(1,.pointer (some ⟨b1,0,none⟩)),(2,.pointer (some ⟨b2,0,none⟩)),(3,.pointer (some ⟨b3,0,none⟩)),(4,.int .i64 (k:Int)),(5,.pointer (some ⟨b5,0,none⟩)),(6,.slice B cs[k].Names.n d),(8,.slice t.2.1 t.1 t.2.2),(9,.int .i64 (t.1:Int))])
     (fun t w'=>t.1≤cs[k].ai.n∧Ext w3 w'∧Own w' w3.heap.size 91 3 aY t.2.1 t.1 t.2.2 (s.aa[k].ai.take t.1)) (fun t=>cs[k].ai.n-t.1) (0,none,0) ⟨rfl,rfl,rfl,rfl,rfl,rfl,rfl,rfl,trivial⟩ ⟨by omega,Ext.refl _,by simpa using Own.eJ _ _ _ _ _ _⟩ ?_
    clear hw wB;rintro ⟨j,M,m⟩ w4 ⟨hj,hw,hM⟩
    simp only at hj hM ⊢;have PE:=gn.aS.base;by_cases je:j<cs[k].ai.n
    ·repeat' (first|refine Wz ?_|refine SW.st (ap hw rfl (cd.cell (i:=4) (v := .slice cs[k].ai.A cs[k].ai.n cs[k].ai.c) rfl)) rfl ?_|refine SW.st (aH hw rfl rfl (((gn.aS.ext M7).all je))) rfl ?_)
     refine SW.bK rfl rfl rfl rfl rfl fun b w1 ab hb HC => ?_
     replace hw:=Ext.trans hw ab;replace hM:=hM.ext ab;refine SW.append hM (aJ.mo (enc:=aY) HC) hw.size rfl rfl rfl (by omega) (by omega) fun A2 c2 w5 fU hg => ?_
     replace hw:=aF hw hg (Nat.le_refl _) hM.aM;refine Wz ?_;refine ae.again (j+1,A2,c2) ⟨rfl,rfl,rfl,rfl,rfl,rfl,rfl,rfl,trivial⟩ (by simp only;omega) ⟨by simp only;omega,hw,?_⟩;rw [List.take_succ_eq_append_getElem (by omega)];exact fU
    ·obtain rfl:j=cs[k].ai.n:=by omega
     rw [List.take_of_length_le (by omega)] at hM;repeat' (first|refine Wz ?_|refine SW.st (ap hw rfl (cd.cell (i:=4) (v := .slice cs[k].ai.A cs[k].ai.n cs[k].ai.c) rfl)) rfl ?_)
     have wB:=hw;have LW:=hO.MR (b:=⟨M,cs[k].ai.n,m⟩) hM.aM;replace hM:=hM.low (Nat.le_trans DW (Nat.le_of_lt cd.lt));replace hw:=M7;(replace hw:=Ext.trans hw wB;replace aB:=aB.ext wB;replace aL:=aL.ext wB;replace aq:=aq.ext wB;replace cd:=cd.ext wB;replace hX:=hX.ext wB;replace hY:=hY.ext wB;replace hO:=hO.ext wB;replace hB:=hB.ext wB);refine SW.bA (i:=0) cd rfl rfl rfl rfl fun w6 fX hg => ?_
     have hG:=cd.gr hg;replace hw:=hw.own nS hg;replace hO:=hO.c8 cd hg zO il;(replace aB:=aB.ay hG rfl;replace aL:=aL.ay hG rfl;replace aq:=aq.ay hG rfl;replace hX:=hX.ay hG rfl;replace hY:=hY.ay hG rfl;replace hB:=hB.ay hG rfl;replace hM:=hM.ay hG rfl);replace cd:=fX;clear fX hg hG;refine Wz ?_;refine SW.bA (i:=4) cd rfl rfl rfl rfl fun w6 fX hg => ?_
     have hG:=cd.gr hg;replace hw:=hw.own nS hg;replace hO:=hO.c8 cd hg zO il;(replace aB:=aB.ay hG rfl;replace aL:=aL.ay hG rfl;replace aq:=aq.ay hG rfl;replace hX:=hX.ay hG rfl;replace hY:=hY.ay hG rfl;replace hB:=hB.ay hG rfl;replace hM:=hM.ay hG rfl);replace cd:=fX;clear fX hg hG;refine Wz ?_;refine SW.call rfl rfl (gf _ _ _ _ _ (gn.a8.ext hw) (by omega)) fun v w7 aj hv => ?_
     obtain ⟨Q,q7,rfl,hQ⟩:=hv;have qY:=hO.MS (b:=⟨Q,cs[k].au.n,q7⟩) hQ.aM;have Ep:=j2 (a:=⟨X,r.Words.n,c4⟩) (b:=⟨Q,cs[k].au.n,q7⟩) hX hQ.aM;replace hQ:=hQ.low (Nat.le_trans DW (Nat.le_of_lt cd.lt));(replace hw:=Ext.trans hw aj;replace aB:=aB.ext aj;replace aL:=aL.ext aj;replace aq:=aq.ext aj;replace cd:=cd.ext aj;replace hX:=hX.ext aj;replace hY:=hY.ext aj;replace hO:=hO.ext aj;replace hB:=hB.ext aj;replace hM:=hM.ext aj);refine Wz ?_;refine SW.bA (i:=5) cd rfl rfl rfl rfl fun w6 fX hg => ?_
     have hG:=cd.gr hg;replace hw:=hw.own nS hg;replace hO:=hO.c8 cd hg zO il;(replace aB:=aB.ay hG rfl;replace aL:=aL.ay hG rfl;replace aq:=aq.ay hG rfl;replace hX:=hX.ay hG rfl;replace hY:=hY.ay hG rfl;replace hB:=hB.ay hG rfl;replace hM:=hM.ay hG rfl;replace hQ:=hQ.ay hG rfl);replace cd:=fX;clear fX hg hG;refine Wz ?_;refine SW.bK rfl rfl rfl rfl rfl fun b w6 aj hb HC => ?_
     (replace hw:=Ext.trans hw aj;replace aB:=aB.ext aj;replace aL:=aL.ext aj;replace aq:=aq.ext aj;replace hX:=hX.ext aj;replace hY:=hY.ext aj;replace hO:=hO.ext aj;replace hB:=hB.ext aj;replace hM:=hM.ext aj;replace hQ:=hQ.ext aj);refine SW.append hO.row (aJ.mo (enc:=dh) (x:=⟨⟨B,_,d⟩,cs[k].bg,cs[k].cm,cs[k].Order,⟨M,_,m⟩,⟨Q,_,q7⟩⟩) HC) (Nat.le_trans DW (Nat.le_trans (Nat.le_of_lt cd.lt) aj.size)) rfl rfl rfl (by simp only;omega) (by simp only;omega) fun A2 c2 w5 fU hg => ?_
     have hG:=hO.row.gr hg;have LQ:=Nat.le_trans (Nat.le_trans DW (Nat.le_trans (Nat.le_of_lt cd.lt) aj.size)) hg.size;replace hw:=aF hw hg (Nat.le_trans qx la) hO.row.aM;(replace aB:=aB.ay hG rfl;replace aL:=aL.ay hG rfl;replace aq:=aq.ay hG rfl;replace hX:=hX.ay hG rfl;replace hY:=hY.ay hG rfl;replace hB:=hB.ay hG rfl;replace hM:=hM.ay hG rfl;replace hQ:=hQ.ay hG rfl);have hE:=hO.each.mono fun _ _ h=>h.ay hG rfl
     refine Wz ?_;refine SW.bA (i:=6) aq rfl rfl rfl rfl fun w6 cK hg => ?_
     have hG:=aq.gr hg;replace hw:=hw.own cw hg;replace aB:=aB.grown hg (by simpa using ey);replace aL:=aL.grown hg (by simpa using er);(replace hX:=hX.ay hG rfl;replace hY:=hY.ay hG rfl;replace hB:=hB.ay hG rfl;replace hM:=hM.ay hG rfl;replace hQ:=hQ.ay hG rfl;replace fU:=fU.ay hG rfl);replace hE:=hE.mono fun _ _ h=>h.ay hG rfl
     refine Wz ?_;refine ae.again (k+1,A2,c2,zr++[⟨⟨B,_,d⟩,cs[k].bg,cs[k].cm,cs[k].Order,⟨M,_,m⟩,⟨Q,_,q7⟩⟩]) ⟨rfl,rfl,rfl,rfl,trivial⟩ (by simp only;omega) ⟨by simp only;omega,Nat.le_trans LQ hg.size,hw,aB,aL,cK,hX,hY,⟨fU,?_⟩,xl.snoc (fun u hu=>⟨zZ u hu,LW u hu,qY u hu⟩) Ep⟩;rw [List.take_succ_eq_append_getElem (by omega)];exact hE.snoc ⟨gn.size,gn.ji,gn.order,hB,hM,hQ⟩
  ·obtain rfl:k=r.aa.n:=by omega
   rw [List.take_of_length_le (by omega)] at hO;refine Wz ?_;refine SW.ak aL rfl rfl rfl rfl (cr _) fun w5 bF hg => ?_
   have hG:=aL.gr hg;replace hw:=hw.own pY hg;(replace hX:=hX.ay hG rfl;replace hY:=hY.ay hG rfl;replace hO:=hO.ay hG rfl);refine Wz ?_;exact ae.mr rfl rfl bF rfl ⟨_,rfl,hw,⟨_,G,_⟩,zr,rfl,⟨hX,hY.own.low qx,hO.row.low (Nat.le_trans qx la),hO.each.mono fun _ _ h=>h.low (Nat.le_trans qx la),xl.pair⟩,⟨m1,m2,qx,la,zN,hY,hO.each⟩⟩
open Go.RowKit
inductive nv (p:Block→Bool) (l:List Block) : Block×Bool→Prop
 | hit {k:Nat} (hk:k<l.length) (hp:p l[k]=true) (hf:∀ (j:Nat) (hj:j<l.length),j<k→p l[j]=false) : nv p l (l[k],true)
 | vH (hf:∀ (j:Nat) (hj:j<l.length),p l[j]=false) : nv p l (⟨0,0,0⟩,false)
theorem nv.HD {p:Block→Bool} {l:List Block} {u:Block×Bool} (h:nv p l u) {k:Nat} (hk:k<l.length) (hp:p l[k]=true) (hf:∀ (j:Nat) (hj:j<l.length),j<k→p l[j]=false) : u=(l[k],true):=by
 cases h with
 | @hit k' oR Ai uh =>
   rcases Nat.lt_trichotomy k k' with h|h|h
   ·rw [uh k hk h] at hp;cases hp
   ·subst h;rfl
   ·rw [hf k' oR h] at Ai;cases Ai
 | vH uh=>rw [uh k hk] at hp;cases hp
theorem nv.Fy {p:Block→Bool} {l:List Block} {u:Block×Bool} (h:nv p l u) (ha:l.any p=false) : u=(⟨0,0,0⟩,false):=by
 cases h with
 | @hit k' oR Ai uh =>
   have:=List.any_eq_false.1 ha _ (List.getElem_mem oR)
   exact absurd Ai (by simpa using this)
 | vH=>rfl
set_option maxHeartbeats 2000000 in
theorem wC (A:Option Addr) (n c:Nat) (l:List Block) (o t:Int) (w:World) (hl:Sl w 3 aA A n l) (hn:n≤9223372036854775807) (hs:∀ (i j:Nat) (hj:j<l.length) (kW:i<j),(l[i]'(by omega)).At≤l[j].At) :
 bo Tryz.prog 252 [.slice A n c,.int .i64 o,.int .i64 t] w fun v _ => ∃ u,nv (fW o t) l u∧v = .tuple #[.agg (aA u.1).toArray,.bool u.2]:=by
 refine aI Tryz.func252 rfl Tryz.ntmps252 rfl ?_;have hw:=Ext.refl w;refine CW.seq (CW.region (SW.alloc rfl fun b6 w1 ab cu aw => ?_));replace hw:=Ext.trans hw ab;clear ab;refine Wz ?_;refine SW.alloc rfl fun b8 w1 ab M8 bw => ?_
 have jr:w.heap.size≤b8:=Nat.le_trans hw.size M8
 have cG:b6≠b8:=by have:=aw.lt;omega
 (replace hw:=Ext.trans hw ab;replace aw:=aw.ext ab);skip;refine SW.ak bw rfl rfl rfl rfl (fw.one (enc:=aA) ⟨0,0,0⟩) fun w2 iU hg => ?_
 replace hw:=hw.own jr hg;replace aw:=aw.grown hg (by simpa using cG);replace bw:=iU;clear iU hg ab M8;have hA:=hl.base;have mn:=hl.len;refine Wz ?_
 refine CW.loop (fun u:Nat×Block×Bool=>[(0,.slice A n c),(1,.int .i64 o),(2,.int .i64 t),(6,.pointer (some ⟨b6,0,none⟩)),(8,.pointer (some ⟨b8,0,none⟩)),(9,.bool u.2.2),(10,.int .i64 (u.1:Int))])
  (fun u w'=>u.1≤n∧Ext w w'∧aJ w' b6 165 (aA ⟨0,0,0⟩)∧aJ w' b8 165 (aA u.2.1)∧((u.2.2=false∧u.2.1=⟨0,0,0⟩ ∧ ∀ (j:Nat) (hj:j<l.length),j<u.1→fW o t l[j]=false) ∨ ∃ (k:Nat) (hk:k<l.length),k<u.1∧u.2.2=true∧u.2.1=l[k]∧fW o t l[k]=true ∧ ∀ (j:Nat) (hj:j<l.length),j<k→fW o t l[j]=false))
  (fun u=>n-u.1) (0,⟨0,0,0⟩,false) ⟨rfl,rfl,rfl,rfl,rfl,rfl,rfl,trivial⟩ ⟨by simp only;omega,hw,aw,bw,.inl ⟨rfl,rfl,fun j hj h=>by simp only at h;omega⟩⟩ ?_
 clear hw aw bw;rintro ⟨i,x,f⟩ w' ⟨hi,hw,aw,bw,hI⟩
 simp only at hi bw hI ⊢;by_cases cf:i<n
 ·have kK:i<l.length:=by omega
  obtain ⟨y,hy⟩ : ∃ y,l[i]=y:=⟨_,rfl⟩;have g0:=hl.dA cf (j:=0) (u := .int .i64 y.At) (by rw [hy];rfl);have g1:=hl.dA cf (j:=1) (u := .int .i64 y.Order) (by rw [hy];rfl);have g2:=hl.dA cf (j:=2) (u := .int .i64 y.Ty) (by rw [hy];rfl);have gA:=hl.all cf;simp only [hy] at gA
  have Gc:fW o t l[i]=false→(f=false∧x=⟨0,0,0⟩ ∧ ∀ (j:Nat) (hj:j<l.length),j<i+1→fW o t l[j]=false) ∨ ∃ (k:Nat) (hk:k<l.length),k<i+1∧f=true∧x=l[k]∧fW o t l[k]=true ∧ ∀ (j:Nat) (hj:j<l.length),j<k→fW o t l[j]=false:=fun hm=>by
   rcases hI with ⟨h1,h2,h3⟩|⟨k,hk,h1,h2⟩
   ·refine .inl ⟨h1,h2,fun j hj h => ?_⟩;by_cases e:j=i
    ·subst e;exact hm
    ·exact h3 j hj (by omega)
   ·exact .inr ⟨k,hk,by omega,h2⟩
  by_cases h1:y.Order=o
  ·by_cases h2:y.Ty=t
   ·have hp:fW o t l[i]=true:=lu.2 ⟨by rw [hy];exact h1,by rw [hy];exact h2⟩
    rcases hI with ⟨rfl,rfl,h3⟩|⟨k,hk,rm,rfl,hx,h4,h5⟩
    ·repeat' (first|refine Wz ?_|((apply CW.aP mixed;(· kernel_rfl);rotate_left;intro w1 ab;replace hw:=Ext.trans hw ab;replace aw:=aw.ext ab;replace bw:=bw.ext ab;clear ab;rotate_right))|refine SW.skip rfl rfl rfl rfl ?_|refine SW.st (ap hw rfl g1) rfl ?_|refine SW.st (ap hw rfl g2) rfl ?_|refine SW.st (aH hw rfl rfl gA) rfl ?_|exact SW.bx rfl)
     refine SW.ak bw rfl rfl rfl rfl (fw.one (enc:=aA) y) fun w2 iU hg => ?_
     replace hw:=hw.own jr hg;replace aw:=aw.grown hg (by simpa using cG);refine Wz ?_;exact ae.again (i+1,y,true) ⟨rfl,rfl,rfl,rfl,rfl,rfl,rfl,trivial⟩ (by simp only;omega) ⟨by simp only;omega,hw,aw,iU,.inr ⟨i,kK,by simp only;omega,rfl,hy.symm,hp,h3⟩⟩
    ·have hle:=hs k i kK rm;rw [hy,← hx] at hle;repeat' (first|refine Wz ?_|((apply CW.aP mixed;(· kernel_rfl);rotate_left;intro w1 ab;replace hw:=Ext.trans hw ab;replace aw:=aw.ext ab;replace bw:=bw.ext ab;clear ab;rotate_right))|refine SW.want rfl rfl ?_|refine SW.st (ap hw rfl g0) rfl ?_|refine SW.st (ap hw rfl g1) rfl ?_|refine SW.st (ap hw rfl g2) rfl ?_|exact SW.bx rfl)
     all_goals try omega
     exact ae.again (i+1,x,true) ⟨rfl,rfl,rfl,rfl,rfl,rfl,rfl,trivial⟩ (by simp only;omega) ⟨by simp only;omega,hw,aw,bw,.inr ⟨k,hk,by simp only;omega,rfl,hx,h4,h5⟩⟩
   ·have hm:=Gc (by cases e:fW o t l[i];rfl;exact absurd (hy ▸ (lu.1 e).2) h2);repeat' (first|refine Wz ?_|((apply CW.aP mixed;(· kernel_rfl);rotate_left;intro w1 ab;replace hw:=Ext.trans hw ab;replace aw:=aw.ext ab;replace bw:=bw.ext ab;clear ab;rotate_right))|refine SW.st (ap hw rfl g1) rfl ?_|refine SW.st (ap hw rfl g2) rfl ?_|exact SW.bx rfl)
    all_goals try omega
    exact ae.again (i+1,x,f) ⟨rfl,rfl,rfl,rfl,rfl,rfl,rfl,trivial⟩ (by simp only;omega) ⟨by simp only;omega,hw,aw,bw,hm⟩
  ·have hm:=Gc (by cases e:fW o t l[i];rfl;exact absurd (hy ▸ (lu.1 e).1) h1);repeat' (first|refine Wz ?_|((apply CW.aP mixed;(· kernel_rfl);rotate_left;intro w1 ab;replace hw:=Ext.trans hw ab;replace aw:=aw.ext ab;replace bw:=bw.ext ab;clear ab;rotate_right))|refine SW.st (ap hw rfl g1) rfl ?_|exact SW.bx rfl)
   all_goals try omega
   exact ae.again (i+1,x,f) ⟨rfl,rfl,rfl,rfl,rfl,rfl,rfl,trivial⟩ (by simp only;omega) ⟨by simp only;omega,hw,aw,bw,hm⟩
 ·refine Wz ?_;refine SW.ak aw rfl rfl rfl rfl (fw.one (enc:=aA) x) fun w2 bF hg => ?_
  replace hw:=hw.own cu hg;refine Wz ?_;refine ae.fI rfl rfl rfl bF rfl ⟨_,rfl,hw,(x,f),?_,rfl⟩;rcases hI with ⟨rfl,rfl,h3⟩|⟨k,hk,rm,rfl,rfl,h4,h5⟩
  ·exact .vH fun j hj=>h3 j hj (by omega)
  ·exact .hit hk h4 h5
theorem tO (t:Int) (w:World) (ht:fp t) :
 bo Tryz.prog 253 [.int .i64 t] w fun v w' => ∃ A,v = .slice A 2 2∧Own w' w.heap.size 3 1 bd A 2 2 [mY t,mZ t]:=by
 refine aI Tryz.func253 rfl Tryz.ntmps253 rfl ?_;have hw:=Ext.refl w;unfold fp at ht;rcases (show t=0∨t=1∨t=2 by omega) with rfl|rfl|rfl
 ·refine Wz ?_;refine SW.wj (enc:=bd) 2 1 rfl rfl rfl rfl rfl rfl fun g w1 ab hg hO => ?_
  refine Wz ?_;exact ae.aO rfl rfl ⟨_,rfl,ab,_,rfl,hO⟩
 ·refine Wz ?_;refine SW.wj (enc:=bd) 2 0 rfl rfl rfl rfl rfl rfl fun g w1 ab hg hO => ?_
  refine Wz ?_;exact ae.aO rfl rfl ⟨_,rfl,ab,_,rfl,hO⟩
 ·refine Wz ?_;refine SW.wj (enc:=bd) 0 1 rfl rfl rfl rfl rfl rfl fun g w1 ab hg hO => ?_
  refine Wz ?_;exact ae.aO rfl rfl ⟨_,rfl,ab,_,rfl,hO⟩
end Go.Proofs.YtbidkghlpijecaaGreatDoor
