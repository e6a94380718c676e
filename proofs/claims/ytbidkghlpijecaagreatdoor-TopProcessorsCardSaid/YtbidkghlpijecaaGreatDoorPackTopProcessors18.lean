/-
  Texts of the claim TopProcessors, part 18: what its theorem leans on.
-/
import Derived.Test.YtbidkghlpijecaaGreatDoorPackTopProcessors14
import Derived.Test.YtbidkghlpijecaaGreatDoorPackTopProcessors15
import Derived.Test.YtbidkghlpijecaaGreatDoorPackTopProcessors17
import Derived.Test.YtbidkghlpijecaaGreatDoorPackTopProcessors2
set_option linter.unusedVariables false
set_option linter.unusedSimpArgs false
namespace Go.Proofs.YtbidkghlpijecaaGreatDoor
open Go.RowKit
def JP (G:Nat→Prop) (wb w0:World) (b:Nat) (r:eQ) (s:ag) (i:Nat) (c:aF) (cpu:Nat) (v:Value) (w':World) : Prop :=
 ∃ u,ct s.Heap (cpu:Int) c.Order 0 u ∧
  ((u.2.2≠0∧v = .tuple #[.int .i64 0,.int .i64 u.2.2]∧Ext w0 w')∨(u.2.2=0 ∧ ¬ gi s.Words.length (16*u.2.1) c.aE c.bG∧v = .tuple #[.int .i64 0,.int .i64 1]∧Ext w0 w') ∨
   (u.2.2=0∧gi s.Words.length (16*u.2.1) c.aE c.bG∧v = .tuple #[.int .i64 (dT c u.2.1:Int),.int .i64 0]∧Ext wb w'∧(∀ j x,j≠b→aW w0 j 44 x→aW w' j 44 x)∧(∀ j x,aW w0 j 156 x→aW w' j 156 x)∧(∀ j x,aW w0 j 3 x→aW w' j 3 x) ∧
    ∃ X H cs',aW w' b 44 (ba ⟨X,H,r.aa⟩)∧SX w' wb.heap.size ⟨X,H,r.aa⟩ (bV (kU s (er s.Words (16*u.2.1) c.aE c.bG)) i (u.1,dz c u.2.1)) cs'∧SJ G w' wb.heap.size ⟨X,H,r.aa⟩ (bV (kU s (er s.Words (16*u.2.1) c.aE c.bG)) i (u.1,dz c u.2.1)) cs'))
set_option maxHeartbeats 8000000 in
theorem Bw (G:Nat→Prop) (wb w0:World) (b:Nat) (r:eQ) (s:ag) (cs:List dv) (i cpu:Nat) (hf:s.dW) (hi:i<s.aa.length) (hM:wj s s.aa[i]) (kq:nq w0)
 (hx:Ext wb w0) (hb:aW w0 b 44 (ba r)) (Af:wb.heap.size≤b) (hS:SX w0 wb.heap.size r s cs) (Ms:∀ g,G g→g<w0.heap.size ∧ ∀ u∈cs,aM u.ar.A u.ar.c≠some g) (xS:(s.aa[i].ab.length+1)*24≤140737488355328) :
 jw Tryz.prog 243 [.pointer (some ⟨b,0,none⟩),.int .i64 (i:Int),.int .i64 (cpu:Int)] w0 (JP G wb w0 b r s i s.aa[i] cpu):=by
 refine dM Tryz.func243 rfl Tryz.ntmps243 rfl ?_;have h1:=hf.jv;have hm:=hM.most;have NT:=hM.words;have uj:=hS.JI;have gB:=hx.size;have e0:=nI hi;obtain ⟨e1,e2⟩:=hS.len;have kO:i<cs.length:=by omega
 have df:i<r.aa.n:=by omega
 have Oy:=hS.row.sl.base;have Oz:=hS.words.len;have hC:=hS.each.get i kO hi;have su:=hC.order;have Eu:=hC.size;have zN:=hC.g7;have q1:=hC.aH.len;have Ha:=db hM.lay;have hw:=Ext.refl w0;clear hC;refine Wz ?_;refine CW.iL 15 17 (fun _=>True) mixed (by kernel_rfl) fun w1 ae aJ => ?_
 replace hw:=Ext.trans hw ae;replace hb:=hb.ext ae;replace hS:=hS.ext ae;clear ae;refine SF.take 0 [] [] aJ rfl (by kernel_rfl) (by kernel_rfl) (by kernel_rfl) ?_;repeat (refine SW.pure rfl rfl ?_)
 refine SW.ai ?_;refine SF.take 1 [] [] aJ rfl (by kernel_rfl) (by kernel_rfl) (by kernel_rfl) ?_;repeat ((show SW _ _ _ _ (⟨_,Op.nilCheck _,_,_,_,none⟩::_) _ _;refine SW.st (aC rfl) rfl ?_))
 refine SW.ai ?_;refine SF.take 2 [] [] aJ rfl (by kernel_rfl) (by kernel_rfl) (by kernel_rfl) ?_;repeat ((show SW _ _ _ _ (⟨_,Op.fieldAddr _ _ _,_,_,_,none⟩::_) _ _;refine SW.st (aP rfl) rfl ?_))
 refine SW.ai ?_;refine SF.take 3 [] [] aJ rfl (by kernel_rfl) (by kernel_rfl) (by kernel_rfl) ?_;repeat ((show SW _ _ _ _ (⟨_,Op.load _ _,_,_,_,none⟩::_) _ _;refine SW.st (aB rfl rfl ((mq hb))) rfl ?_))
 refine SW.ai ?_;refine SF.take 4 [] [] aJ rfl (by kernel_rfl) (by kernel_rfl) (by kernel_rfl) ?_;repeat (refine SW.pure rfl rfl ?_)
 refine SW.ai ?_;refine SF.take 5 [] [] aJ rfl (by kernel_rfl) (by kernel_rfl) (by kernel_rfl) ?_;repeat (refine SW.pure rfl rfl ?_)
 refine SW.ai ?_;refine SF.take 6 [] [] aJ rfl (by kernel_rfl) (by kernel_rfl) (by kernel_rfl) ?_;repeat ((show SW _ _ _ _ (⟨_,Op.nilCheck _,_,_,_,none⟩::_) _ _;refine SW.st (aC rfl) rfl ?_))
 refine SW.ai ?_;refine SF.take 7 [] [] aJ rfl (by kernel_rfl) (by kernel_rfl) (by kernel_rfl) ?_;repeat ((show SW _ _ _ _ (⟨_,Op.fieldAddr _ _ _,_,_,_,none⟩::_) _ _;refine SW.st (aP rfl) rfl ?_))
 refine SW.ai ?_;refine SF.take 8 [] [] aJ rfl (by kernel_rfl) (by kernel_rfl) (by kernel_rfl) ?_;repeat ((show SW _ _ _ _ (⟨_,Op.load _ _,_,_,_,none⟩::_) _ _;refine SW.st (aq rfl (hS.row.sl.fw df (j:=3) (u := .int .i64 cs[i].Order) rfl)) rfl ?_))
 refine SW.ai ?_;refine SF.two 9 14 rfl rfl (by kernel_rfl) rfl rfl ?_ ?_
 ·refine SW.call rfl rfl (sZ r.Heap s.Heap (cpu:Int) cs[i].Order 0 _ hS.heap.rd h1.small h1.uJ (kq.ext hw)) fun v w4 ap hv => ?_
  obtain ⟨u,hu,H,rfl,hH⟩:=hv;replace hH:=hH.low hw.size;obtain ⟨e,he⟩ : ∃ e,u.2.2=e:=⟨_,rfl⟩;obtain ⟨at',iY⟩ : ∃ a,u.2.1=a:=⟨_,rfl⟩;rw [he,iY];(replace hw:=Ext.trans hw ap;replace hb:=hb.ext ap;replace hS:=hS.ext ap);try replace dg:=dg.ext ap
  refine SW.nil (ah.sf ap ?_);refine SF.take 10 [] [] aJ rfl (by kernel_rfl) (by kernel_rfl) (by kernel_rfl) ?_;repeat (refine SW.pure rfl rfl ?_)
  refine SW.ai ?_;refine SF.take 11 [] [] aJ rfl (by kernel_rfl) (by kernel_rfl) (by kernel_rfl) ?_;repeat (refine SW.pure rfl rfl ?_)
  refine SW.ai ?_;refine SF.eG 12 [] aJ rfl (by kernel_rfl) (by kernel_rfl) (by kernel_rfl) (bo rfl) (fun w2 hS=>bo rfl) rfl ?_;refine SF.eG 13 [] aJ rfl (by kernel_rfl) (by kernel_rfl) (by kernel_rfl) (bo rfl) (fun w2 hS=>bo rfl) rfl ?_;refine SF.one 14 rfl (by kernel_rfl) rfl ?_;refine SW.alloc rfl fun b9 w4 ap oe dg => ?_
  have re:w0.heap.size≤b9:=Nat.le_trans hw.size oe
  try replace hH:=hH.ext ap
  (replace hw:=Ext.trans hw ap;replace hb:=hb.ext ap;replace hS:=hS.ext ap);refine SW.nil (ah.sf ap ?_);refine SF.turn rfl (by kernel_rfl) rfl ?_;refine SW.ak dg rfl rfl rfl rfl (dJ H) fun w5 ji hg => ?_
  have hG:=dg.gr hg;replace hw:=hw.own re hg;(replace hb:=hb.aw hG rfl;replace hH:=hH.aw hG rfl;replace hS:=hS.aw hG rfl);replace dg:=ji;clear ji hg hG;have Ag:=hS;have hS:True:=trivial
  refine SW.nil (ah.sg hS ?_);refine SG.one 16 rfl (by kernel_rfl) rfl ?_;repeat (refine SW.pure rfl rfl ?_)
  refine SW.nil (ah.sg hS ?_);refine SG.last rfl (by kernel_rfl) (by kernel_rfl) ?_;replace hS:=Ag;clear Ag;rw [su] at hu;by_cases OA:e=0
  ·subst OA;have lP:=hu.at_ he;rw [iY] at lP;refine Wz ?_;all_goals try omega
   by_cases hc:gi s.Words.length (16*at') s.aa[i].aE s.aa[i].bG
   ·refine CW.any 19 mixed (da (by kernel_rfl)) rfl fun w1 ae aJ => ?_
    replace hw:=Ext.trans hw ae;replace hb:=hb.ext ae;replace dg:=dg.ext ae;replace hH:=hH.ext ae;replace hS:=hS.ext ae;clear ae;refine SA.take 0 aJ rfl (by kernel_rfl) (by kernel_rfl) rfl ?_;repeat (refine SW.pure rfl rfl ?_)
    refine SW.ai ?_;refine SA.take 1 aJ rfl (by kernel_rfl) (by kernel_rfl) rfl ?_;repeat ((show SW _ _ _ _ (⟨_,Op.nilCheck _,_,_,_,none⟩::_) _ _;refine SW.st (aC rfl) rfl ?_))
    refine SW.ai ?_;refine SA.take 2 aJ rfl (by kernel_rfl) (by kernel_rfl) rfl ?_;repeat ((show SW _ _ _ _ (⟨_,Op.fieldAddr _ _ _,_,_,_,none⟩::_) _ _;refine SW.st (aP rfl) rfl ?_))
    refine SW.ai ?_;refine SA.take 3 aJ rfl (by kernel_rfl) (by kernel_rfl) rfl ?_;repeat ((show SW _ _ _ _ (⟨_,Op.load _ _,_,_,_,none⟩::_) _ _;refine SW.st (aq rfl (hb.cell (i:=0) (v := .slice r.Words.A r.Words.n r.Words.c) rfl)) rfl ?_))
    refine SW.ai ?_;refine SA.take 4 aJ rfl (by kernel_rfl) (by kernel_rfl) rfl ?_;repeat (refine SW.pure rfl rfl ?_)
    refine SW.ai ?_;refine SA.take 5 aJ rfl (by kernel_rfl) (by kernel_rfl) rfl ?_;repeat ((show SW _ _ _ _ (⟨_,Op.binOp _ _ _ _ _,_,_,_,none⟩::_) _ _;refine SW.st (j8 rfl rfl (by omega) (by omega)) rfl ?_))
    refine SW.ai ?_;refine SA.take 6 aJ rfl (by kernel_rfl) (by kernel_rfl) rfl ?_;repeat (refine SW.pure rfl rfl ?_)
    refine SW.ai ?_;refine SA.take 7 aJ rfl (by kernel_rfl) (by kernel_rfl) rfl ?_;repeat ((show SW _ _ _ _ (⟨_,Op.nilCheck _,_,_,_,none⟩::_) _ _;refine SW.st (aC rfl) rfl ?_))
    refine SW.ai ?_;refine SA.take 8 aJ rfl (by kernel_rfl) (by kernel_rfl) rfl ?_;repeat ((show SW _ _ _ _ (⟨_,Op.fieldAddr _ _ _,_,_,_,none⟩::_) _ _;refine SW.st (aP rfl) rfl ?_))
    refine SW.ai ?_;refine SA.take 9 aJ rfl (by kernel_rfl) (by kernel_rfl) rfl ?_;repeat ((show SW _ _ _ _ (⟨_,Op.load _ _,_,_,_,none⟩::_) _ _;refine SW.st (aq rfl (hS.row.sl.fw df (j:=1) (u := .int .i64 cs[i].aE) rfl)) rfl ?_))
    refine SW.ai ?_;refine SA.take 10 aJ rfl (by kernel_rfl) (by kernel_rfl) rfl ?_;repeat (refine SW.pure rfl rfl ?_)
    refine SW.ai ?_;refine SA.take 11 aJ rfl (by kernel_rfl) (by kernel_rfl) rfl ?_;repeat ((show SW _ _ _ _ (⟨_,Op.nilCheck _,_,_,_,none⟩::_) _ _;refine SW.st (aC rfl) rfl ?_))
    refine SW.ai ?_;refine SA.take 12 aJ rfl (by kernel_rfl) (by kernel_rfl) rfl ?_;repeat ((show SW _ _ _ _ (⟨_,Op.fieldAddr _ _ _,_,_,_,none⟩::_) _ _;refine SW.st (aP rfl) rfl ?_))
    refine SW.ai ?_;refine SA.take 13 aJ rfl (by kernel_rfl) (by kernel_rfl) rfl ?_;repeat ((show SW _ _ _ _ (⟨_,Op.load _ _,_,_,_,none⟩::_) _ _;refine SW.st (aq rfl (hS.row.sl.fw df (j:=2) (u := .int .i64 cs[i].bG) rfl)) rfl ?_))
    refine SW.ai ?_;refine SA.one 14 rfl (by kernel_rfl) rfl ?_;refine SW.call rfl rfl (pI r.Words.A r.Words.n r.Words.c s.Words (at'*16) cs[i].aE cs[i].bG _ hS.words.sl (by omega)) fun v w6 ap hv => ?_
    have ot:=hc;unfold gi at ot;rw [nL,show at'*16=16*at' by omega,Eu,zN,if_pos (by rw [Oz] at ot;exact ot)] at hv;obtain ⟨XA,Xc,rfl,hX⟩:=hv;replace hX:=hX.low hw.size;(replace hw:=Ext.trans hw ap;replace hb:=hb.ext ap;replace dg:=dg.ext ap;replace hH:=hH.ext ap;replace hS:=hS.ext ap);refine SW.nil (ah.sa ap ?_);refine SA.take 15 aJ rfl (by kernel_rfl) (by kernel_rfl) rfl ?_;repeat (refine SW.pure rfl rfl ?_)
    refine SW.ai ?_;refine SA.take 16 aJ rfl (by kernel_rfl) (by kernel_rfl) rfl ?_;repeat (refine SW.pure rfl rfl ?_)
    refine SW.ai ?_;refine SA.take 17 aJ rfl (by kernel_rfl) (by kernel_rfl) rfl ?_;repeat (refine SW.pure rfl rfl ?_)
    refine SW.ai ?_;refine SA.take 18 aJ rfl (by kernel_rfl) (by kernel_rfl) rfl ?_;repeat (refine SW.pure rfl rfl ?_)
    refine SW.ai ?_;refine SA.done (by kernel_rfl) ?_;refine Wz ?_;refine SW.ko 1 hb rfl rfl rfl (Nat.le_of_ble_eq_true rfl) (dJ H) (ba ⟨r.Words,H,r.aa⟩) rfl fun w7 ka hg => ?_
    have hG:=hb.gr hg;have tN:∀ j x,j≠b→aW w0 j 44 x→aW w7 j 44 x:=fun j x hj h=>(h.ext hw).grown hg (by simpa using hj)
    have Aw:∀ j x,aW w0 j 156 x→aW w7 j 156 x:=fun j x h=>(h.ext hw).aw hG rfl
    have xG:∀ j x,aW w0 j 3 x→aW w7 j 3 x:=fun j x h=>(h.ext hw).aw hG rfl
    replace hx:=(hx.trans hw).own Af hg;(replace hH:=hH.aw hG rfl;replace hX:=hX.aw hG rfl;replace hS:=hS.aw hG rfl);refine Wz ?_;refine SW.bz (i:=0) ka rfl rfl rfl rfl fun w8 HW hg => ?_
    have hG:=ka.gr hg;replace tN:∀ j x,j≠b→aW w0 j 44 x→aW w8 j 44 x:=fun j x hj h=>(tN j x hj h).grown hg (by simpa using hj)
    replace Aw:∀ j x,aW w0 j 156 x→aW w8 j 156 x:=fun j x h=>(Aw j x h).aw hG rfl
    replace xG:∀ j x,aW w0 j 3 x→aW w8 j 3 x:=fun j x h=>(xG j x h).aw hG rfl
    replace hx:=hx.own Af hg;(replace hH:=hH.aw hG rfl;replace hX:=hX.aw hG rfl;replace hS:=hS.aw hG rfl);replace hb:aW w8 b 44 (ba ⟨⟨XA,r.Words.n,Xc⟩,H,r.aa⟩):=HW;rw [← e0] at hS;obtain ⟨lS,l8⟩:=pS.fresh (p:=(s.Heap,s.aa[i])) (X:=⟨XA,r.Words.n,Xc⟩) (H:=H) (h':=u.1) (m:=w0.heap.size) hS gB uj Ms hX hH;clear hS hX hH hw hG hg ka HW dg;have hw:=Ext.refl w8;refine Wz ?_
    refine CW.loop (fun k:Nat=>[(8,.pointer (some ((r.aa.A.getD default).add (i*6)))),(10,.int .i64 at'),(13,.int .i64 (k:Int))])
     (fun k w'=>w'=w8∧k≤cs[i].ab.n ∧ ∀ (j:Nat) (hj:j<s.aa[i].ab.length),j<k→s.aa[i].ab[j].At<at') (fun k=>cs[i].ab.n-k) 0
     ⟨rfl,rfl,rfl,trivial⟩ ⟨rfl,Nat.zero_le _,fun j hj h=>by omega⟩ ?_
    rintro k w' ⟨Oi,hk,dL⟩
    subst Oi;have s5:=lS.get kO hi;simp only at s5;have Nd:=s5.aH.sl.base;by_cases dY:k<cs[i].ab.n
    ·have fe:k<s.aa[i].ab.length:=by omega
     obtain ⟨y,hy⟩ : ∃ y,s.aa[i].ab[k]=y:=⟨_,rfl⟩;have gA:=s5.aH.sl.fw dY (j:=0) (show (aX (s.aa[i].ab[k]'(by omega)))[0]?=some (Value.int .i64 y.At) by rw [hy];rfl);by_cases OB:y.At<at'
     ·repeat' (first|refine Wz ?_|refine SW.st (aq rfl (lS.row.sl.fw df (j:=4) (u := .slice cs[i].ab.A cs[i].ab.n cs[i].ab.c) rfl)) rfl ?_|refine SW.st (aq rfl gA) rfl ?_)
      all_goals try omega
      exact ah.again (k+1) ⟨rfl,rfl,rfl,trivial⟩ (by omega) ⟨rfl,by omega,fun j hj h=>by
       by_cases e:j=k
       ·subst e;rw [hy];exact OB
       ·exact dL j hj (by omega)⟩
     ·have Bj:dT s.aa[i] at'=k:=uR (by omega) dL (fun h=>by rw [hy];exact OB)
      repeat' (first|refine Wz ?_|refine SW.st (aq rfl (lS.row.sl.fw df (j:=4) (u := .slice cs[i].ab.A cs[i].ab.n cs[i].ab.c) rfl)) rfl ?_|refine SW.st (aq rfl gA) rfl ?_)
      all_goals try omega
      refine CW.iL 15 18 (fun _=>True) mixed (by kernel_rfl) fun w1 ae aJ => ?_
      replace hw:=Ext.trans hw ae;replace hb:=hb.ext ae;replace lS:=lS.ext ae;replace l8:=l8.ext ae;clear ae;refine SF.eG 0 [] aJ rfl (by kernel_rfl) (by kernel_rfl) (by kernel_rfl) (bo rfl) (fun w2 hS=>bo rfl) rfl ?_;refine SF.take 1 [4,3,2] [] aJ rfl (by kernel_rfl) (by kernel_rfl) (by kernel_rfl) ?_;repeat (refine SW.pure rfl rfl ?_)
      refine SW.ai ?_;refine SF.take 2 [4,3] [] aJ rfl (by kernel_rfl) (by kernel_rfl) (by kernel_rfl) ?_;repeat ((show SW _ _ _ _ (⟨_,Op.nilCheck _,_,_,_,none⟩::_) _ _;refine SW.st (aC rfl) rfl ?_))
      refine SW.ai ?_;refine SF.take 3 [4] [] aJ rfl (by kernel_rfl) (by kernel_rfl) (by kernel_rfl) ?_;repeat ((show SW _ _ _ _ (⟨_,Op.fieldAddr _ _ _,_,_,_,none⟩::_) _ _;refine SW.st (aP rfl) rfl ?_))
      refine SW.ai ?_;refine SF.take 4 [] [] aJ rfl (by kernel_rfl) (by kernel_rfl) (by kernel_rfl) ?_;repeat ((show SW _ _ _ _ (⟨_,Op.load _ _,_,_,_,none⟩::_) _ _;refine SW.st (aq rfl (lS.row.sl.fw df (j:=4) (u := .slice cs[i].ab.A cs[i].ab.n cs[i].ab.c) rfl)) rfl ?_))
      refine SW.ai ?_;refine SF.take 5 [] [] aJ rfl (by kernel_rfl) (by kernel_rfl) (by kernel_rfl) ?_;repeat (refine SW.pure rfl rfl ?_)
      refine SW.ai ?_;refine SF.take 6 [14,13] [] aJ rfl (by kernel_rfl) (by kernel_rfl) (by kernel_rfl) ?_;repeat (refine SW.pure rfl rfl ?_)
      refine SW.ai ?_;refine SF.take 7 [14,13,10,9,8] [] aJ rfl (by kernel_rfl) (by kernel_rfl) (by kernel_rfl) ?_;repeat (refine SW.pure rfl rfl ?_)
      refine SW.ai ?_;refine SF.take 8 [14,13,10,9] [] aJ rfl (by kernel_rfl) (by kernel_rfl) (by kernel_rfl) ?_;repeat ((show SW _ _ _ _ (⟨_,Op.nilCheck _,_,_,_,none⟩::_) _ _;refine SW.st (aC rfl) rfl ?_))
      refine SW.ai ?_;refine SF.take 9 [14,13,10] [] aJ rfl (by kernel_rfl) (by kernel_rfl) (by kernel_rfl) ?_;repeat ((show SW _ _ _ _ (⟨_,Op.fieldAddr _ _ _,_,_,_,none⟩::_) _ _;refine SW.st (aP rfl) rfl ?_))
      refine SW.ai ?_;refine SF.take 10 [14,13] [] aJ rfl (by kernel_rfl) (by kernel_rfl) (by kernel_rfl) ?_;repeat ((show SW _ _ _ _ (⟨_,Op.load _ _,_,_,_,none⟩::_) _ _;refine SW.st (aq rfl (lS.row.sl.fw df (j:=2) (u := .int .i64 cs[i].bG) rfl)) rfl ?_))
      refine SW.ai ?_;refine SF.take 11 [14,13,12] [] aJ rfl (by kernel_rfl) (by kernel_rfl) (by kernel_rfl) ?_;repeat (refine SW.pure rfl rfl ?_)
      refine SW.ai ?_;refine SF.take 12 [14,13] [] aJ rfl (by kernel_rfl) (by kernel_rfl) (by kernel_rfl) ?_;repeat ((show SW _ _ _ _ (⟨_,Op.binOp _ _ _ _ _,_,_,_,none⟩::_) _ _;refine SW.st (j8 rfl rfl (by omega) (by omega)) rfl ?_))
      refine SW.ai ?_;refine SF.take 13 [14] [] aJ rfl (by kernel_rfl) (by kernel_rfl) (by kernel_rfl) ?_;repeat ((show SW _ _ _ _ (⟨_,Op.build _ _,_,_,_,none⟩::_) _ _;refine SW.st (fp rfl rfl) rfl ?_))
      refine SW.ai ?_;refine SF.one 14 rfl (by kernel_rfl) rfl ?_;refine SW.dR rfl rfl rfl rfl rfl fun bn w9 ap Nf HX => ?_
      have nt:aM cs[i].ab.A cs[i].ab.c≠some bn:=fun e=>absurd ((lS.get kO hi).aH.lt_size _ e) (by omega)
      (replace hw:=Ext.trans hw ap;replace hb:=hb.ext ap;replace lS:=lS.ext ap;replace l8:=l8.ext ap);refine SW.nil (ah.sf ap ?_);refine SF.turn rfl (by kernel_rfl) rfl ?_;have s5:=lS.get kO hi;simp only at s5;refine SW.dt rfl rfl (jV _ _ _ wb.heap.size s.aa[i].ab _ s5.aH k (by omega) ⟨at',cs[i].bG,at'*16⟩ bn HX nt (by omega) (Nat.le_trans hx.size hw.size)) fun v rN hv => ?_
      obtain ⟨A2,c2,rfl,cJ,hg,Mt⟩:=hv;have hG:=s5.aH.gr hg;have HY:=lS.pG kO hi cJ hg Mt;have Dg:=aO (hx.trans hw) hg (Nat.le_refl _) s5.aH.bc;have Dh:∀ j x,j≠b→aW w0 j 44 x→aW rN j 44 x:=fun j x hj h=>((tN j x hj h).ext hw).aw hG rfl
      have Di:∀ j x,aW w0 j 156 x→aW rN j 156 x:=fun j x h=>((Aw j x h).ext hw).aw hG rfl
      have Dj:∀ j x,aW w0 j 3 x→aW rN j 3 x:=fun j x h=>((xG j x h).ext hw).aw hG rfl
      (replace hb:=hb.aw hG rfl;replace l8:=l8.aw hG rfl);have hS:True:=trivial
      refine SW.nil (ah.sg hS ?_);refine SG.one 16 rfl (by kernel_rfl) rfl ?_;repeat ((show SW _ _ _ _ (⟨_,Op.nilCheck _,_,_,_,none⟩::_) _ _;refine SW.st (aC rfl) rfl ?_))
      refine SW.nil (ah.sg hS ?_);refine SG.one 17 rfl (by kernel_rfl) rfl ?_;repeat ((show SW _ _ _ _ (⟨_,Op.fieldAddr _ _ _,_,_,_,none⟩::_) _ _;refine SW.st (aP rfl) rfl ?_))
      refine SW.nil (ah.sg hS ?_);refine SG.last rfl (by kernel_rfl) (by kernel_rfl) ?_;have dN:=HY.row;refine SW.fH i 4 ⟨cs[i].Names,cs[i].aE,cs[i].bG,cs[i].Order,⟨A2,cs[i].ab.n+1,c2⟩,cs[i].ar⟩ dN rfl rfl rfl df (by decide) rfl rfl fun xA gp qG => ?_
      have lL:=dN.gr qG;have Mu:=HY.wg gp qG;replace Dg:=aO Dg qG (Nat.le_refl _) dN.bc;(replace hb:=hb.aw lL rfl;replace l8:=l8.aw lL rfl)
      have Mv:=l8.rows (s':=bV (kU s (er s.Words (16*at') s.aa[i].aE s.aa[i].bG)) i (u.1,dz s.aa[i] at')) (cs':=cs.set i ⟨cs[i].Names,cs[i].aE,cs[i].bG,cs[i].Order,⟨A2,cs[i].ab.n+1,c2⟩,cs[i].ar⟩) rfl (fun u hu=>by
       rcases List.mem_or_eq_of_mem_set hu with hu|rfl
       ·exact ⟨u,hu,rfl⟩
       ·exact ⟨cs[i],List.getElem_mem kO,rfl⟩)
      have IR:dz s.aa[i] at'=⟨s.aa[i].Names,s.aa[i].aE,s.aa[i].bG,s.aa[i].Order,aN s.aa[i].ab k ⟨at',cs[i].bG,at'*16⟩,s.aa[i].ar⟩:=by
       unfold dz;rw [Bj,zN,show at'*16=16*at' by omega]
      refine Wz ?_;refine ah.cb rfl rfl rfl ⟨_,rfl,u,hu,.inr (.inr ⟨he,by rw [iY];exact hc,by rw [iY,Bj],Dg,fun j x hj h=>(Dh j x hj h).aw lL rfl,fun j x h=>(Di j x h).aw lL rfl,fun j x h=>(Dj j x h).aw lL rfl,⟨XA,r.Words.n,Xc⟩,H,_,hb,?_,by rw [iY];exact Mv⟩)⟩;rw [iY,IR];exact Mu
    ·have JQ:k=cs[i].ab.n:=by omega
     have Bj:dT s.aa[i] at'=k:=uR (by omega) (fun j hj h=>dL j hj (by omega)) (fun h=>by omega)
     repeat' (first|refine Wz ?_|refine SW.st (aq rfl (lS.row.sl.fw df (j:=4) (u := .slice cs[i].ab.A cs[i].ab.n cs[i].ab.c) rfl)) rfl ?_)
     all_goals try omega
     refine CW.iL 15 18 (fun _=>True) mixed (by kernel_rfl) fun w1 ae aJ => ?_
     replace hw:=Ext.trans hw ae;replace hb:=hb.ext ae;replace lS:=lS.ext ae;replace l8:=l8.ext ae;clear ae;refine SF.eG 0 [] aJ rfl (by kernel_rfl) (by kernel_rfl) (by kernel_rfl) (bo rfl) (fun w2 hS=>bo rfl) rfl ?_;refine SF.take 1 [4,3,2] [] aJ rfl (by kernel_rfl) (by kernel_rfl) (by kernel_rfl) ?_;repeat (refine SW.pure rfl rfl ?_)
     refine SW.ai ?_;refine SF.take 2 [4,3] [] aJ rfl (by kernel_rfl) (by kernel_rfl) (by kernel_rfl) ?_;repeat ((show SW _ _ _ _ (⟨_,Op.nilCheck _,_,_,_,none⟩::_) _ _;refine SW.st (aC rfl) rfl ?_))
     refine SW.ai ?_;refine SF.take 3 [4] [] aJ rfl (by kernel_rfl) (by kernel_rfl) (by kernel_rfl) ?_;repeat ((show SW _ _ _ _ (⟨_,Op.fieldAddr _ _ _,_,_,_,none⟩::_) _ _;refine SW.st (aP rfl) rfl ?_))
     refine SW.ai ?_;refine SF.take 4 [] [] aJ rfl (by kernel_rfl) (by kernel_rfl) (by kernel_rfl) ?_;repeat ((show SW _ _ _ _ (⟨_,Op.load _ _,_,_,_,none⟩::_) _ _;refine SW.st (aq rfl (lS.row.sl.fw df (j:=4) (u := .slice cs[i].ab.A cs[i].ab.n cs[i].ab.c) rfl)) rfl ?_))
     refine SW.ai ?_;refine SF.take 5 [] [] aJ rfl (by kernel_rfl) (by kernel_rfl) (by kernel_rfl) ?_;repeat (refine SW.pure rfl rfl ?_)
     refine SW.ai ?_;refine SF.take 6 [14,13] [] aJ rfl (by kernel_rfl) (by kernel_rfl) (by kernel_rfl) ?_;repeat (refine SW.pure rfl rfl ?_)
     refine SW.ai ?_;refine SF.take 7 [14,13,10,9,8] [] aJ rfl (by kernel_rfl) (by kernel_rfl) (by kernel_rfl) ?_;repeat (refine SW.pure rfl rfl ?_)
     refine SW.ai ?_;refine SF.take 8 [14,13,10,9] [] aJ rfl (by kernel_rfl) (by kernel_rfl) (by kernel_rfl) ?_;repeat ((show SW _ _ _ _ (⟨_,Op.nilCheck _,_,_,_,none⟩::_) _ _;refine SW.st (aC rfl) rfl ?_))
     refine SW.ai ?_;refine SF.take 9 [14,13,10] [] aJ rfl (by kernel_rfl) (by kernel_rfl) (by kernel_rfl) ?_;repeat ((show SW _ _ _ _ (⟨_,Op.fieldAddr _ _ _,_,_,_,none⟩::_) _ _;refine SW.st (aP rfl) rfl ?_))
     refine SW.ai ?_;refine SF.take 10 [14,13] [] aJ rfl (by kernel_rfl) (by kernel_rfl) (by kernel_rfl) ?_;repeat ((show SW _ _ _ _ (⟨_,Op.load _ _,_,_,_,none⟩::_) _ _;refine SW.st (aq rfl (lS.row.sl.fw df (j:=2) (u := .int .i64 cs[i].bG) rfl)) rfl ?_))
     refine SW.ai ?_;refine SF.take 11 [14,13,12] [] aJ rfl (by kernel_rfl) (by kernel_rfl) (by kernel_rfl) ?_;repeat (refine SW.pure rfl rfl ?_)
     refine SW.ai ?_;refine SF.take 12 [14,13] [] aJ rfl (by kernel_rfl) (by kernel_rfl) (by kernel_rfl) ?_;repeat ((show SW _ _ _ _ (⟨_,Op.binOp _ _ _ _ _,_,_,_,none⟩::_) _ _;refine SW.st (j8 rfl rfl (by omega) (by omega)) rfl ?_))
     refine SW.ai ?_;refine SF.take 13 [14] [] aJ rfl (by kernel_rfl) (by kernel_rfl) (by kernel_rfl) ?_;repeat ((show SW _ _ _ _ (⟨_,Op.build _ _,_,_,_,none⟩::_) _ _;refine SW.st (fp rfl rfl) rfl ?_))
     refine SW.ai ?_;refine SF.one 14 rfl (by kernel_rfl) rfl ?_;refine SW.dR rfl rfl rfl rfl rfl fun bn w9 ap Nf HX => ?_
     have nt:aM cs[i].ab.A cs[i].ab.c≠some bn:=fun e=>absurd ((lS.get kO hi).aH.lt_size _ e) (by omega)
     (replace hw:=Ext.trans hw ap;replace hb:=hb.ext ap;replace lS:=lS.ext ap;replace l8:=l8.ext ap);refine SW.nil (ah.sf ap ?_);refine SF.turn rfl (by kernel_rfl) rfl ?_;have s5:=lS.get kO hi;simp only at s5;refine SW.dt rfl rfl (jV _ _ _ wb.heap.size s.aa[i].ab _ s5.aH k (by omega) ⟨at',cs[i].bG,at'*16⟩ bn HX nt (by omega) (Nat.le_trans hx.size hw.size)) fun v rN hv => ?_
     obtain ⟨A2,c2,rfl,cJ,hg,Mt⟩:=hv;have hG:=s5.aH.gr hg;have HY:=lS.pG kO hi cJ hg Mt;have Dg:=aO (hx.trans hw) hg (Nat.le_refl _) s5.aH.bc;have Dh:∀ j x,j≠b→aW w0 j 44 x→aW rN j 44 x:=fun j x hj h=>((tN j x hj h).ext hw).aw hG rfl
     have Di:∀ j x,aW w0 j 156 x→aW rN j 156 x:=fun j x h=>((Aw j x h).ext hw).aw hG rfl
     have Dj:∀ j x,aW w0 j 3 x→aW rN j 3 x:=fun j x h=>((xG j x h).ext hw).aw hG rfl
     (replace hb:=hb.aw hG rfl;replace l8:=l8.aw hG rfl);have hS:True:=trivial
     refine SW.nil (ah.sg hS ?_);refine SG.one 16 rfl (by kernel_rfl) rfl ?_;repeat ((show SW _ _ _ _ (⟨_,Op.nilCheck _,_,_,_,none⟩::_) _ _;refine SW.st (aC rfl) rfl ?_))
     refine SW.nil (ah.sg hS ?_);refine SG.one 17 rfl (by kernel_rfl) rfl ?_;repeat ((show SW _ _ _ _ (⟨_,Op.fieldAddr _ _ _,_,_,_,none⟩::_) _ _;refine SW.st (aP rfl) rfl ?_))
     refine SW.nil (ah.sg hS ?_);refine SG.last rfl (by kernel_rfl) (by kernel_rfl) ?_;have dN:=HY.row;refine SW.fH i 4 ⟨cs[i].Names,cs[i].aE,cs[i].bG,cs[i].Order,⟨A2,cs[i].ab.n+1,c2⟩,cs[i].ar⟩ dN rfl rfl rfl df (by decide) rfl rfl fun xA gp qG => ?_
     have lL:=dN.gr qG;have Mu:=HY.wg gp qG;replace Dg:=aO Dg qG (Nat.le_refl _) dN.bc;(replace hb:=hb.aw lL rfl;replace l8:=l8.aw lL rfl)
     have Mv:=l8.rows (s':=bV (kU s (er s.Words (16*at') s.aa[i].aE s.aa[i].bG)) i (u.1,dz s.aa[i] at')) (cs':=cs.set i ⟨cs[i].Names,cs[i].aE,cs[i].bG,cs[i].Order,⟨A2,cs[i].ab.n+1,c2⟩,cs[i].ar⟩) rfl (fun u hu=>by
      rcases List.mem_or_eq_of_mem_set hu with hu|rfl
      ·exact ⟨u,hu,rfl⟩
      ·exact ⟨cs[i],List.getElem_mem kO,rfl⟩)
     have IR:dz s.aa[i] at'=⟨s.aa[i].Names,s.aa[i].aE,s.aa[i].bG,s.aa[i].Order,aN s.aa[i].ab k ⟨at',cs[i].bG,at'*16⟩,s.aa[i].ar⟩:=by
      unfold dz;rw [Bj,zN,show at'*16=16*at' by omega]
     refine Wz ?_;refine ah.cb rfl rfl rfl ⟨_,rfl,u,hu,.inr (.inr ⟨he,by rw [iY];exact hc,by rw [iY,Bj],Dg,fun j x hj h=>(Dh j x hj h).aw lL rfl,fun j x h=>(Di j x h).aw lL rfl,fun j x h=>(Dj j x h).aw lL rfl,⟨XA,r.Words.n,Xc⟩,H,_,hb,?_,by rw [iY];exact Mv⟩)⟩;rw [iY,IR];exact Mu
   ·refine CW.any 19 mixed (da (by kernel_rfl)) rfl fun w1 ae aJ => ?_
    replace hw:=Ext.trans hw ae;replace hb:=hb.ext ae;replace dg:=dg.ext ae;replace hH:=hH.ext ae;replace hS:=hS.ext ae;clear ae;refine SA.take 0 aJ rfl (by kernel_rfl) (by kernel_rfl) rfl ?_;repeat (refine SW.pure rfl rfl ?_)
    refine SW.ai ?_;refine SA.take 1 aJ rfl (by kernel_rfl) (by kernel_rfl) rfl ?_;repeat ((show SW _ _ _ _ (⟨_,Op.nilCheck _,_,_,_,none⟩::_) _ _;refine SW.st (aC rfl) rfl ?_))
    refine SW.ai ?_;refine SA.take 2 aJ rfl (by kernel_rfl) (by kernel_rfl) rfl ?_;repeat ((show SW _ _ _ _ (⟨_,Op.fieldAddr _ _ _,_,_,_,none⟩::_) _ _;refine SW.st (aP rfl) rfl ?_))
    refine SW.ai ?_;refine SA.take 3 aJ rfl (by kernel_rfl) (by kernel_rfl) rfl ?_;repeat ((show SW _ _ _ _ (⟨_,Op.load _ _,_,_,_,none⟩::_) _ _;refine SW.st (aq rfl (hb.cell (i:=0) (v := .slice r.Words.A r.Words.n r.Words.c) rfl)) rfl ?_))
    refine SW.ai ?_;refine SA.take 4 aJ rfl (by kernel_rfl) (by kernel_rfl) rfl ?_;repeat (refine SW.pure rfl rfl ?_)
    refine SW.ai ?_;refine SA.take 5 aJ rfl (by kernel_rfl) (by kernel_rfl) rfl ?_;repeat ((show SW _ _ _ _ (⟨_,Op.binOp _ _ _ _ _,_,_,_,none⟩::_) _ _;refine SW.st (j8 rfl rfl (by omega) (by omega)) rfl ?_))
    refine SW.ai ?_;refine SA.take 6 aJ rfl (by kernel_rfl) (by kernel_rfl) rfl ?_;repeat (refine SW.pure rfl rfl ?_)
    refine SW.ai ?_;refine SA.take 7 aJ rfl (by kernel_rfl) (by kernel_rfl) rfl ?_;repeat ((show SW _ _ _ _ (⟨_,Op.nilCheck _,_,_,_,none⟩::_) _ _;refine SW.st (aC rfl) rfl ?_))
    refine SW.ai ?_;refine SA.take 8 aJ rfl (by kernel_rfl) (by kernel_rfl) rfl ?_;repeat ((show SW _ _ _ _ (⟨_,Op.fieldAddr _ _ _,_,_,_,none⟩::_) _ _;refine SW.st (aP rfl) rfl ?_))
    refine SW.ai ?_;refine SA.take 9 aJ rfl (by kernel_rfl) (by kernel_rfl) rfl ?_;repeat ((show SW _ _ _ _ (⟨_,Op.load _ _,_,_,_,none⟩::_) _ _;refine SW.st (aq rfl (hS.row.sl.fw df (j:=1) (u := .int .i64 cs[i].aE) rfl)) rfl ?_))
    refine SW.ai ?_;refine SA.take 10 aJ rfl (by kernel_rfl) (by kernel_rfl) rfl ?_;repeat (refine SW.pure rfl rfl ?_)
    refine SW.ai ?_;refine SA.take 11 aJ rfl (by kernel_rfl) (by kernel_rfl) rfl ?_;repeat ((show SW _ _ _ _ (⟨_,Op.nilCheck _,_,_,_,none⟩::_) _ _;refine SW.st (aC rfl) rfl ?_))
    refine SW.ai ?_;refine SA.take 12 aJ rfl (by kernel_rfl) (by kernel_rfl) rfl ?_;repeat ((show SW _ _ _ _ (⟨_,Op.fieldAddr _ _ _,_,_,_,none⟩::_) _ _;refine SW.st (aP rfl) rfl ?_))
    refine SW.ai ?_;refine SA.take 13 aJ rfl (by kernel_rfl) (by kernel_rfl) rfl ?_;repeat ((show SW _ _ _ _ (⟨_,Op.load _ _,_,_,_,none⟩::_) _ _;refine SW.st (aq rfl (hS.row.sl.fw df (j:=2) (u := .int .i64 cs[i].bG) rfl)) rfl ?_))
    refine SW.ai ?_;refine SA.one 14 rfl (by kernel_rfl) rfl ?_;refine SW.call rfl rfl (pI r.Words.A r.Words.n r.Words.c s.Words (at'*16) cs[i].aE cs[i].bG _ hS.words.sl (by omega)) fun v w6 ap hv => ?_
    have ot:=hc;unfold gi at ot;rw [nL,show at'*16=16*at' by omega,Eu,zN,if_neg (by rw [Oz] at ot;exact ot)] at hv;subst hv;(replace hw:=Ext.trans hw ap;replace hb:=hb.ext ap;replace dg:=dg.ext ap;replace hH:=hH.ext ap;replace hS:=hS.ext ap);refine SW.nil (ah.sa ap ?_);refine SA.take 15 aJ rfl (by kernel_rfl) (by kernel_rfl) rfl ?_;repeat (refine SW.pure rfl rfl ?_)
    refine SW.ai ?_;refine SA.take 16 aJ rfl (by kernel_rfl) (by kernel_rfl) rfl ?_;repeat (refine SW.pure rfl rfl ?_)
    refine SW.ai ?_;refine SA.take 17 aJ rfl (by kernel_rfl) (by kernel_rfl) rfl ?_;repeat (refine SW.pure rfl rfl ?_)
    refine SW.ai ?_;refine SA.take 18 aJ rfl (by kernel_rfl) (by kernel_rfl) rfl ?_;repeat (refine SW.pure rfl rfl ?_)
    refine SW.ai ?_;refine SA.done (by kernel_rfl) ?_;refine Wz ?_;exact ah.cb rfl rfl rfl ⟨_,rfl,u,hu,.inr (.inl ⟨he,by rw [iY];exact hc,rfl,hw⟩)⟩
  ·refine Wz ?_;all_goals try omega
   exact ah.cb rfl rfl rfl ⟨_,rfl,u,hu,.inl ⟨by rw [he];exact OA,by rw [he];rfl,hw⟩⟩
 ·refine SW.alloc rfl fun b9 w4 ap oe dg => ?_
  have re:w0.heap.size≤b9:=Nat.le_trans hw.size oe
  try replace hH:=hH.ext ap
  (replace hw:=Ext.trans hw ap;replace hb:=hb.ext ap;replace hS:=hS.ext ap);refine SW.nil (ah.sf ap ?_);refine SF.one 9 rfl (by kernel_rfl) rfl ?_;refine SW.call rfl rfl (sZ r.Heap s.Heap (cpu:Int) cs[i].Order 0 _ hS.heap.rd h1.small h1.uJ (kq.ext hw)) fun v w4 ap hv => ?_
  obtain ⟨u,hu,H,rfl,hH⟩:=hv;replace hH:=hH.low hw.size;obtain ⟨e,he⟩ : ∃ e,u.2.2=e:=⟨_,rfl⟩;obtain ⟨at',iY⟩ : ∃ a,u.2.1=a:=⟨_,rfl⟩;rw [he,iY];(replace hw:=Ext.trans hw ap;replace hb:=hb.ext ap;replace hS:=hS.ext ap);try replace dg:=dg.ext ap
  refine SW.nil (ah.sf ap ?_);refine SF.take 10 [] [] aJ rfl (by kernel_rfl) (by kernel_rfl) (by kernel_rfl) ?_;repeat (refine SW.pure rfl rfl ?_)
  refine SW.ai ?_;refine SF.take 11 [] [] aJ rfl (by kernel_rfl) (by kernel_rfl) (by kernel_rfl) ?_;repeat (refine SW.pure rfl rfl ?_)
  refine SW.ai ?_;refine SF.eG 12 [] aJ rfl (by kernel_rfl) (by kernel_rfl) (by kernel_rfl) (bo rfl) (fun w2 hS=>bo rfl) rfl ?_;refine SF.eG 13 [] aJ rfl (by kernel_rfl) (by kernel_rfl) (by kernel_rfl) (bo rfl) (fun w2 hS=>bo rfl) rfl ?_;refine SF.turn rfl (by kernel_rfl) rfl ?_;refine SW.ak dg rfl rfl rfl rfl (dJ H) fun w5 ji hg => ?_
  have hG:=dg.gr hg;replace hw:=hw.own re hg;(replace hb:=hb.aw hG rfl;replace hH:=hH.aw hG rfl;replace hS:=hS.aw hG rfl);replace dg:=ji;clear ji hg hG;have Ag:=hS;have hS:True:=trivial
  refine SW.nil (ah.sg hS ?_);refine SG.one 16 rfl (by kernel_rfl) rfl ?_;repeat (refine SW.pure rfl rfl ?_)
  refine SW.nil (ah.sg hS ?_);refine SG.last rfl (by kernel_rfl) (by kernel_rfl) ?_;replace hS:=Ag;clear Ag;rw [su] at hu;by_cases OA:e=0
  ·subst OA;have lP:=hu.at_ he;rw [iY] at lP;refine Wz ?_;all_goals try omega
   by_cases hc:gi s.Words.length (16*at') s.aa[i].aE s.aa[i].bG
   ·refine CW.any 19 mixed (da (by kernel_rfl)) rfl fun w1 ae aJ => ?_
    replace hw:=Ext.trans hw ae;replace hb:=hb.ext ae;replace dg:=dg.ext ae;replace hH:=hH.ext ae;replace hS:=hS.ext ae;clear ae;refine SA.take 0 aJ rfl (by kernel_rfl) (by kernel_rfl) rfl ?_;repeat (refine SW.pure rfl rfl ?_)
    refine SW.ai ?_;refine SA.take 1 aJ rfl (by kernel_rfl) (by kernel_rfl) rfl ?_;repeat ((show SW _ _ _ _ (⟨_,Op.nilCheck _,_,_,_,none⟩::_) _ _;refine SW.st (aC rfl) rfl ?_))
    refine SW.ai ?_;refine SA.take 2 aJ rfl (by kernel_rfl) (by kernel_rfl) rfl ?_;repeat ((show SW _ _ _ _ (⟨_,Op.fieldAddr _ _ _,_,_,_,none⟩::_) _ _;refine SW.st (aP rfl) rfl ?_))
    refine SW.ai ?_;refine SA.take 3 aJ rfl (by kernel_rfl) (by kernel_rfl) rfl ?_;repeat ((show SW _ _ _ _ (⟨_,Op.load _ _,_,_,_,none⟩::_) _ _;refine SW.st (aq rfl (hb.cell (i:=0) (v := .slice r.Words.A r.Words.n r.Words.c) rfl)) rfl ?_))
    refine SW.ai ?_;refine SA.take 4 aJ rfl (by kernel_rfl) (by kernel_rfl) rfl ?_;repeat (refine SW.pure rfl rfl ?_)
    refine SW.ai ?_;refine SA.take 5 aJ rfl (by kernel_rfl) (by kernel_rfl) rfl ?_;repeat ((show SW _ _ _ _ (⟨_,Op.binOp _ _ _ _ _,_,_,_,none⟩::_) _ _;refine SW.st (j8 rfl rfl (by omega) (by omega)) rfl ?_))
    refine SW.ai ?_;refine SA.take 6 aJ rfl (by kernel_rfl) (by kernel_rfl) rfl ?_;repeat (refine SW.pure rfl rfl ?_)
    refine SW.ai ?_;refine SA.take 7 aJ rfl (by kernel_rfl) (by kernel_rfl) rfl ?_;repeat ((show SW _ _ _ _ (⟨_,Op.nilCheck _,_,_,_,none⟩::_) _ _;refine SW.st (aC rfl) rfl ?_))
    refine SW.ai ?_;refine SA.take 8 aJ rfl (by kernel_rfl) (by kernel_rfl) rfl ?_;repeat ((show SW _ _ _ _ (⟨_,Op.fieldAddr _ _ _,_,_,_,none⟩::_) _ _;refine SW.st (aP rfl) rfl ?_))
    refine SW.ai ?_;refine SA.take 9 aJ rfl (by kernel_rfl) (by kernel_rfl) rfl ?_;repeat ((show SW _ _ _ _ (⟨_,Op.load _ _,_,_,_,none⟩::_) _ _;refine SW.st (aq rfl (hS.row.sl.fw df (j:=1) (u := .int .i64 cs[i].aE) rfl)) rfl ?_))
    refine SW.ai ?_;refine SA.take 10 aJ rfl (by kernel_rfl) (by kernel_rfl) rfl ?_;repeat (refine SW.pure rfl rfl ?_)
    refine SW.ai ?_;refine SA.take 11 aJ rfl (by kernel_rfl) (by kernel_rfl) rfl ?_;repeat ((show SW _ _ _ _ (⟨_,Op.nilCheck _,_,_,_,none⟩::_) _ _;refine SW.st (aC rfl) rfl ?_))
    refine SW.ai ?_;refine SA.take 12 aJ rfl (by kernel_rfl) (by kernel_rfl) rfl ?_;repeat ((show SW _ _ _ _ (⟨_,Op.fieldAddr _ _ _,_,_,_,none⟩::_) _ _;refine SW.st (aP rfl) rfl ?_))
    refine SW.ai ?_;refine SA.take 13 aJ rfl (by kernel_rfl) (by kernel_rfl) rfl ?_;repeat ((show SW _ _ _ _ (⟨_,Op.load _ _,_,_,_,none⟩::_) _ _;refine SW.st (aq rfl (hS.row.sl.fw df (j:=2) (u := .int .i64 cs[i].bG) rfl)) rfl ?_))
    refine SW.ai ?_;refine SA.one 14 rfl (by kernel_rfl) rfl ?_;refine SW.call rfl rfl (pI r.Words.A r.Words.n r.Words.c s.Words (at'*16) cs[i].aE cs[i].bG _ hS.words.sl (by omega)) fun v w6 ap hv => ?_
    have ot:=hc;unfold gi at ot;rw [nL,show at'*16=16*at' by omega,Eu,zN,if_pos (by rw [Oz] at ot;exact ot)] at hv;obtain ⟨XA,Xc,rfl,hX⟩:=hv;replace hX:=hX.low hw.size;(replace hw:=Ext.trans hw ap;replace hb:=hb.ext ap;replace dg:=dg.ext ap;replace hH:=hH.ext ap;replace hS:=hS.ext ap);refine SW.nil (ah.sa ap ?_);refine SA.take 15 aJ rfl (by kernel_rfl) (by kernel_rfl) rfl ?_;repeat (refine SW.pure rfl rfl ?_)
    refine SW.ai ?_;refine SA.take 16 aJ rfl (by kernel_rfl) (by kernel_rfl) rfl ?_;repeat (refine SW.pure rfl rfl ?_)
    refine SW.ai ?_;refine SA.take 17 aJ rfl (by kernel_rfl) (by kernel_rfl) rfl ?_;repeat (refine SW.pure rfl rfl ?_)
    refine SW.ai ?_;refine SA.take 18 aJ rfl (by kernel_rfl) (by kernel_rfl) rfl ?_;repeat (refine SW.pure rfl rfl ?_)
    refine SW.ai ?_;refine SA.done (by kernel_rfl) ?_;refine Wz ?_;refine SW.ko 1 hb rfl rfl rfl (Nat.le_of_ble_eq_true rfl) (dJ H) (ba ⟨r.Words,H,r.aa⟩) rfl fun w7 ka hg => ?_
    have hG:=hb.gr hg;have tN:∀ j x,j≠b→aW w0 j 44 x→aW w7 j 44 x:=fun j x hj h=>(h.ext hw).grown hg (by simpa using hj)
    have Aw:∀ j x,aW w0 j 156 x→aW w7 j 156 x:=fun j x h=>(h.ext hw).aw hG rfl
    have xG:∀ j x,aW w0 j 3 x→aW w7 j 3 x:=fun j x h=>(h.ext hw).aw hG rfl
    replace hx:=(hx.trans hw).own Af hg;(replace hH:=hH.aw hG rfl;replace hX:=hX.aw hG rfl;replace hS:=hS.aw hG rfl);refine Wz ?_;refine SW.bz (i:=0) ka rfl rfl rfl rfl fun w8 HW hg => ?_
    have hG:=ka.gr hg;replace tN:∀ j x,j≠b→aW w0 j 44 x→aW w8 j 44 x:=fun j x hj h=>(tN j x hj h).grown hg (by simpa using hj)
    replace Aw:∀ j x,aW w0 j 156 x→aW w8 j 156 x:=fun j x h=>(Aw j x h).aw hG rfl
    replace xG:∀ j x,aW w0 j 3 x→aW w8 j 3 x:=fun j x h=>(xG j x h).aw hG rfl
    replace hx:=hx.own Af hg;(replace hH:=hH.aw hG rfl;replace hX:=hX.aw hG rfl;replace hS:=hS.aw hG rfl);replace hb:aW w8 b 44 (ba ⟨⟨XA,r.Words.n,Xc⟩,H,r.aa⟩):=HW;rw [← e0] at hS;obtain ⟨lS,l8⟩:=pS.fresh (p:=(s.Heap,s.aa[i])) (X:=⟨XA,r.Words.n,Xc⟩) (H:=H) (h':=u.1) (m:=w0.heap.size) hS gB uj Ms hX hH;clear hS hX hH hw hG hg ka HW dg;have hw:=Ext.refl w8;refine Wz ?_
    refine CW.loop (fun k:Nat=>[(8,.pointer (some ((r.aa.A.getD default).add (i*6)))),(10,.int .i64 at'),(13,.int .i64 (k:Int))])
     (fun k w'=>w'=w8∧k≤cs[i].ab.n ∧ ∀ (j:Nat) (hj:j<s.aa[i].ab.length),j<k→s.aa[i].ab[j].At<at') (fun k=>cs[i].ab.n-k) 0
     ⟨rfl,rfl,rfl,trivial⟩ ⟨rfl,Nat.zero_le _,fun j hj h=>by omega⟩ ?_
    rintro k w' ⟨Oi,hk,dL⟩
    subst Oi;have s5:=lS.get kO hi;simp only at s5;have Nd:=s5.aH.sl.base;by_cases dY:k<cs[i].ab.n
    ·have fe:k<s.aa[i].ab.length:=by omega
     obtain ⟨y,hy⟩ : ∃ y,s.aa[i].ab[k]=y:=⟨_,rfl⟩;have gA:=s5.aH.sl.fw dY (j:=0) (show (aX (s.aa[i].ab[k]'(by omega)))[0]?=some (Value.int .i64 y.At) by rw [hy];rfl);by_cases OB:y.At<at'
     ·repeat' (first|refine Wz ?_|refine SW.st (aq rfl (lS.row.sl.fw df (j:=4) (u := .slice cs[i].ab.A cs[i].ab.n cs[i].ab.c) rfl)) rfl ?_|refine SW.st (aq rfl gA) rfl ?_)
      all_goals try omega
      exact ah.again (k+1) ⟨rfl,rfl,rfl,trivial⟩ (by omega) ⟨rfl,by omega,fun j hj h=>by
       by_cases e:j=k
       ·subst e;rw [hy];exact OB
       ·exact dL j hj (by omega)⟩
     ·have Bj:dT s.aa[i] at'=k:=uR (by omega) dL (fun h=>by rw [hy];exact OB)
      repeat' (first|refine Wz ?_|refine SW.st (aq rfl (lS.row.sl.fw df (j:=4) (u := .slice cs[i].ab.A cs[i].ab.n cs[i].ab.c) rfl)) rfl ?_|refine SW.st (aq rfl gA) rfl ?_)
      all_goals try omega
      refine CW.iL 15 18 (fun _=>True) mixed (by kernel_rfl) fun w1 ae aJ => ?_
      replace hw:=Ext.trans hw ae;replace hb:=hb.ext ae;replace lS:=lS.ext ae;replace l8:=l8.ext ae;clear ae;refine SF.eG 0 [] aJ rfl (by kernel_rfl) (by kernel_rfl) (by kernel_rfl) (bo rfl) (fun w2 hS=>bo rfl) rfl ?_;refine SF.take 1 [4,3,2] [] aJ rfl (by kernel_rfl) (by kernel_rfl) (by kernel_rfl) ?_;repeat (refine SW.pure rfl rfl ?_)
      refine SW.ai ?_;refine SF.take 2 [4,3] [] aJ rfl (by kernel_rfl) (by kernel_rfl) (by kernel_rfl) ?_;repeat ((show SW _ _ _ _ (⟨_,Op.nilCheck _,_,_,_,none⟩::_) _ _;refine SW.st (aC rfl) rfl ?_))
      refine SW.ai ?_;refine SF.take 3 [4] [] aJ rfl (by kernel_rfl) (by kernel_rfl) (by kernel_rfl) ?_;repeat ((show SW _ _ _ _ (⟨_,Op.fieldAddr _ _ _,_,_,_,none⟩::_) _ _;refine SW.st (aP rfl) rfl ?_))
      refine SW.ai ?_;refine SF.take 4 [] [] aJ rfl (by kernel_rfl) (by kernel_rfl) (by kernel_rfl) ?_;repeat ((show SW _ _ _ _ (⟨_,Op.load _ _,_,_,_,none⟩::_) _ _;refine SW.st (aq rfl (lS.row.sl.fw df (j:=4) (u := .slice cs[i].ab.A cs[i].ab.n cs[i].ab.c) rfl)) rfl ?_))
      refine SW.ai ?_;refine SF.take 5 [] [] aJ rfl (by kernel_rfl) (by kernel_rfl) (by kernel_rfl) ?_;repeat (refine SW.pure rfl rfl ?_)
      refine SW.ai ?_;refine SF.take 6 [14,13] [] aJ rfl (by kernel_rfl) (by kernel_rfl) (by kernel_rfl) ?_;repeat (refine SW.pure rfl rfl ?_)
      refine SW.ai ?_;refine SF.take 7 [14,13,10,9,8] [] aJ rfl (by kernel_rfl) (by kernel_rfl) (by kernel_rfl) ?_;repeat (refine SW.pure rfl rfl ?_)
      refine SW.ai ?_;refine SF.take 8 [14,13,10,9] [] aJ rfl (by kernel_rfl) (by kernel_rfl) (by kernel_rfl) ?_;repeat ((show SW _ _ _ _ (⟨_,Op.nilCheck _,_,_,_,none⟩::_) _ _;refine SW.st (aC rfl) rfl ?_))
      refine SW.ai ?_;refine SF.take 9 [14,13,10] [] aJ rfl (by kernel_rfl) (by kernel_rfl) (by kernel_rfl) ?_;repeat ((show SW _ _ _ _ (⟨_,Op.fieldAddr _ _ _,_,_,_,none⟩::_) _ _;refine SW.st (aP rfl) rfl ?_))
      refine SW.ai ?_;refine SF.take 10 [14,13] [] aJ rfl (by kernel_rfl) (by kernel_rfl) (by kernel_rfl) ?_;repeat ((show SW _ _ _ _ (⟨_,Op.load _ _,_,_,_,none⟩::_) _ _;refine SW.st (aq rfl (lS.row.sl.fw df (j:=2) (u := .int .i64 cs[i].bG) rfl)) rfl ?_))
      refine SW.ai ?_;refine SF.take 11 [14,13,12] [] aJ rfl (by kernel_rfl) (by kernel_rfl) (by kernel_rfl) ?_;repeat (refine SW.pure rfl rfl ?_)
      refine SW.ai ?_;refine SF.take 12 [14,13] [] aJ rfl (by kernel_rfl) (by kernel_rfl) (by kernel_rfl) ?_;repeat ((show SW _ _ _ _ (⟨_,Op.binOp _ _ _ _ _,_,_,_,none⟩::_) _ _;refine SW.st (j8 rfl rfl (by omega) (by omega)) rfl ?_))
      refine SW.ai ?_;refine SF.take 13 [14] [] aJ rfl (by kernel_rfl) (by kernel_rfl) (by kernel_rfl) ?_;repeat ((show SW _ _ _ _ (⟨_,Op.build _ _,_,_,_,none⟩::_) _ _;refine SW.st (fp rfl rfl) rfl ?_))
      refine SW.ai ?_;refine SF.one 14 rfl (by kernel_rfl) rfl ?_;refine SW.dR rfl rfl rfl rfl rfl fun bn w9 ap Nf HX => ?_
      have nt:aM cs[i].ab.A cs[i].ab.c≠some bn:=fun e=>absurd ((lS.get kO hi).aH.lt_size _ e) (by omega)
      (replace hw:=Ext.trans hw ap;replace hb:=hb.ext ap;replace lS:=lS.ext ap;replace l8:=l8.ext ap);refine SW.nil (ah.sf ap ?_);refine SF.turn rfl (by kernel_rfl) rfl ?_;have s5:=lS.get kO hi;simp only at s5;refine SW.dt rfl rfl (jV _ _ _ wb.heap.size s.aa[i].ab _ s5.aH k (by omega) ⟨at',cs[i].bG,at'*16⟩ bn HX nt (by omega) (Nat.le_trans hx.size hw.size)) fun v rN hv => ?_
      obtain ⟨A2,c2,rfl,cJ,hg,Mt⟩:=hv;have hG:=s5.aH.gr hg;have HY:=lS.pG kO hi cJ hg Mt;have Dg:=aO (hx.trans hw) hg (Nat.le_refl _) s5.aH.bc;have Dh:∀ j x,j≠b→aW w0 j 44 x→aW rN j 44 x:=fun j x hj h=>((tN j x hj h).ext hw).aw hG rfl
      have Di:∀ j x,aW w0 j 156 x→aW rN j 156 x:=fun j x h=>((Aw j x h).ext hw).aw hG rfl
      have Dj:∀ j x,aW w0 j 3 x→aW rN j 3 x:=fun j x h=>((xG j x h).ext hw).aw hG rfl
      (replace hb:=hb.aw hG rfl;replace l8:=l8.aw hG rfl);have hS:True:=trivial
      refine SW.nil (ah.sg hS ?_);refine SG.one 16 rfl (by kernel_rfl) rfl ?_;repeat ((show SW _ _ _ _ (⟨_,Op.nilCheck _,_,_,_,none⟩::_) _ _;refine SW.st (aC rfl) rfl ?_))
      refine SW.nil (ah.sg hS ?_);refine SG.one 17 rfl (by kernel_rfl) rfl ?_;repeat ((show SW _ _ _ _ (⟨_,Op.fieldAddr _ _ _,_,_,_,none⟩::_) _ _;refine SW.st (aP rfl) rfl ?_))
      refine SW.nil (ah.sg hS ?_);refine SG.last rfl (by kernel_rfl) (by kernel_rfl) ?_;have dN:=HY.row;refine SW.fH i 4 ⟨cs[i].Names,cs[i].aE,cs[i].bG,cs[i].Order,⟨A2,cs[i].ab.n+1,c2⟩,cs[i].ar⟩ dN rfl rfl rfl df (by decide) rfl rfl fun xA gp qG => ?_
      have lL:=dN.gr qG;have Mu:=HY.wg gp qG;replace Dg:=aO Dg qG (Nat.le_refl _) dN.bc;(replace hb:=hb.aw lL rfl;replace l8:=l8.aw lL rfl)
      have Mv:=l8.rows (s':=bV (kU s (er s.Words (16*at') s.aa[i].aE s.aa[i].bG)) i (u.1,dz s.aa[i] at')) (cs':=cs.set i ⟨cs[i].Names,cs[i].aE,cs[i].bG,cs[i].Order,⟨A2,cs[i].ab.n+1,c2⟩,cs[i].ar⟩) rfl (fun u hu=>by
       rcases List.mem_or_eq_of_mem_set hu with hu|rfl
       ·exact ⟨u,hu,rfl⟩
       ·exact ⟨cs[i],List.getElem_mem kO,rfl⟩)
      have IR:dz s.aa[i] at'=⟨s.aa[i].Names,s.aa[i].aE,s.aa[i].bG,s.aa[i].Order,aN s.aa[i].ab k ⟨at',cs[i].bG,at'*16⟩,s.aa[i].ar⟩:=by
       unfold dz;rw [Bj,zN,show at'*16=16*at' by omega]
      refine Wz ?_;refine ah.cb rfl rfl rfl ⟨_,rfl,u,hu,.inr (.inr ⟨he,by rw [iY];exact hc,by rw [iY,Bj],Dg,fun j x hj h=>(Dh j x hj h).aw lL rfl,fun j x h=>(Di j x h).aw lL rfl,fun j x h=>(Dj j x h).aw lL rfl,⟨XA,r.Words.n,Xc⟩,H,_,hb,?_,by rw [iY];exact Mv⟩)⟩;rw [iY,IR];exact Mu
    ·have JQ:k=cs[i].ab.n:=by omega
     have Bj:dT s.aa[i] at'=k:=uR (by omega) (fun j hj h=>dL j hj (by omega)) (fun h=>by omega)
     repeat' (first|refine Wz ?_|refine SW.st (aq rfl (lS.row.sl.fw df (j:=4) (u := .slice cs[i].ab.A cs[i].ab.n cs[i].ab.c) rfl)) rfl ?_)
     all_goals try omega
     refine CW.iL 15 18 (fun _=>True) mixed (by kernel_rfl) fun w1 ae aJ => ?_
     replace hw:=Ext.trans hw ae;replace hb:=hb.ext ae;replace lS:=lS.ext ae;replace l8:=l8.ext ae;clear ae;refine SF.eG 0 [] aJ rfl (by kernel_rfl) (by kernel_rfl) (by kernel_rfl) (bo rfl) (fun w2 hS=>bo rfl) rfl ?_;refine SF.take 1 [4,3,2] [] aJ rfl (by kernel_rfl) (by kernel_rfl) (by kernel_rfl) ?_;repeat (refine SW.pure rfl rfl ?_)
     refine SW.ai ?_;refine SF.take 2 [4,3] [] aJ rfl (by kernel_rfl) (by kernel_rfl) (by kernel_rfl) ?_;repeat ((show SW _ _ _ _ (⟨_,Op.nilCheck _,_,_,_,none⟩::_) _ _;refine SW.st (aC rfl) rfl ?_))
     refine SW.ai ?_;refine SF.take 3 [4] [] aJ rfl (by kernel_rfl) (by kernel_rfl) (by kernel_rfl) ?_;repeat ((show SW _ _ _ _ (⟨_,Op.fieldAddr _ _ _,_,_,_,none⟩::_) _ _;refine SW.st (aP rfl) rfl ?_))
     refine SW.ai ?_;refine SF.take 4 [] [] aJ rfl (by kernel_rfl) (by kernel_rfl) (by kernel_rfl) ?_;repeat ((show SW _ _ _ _ (⟨_,Op.load _ _,_,_,_,none⟩::_) _ _;refine SW.st (aq rfl (lS.row.sl.fw df (j:=4) (u := .slice cs[i].ab.A cs[i].ab.n cs[i].ab.c) rfl)) rfl ?_))
     refine SW.ai ?_;refine SF.take 5 [] [] aJ rfl (by kernel_rfl) (by kernel_rfl) (by kernel_rfl) ?_;repeat (refine SW.pure rfl rfl ?_)
     refine SW.ai ?_;refine SF.take 6 [14,13] [] aJ rfl (by kernel_rfl) (by kernel_rfl) (by kernel_rfl) ?_;repeat (refine SW.pure rfl rfl ?_)
     refine SW.ai ?_;refine SF.take 7 [14,13,10,9,8] [] aJ rfl (by kernel_rfl) (by kernel_rfl) (by kernel_rfl) ?_;repeat (refine SW.pure rfl rfl ?_)
     refine SW.ai ?_;refine SF.take 8 [14,13,10,9] [] aJ rfl (by kernel_rfl) (by kernel_rfl) (by kernel_rfl) ?_;repeat ((show SW _ _ _ _ (⟨_,Op.nilCheck _,_,_,_,none⟩::_) _ _;refine SW.st (aC rfl) rfl ?_))
     refine SW.ai ?_;refine SF.take 9 [14,13,10] [] aJ rfl (by kernel_rfl) (by kernel_rfl) (by kernel_rfl) ?_;repeat ((show SW _ _ _ _ (⟨_,Op.fieldAddr _ _ _,_,_,_,none⟩::_) _ _;refine SW.st (aP rfl) rfl ?_))
     refine SW.ai ?_;refine SF.take 10 [14,13] [] aJ rfl (by kernel_rfl) (by kernel_rfl) (by kernel_rfl) ?_;repeat ((show SW _ _ _ _ (⟨_,Op.load _ _,_,_,_,none⟩::_) _ _;refine SW.st (aq rfl (lS.row.sl.fw df (j:=2) (u := .int .i64 cs[i].bG) rfl)) rfl ?_))
     refine SW.ai ?_;refine SF.take 11 [14,13,12] [] aJ rfl (by kernel_rfl) (by kernel_rfl) (by kernel_rfl) ?_;repeat (refine SW.pure rfl rfl ?_)
     refine SW.ai ?_;refine SF.take 12 [14,13] [] aJ rfl (by kernel_rfl) (by kernel_rfl) (by kernel_rfl) ?_;repeat ((show SW _ _ _ _ (⟨_,Op.binOp _ _ _ _ _,_,_,_,none⟩::_) _ _;refine SW.st (j8 rfl rfl (by omega) (by omega)) rfl ?_))
     refine SW.ai ?_;refine SF.take 13 [14] [] aJ rfl (by kernel_rfl) (by kernel_rfl) (by kernel_rfl) ?_;repeat ((show SW _ _ _ _ (⟨_,Op.build _ _,_,_,_,none⟩::_) _ _;refine SW.st (fp rfl rfl) rfl ?_))
     refine SW.ai ?_;refine SF.one 14 rfl (by kernel_rfl) rfl ?_;refine SW.dR rfl rfl rfl rfl rfl fun bn w9 ap Nf HX => ?_
     have nt:aM cs[i].ab.A cs[i].ab.c≠some bn:=fun e=>absurd ((lS.get kO hi).aH.lt_size _ e) (by omega)
     (replace hw:=Ext.trans hw ap;replace hb:=hb.ext ap;replace lS:=lS.ext ap;replace l8:=l8.ext ap);refine SW.nil (ah.sf ap ?_);refine SF.turn rfl (by kernel_rfl) rfl ?_;have s5:=lS.get kO hi;simp only at s5;refine SW.dt rfl rfl (jV _ _ _ wb.heap.size s.aa[i].ab _ s5.aH k (by omega) ⟨at',cs[i].bG,at'*16⟩ bn HX nt (by omega) (Nat.le_trans hx.size hw.size)) fun v rN hv => ?_
     obtain ⟨A2,c2,rfl,cJ,hg,Mt⟩:=hv;have hG:=s5.aH.gr hg;have HY:=lS.pG kO hi cJ hg Mt;have Dg:=aO (hx.trans hw) hg (Nat.le_refl _) s5.aH.bc;have Dh:∀ j x,j≠b→aW w0 j 44 x→aW rN j 44 x:=fun j x hj h=>((tN j x hj h).ext hw).aw hG rfl
     have Di:∀ j x,aW w0 j 156 x→aW rN j 156 x:=fun j x h=>((Aw j x h).ext hw).aw hG rfl
     have Dj:∀ j x,aW w0 j 3 x→aW rN j 3 x:=fun j x h=>((xG j x h).ext hw).aw hG rfl
     (replace hb:=hb.aw hG rfl;replace l8:=l8.aw hG rfl);have hS:True:=trivial
     refine SW.nil (ah.sg hS ?_);refine SG.one 16 rfl (by kernel_rfl) rfl ?_;repeat ((show SW _ _ _ _ (⟨_,Op.nilCheck _,_,_,_,none⟩::_) _ _;refine SW.st (aC rfl) rfl ?_))
     refine SW.nil (ah.sg hS ?_);refine SG.one 17 rfl (by kernel_rfl) rfl ?_;repeat ((show SW _ _ _ _ (⟨_,Op.fieldAddr _ _ _,_,_,_,none⟩::_) _ _;refine SW.st (aP rfl) rfl ?_))
     refine SW.nil (ah.sg hS ?_);refine SG.last rfl (by kernel_rfl) (by kernel_rfl) ?_;have dN:=HY.row;refine SW.fH i 4 ⟨cs[i].Names,cs[i].aE,cs[i].bG,cs[i].Order,⟨A2,cs[i].ab.n+1,c2⟩,cs[i].ar⟩ dN rfl rfl rfl df (by decide) rfl rfl fun xA gp qG => ?_
     have lL:=dN.gr qG;have Mu:=HY.wg gp qG;replace Dg:=aO Dg qG (Nat.le_refl _) dN.bc;(replace hb:=hb.aw lL rfl;replace l8:=l8.aw lL rfl)
     have Mv:=l8.rows (s':=bV (kU s (er s.Words (16*at') s.aa[i].aE s.aa[i].bG)) i (u.1,dz s.aa[i] at')) (cs':=cs.set i ⟨cs[i].Names,cs[i].aE,cs[i].bG,cs[i].Order,⟨A2,cs[i].ab.n+1,c2⟩,cs[i].ar⟩) rfl (fun u hu=>by
      rcases List.mem_or_eq_of_mem_set hu with hu|rfl
      ·exact ⟨u,hu,rfl⟩
      ·exact ⟨cs[i],List.getElem_mem kO,rfl⟩)
     have IR:dz s.aa[i] at'=⟨s.aa[i].Names,s.aa[i].aE,s.aa[i].bG,s.aa[i].Order,aN s.aa[i].ab k ⟨at',cs[i].bG,at'*16⟩,s.aa[i].ar⟩:=by
      unfold dz;rw [Bj,zN,show at'*16=16*at' by omega]
     refine Wz ?_;refine ah.cb rfl rfl rfl ⟨_,rfl,u,hu,.inr (.inr ⟨he,by rw [iY];exact hc,by rw [iY,Bj],Dg,fun j x hj h=>(Dh j x hj h).aw lL rfl,fun j x h=>(Di j x h).aw lL rfl,fun j x h=>(Dj j x h).aw lL rfl,⟨XA,r.Words.n,Xc⟩,H,_,hb,?_,by rw [iY];exact Mv⟩)⟩;rw [iY,IR];exact Mu
   ·refine CW.any 19 mixed (da (by kernel_rfl)) rfl fun w1 ae aJ => ?_
    replace hw:=Ext.trans hw ae;replace hb:=hb.ext ae;replace dg:=dg.ext ae;replace hH:=hH.ext ae;replace hS:=hS.ext ae;clear ae;refine SA.take 0 aJ rfl (by kernel_rfl) (by kernel_rfl) rfl ?_;repeat (refine SW.pure rfl rfl ?_)
    refine SW.ai ?_;refine SA.take 1 aJ rfl (by kernel_rfl) (by kernel_rfl) rfl ?_;repeat ((show SW _ _ _ _ (⟨_,Op.nilCheck _,_,_,_,none⟩::_) _ _;refine SW.st (aC rfl) rfl ?_))
    refine SW.ai ?_;refine SA.take 2 aJ rfl (by kernel_rfl) (by kernel_rfl) rfl ?_;repeat ((show SW _ _ _ _ (⟨_,Op.fieldAddr _ _ _,_,_,_,none⟩::_) _ _;refine SW.st (aP rfl) rfl ?_))
    refine SW.ai ?_;refine SA.take 3 aJ rfl (by kernel_rfl) (by kernel_rfl) rfl ?_;repeat ((show SW _ _ _ _ (⟨_,Op.load _ _,_,_,_,none⟩::_) _ _;refine SW.st (aq rfl (hb.cell (i:=0) (v := .slice r.Words.A r.Words.n r.Words.c) rfl)) rfl ?_))
    refine SW.ai ?_;refine SA.take 4 aJ rfl (by kernel_rfl) (by kernel_rfl) rfl ?_;repeat (refine SW.pure rfl rfl ?_)
    refine SW.ai ?_;refine SA.take 5 aJ rfl (by kernel_rfl) (by kernel_rfl) rfl ?_;repeat ((show SW _ _ _ _ (⟨_,Op.binOp _ _ _ _ _,_,_,_,none⟩::_) _ _;refine SW.st (j8 rfl rfl (by omega) (by omega)) rfl ?_))
    refine SW.ai ?_;refine SA.take 6 aJ rfl (by kernel_rfl) (by kernel_rfl) rfl ?_;repeat (refine SW.pure rfl rfl ?_)
    refine SW.ai ?_;refine SA.take 7 aJ rfl (by kernel_rfl) (by kernel_rfl) rfl ?_;repeat ((show SW _ _ _ _ (⟨_,Op.nilCheck _,_,_,_,none⟩::_) _ _;refine SW.st (aC rfl) rfl ?_))
    refine SW.ai ?_;refine SA.take 8 aJ rfl (by kernel_rfl) (by kernel_rfl) rfl ?_;repeat ((show SW _ _ _ _ (⟨_,Op.fieldAddr _ _ _,_,_,_,none⟩::_) _ _;refine SW.st (aP rfl) rfl ?_))
    refine SW.ai ?_;refine SA.take 9 aJ rfl (by kernel_rfl) (by kernel_rfl) rfl ?_;repeat ((show SW _ _ _ _ (⟨_,Op.load _ _,_,_,_,none⟩::_) _ _;refine SW.st (aq rfl (hS.row.sl.fw df (j:=1) (u := .int .i64 cs[i].aE) rfl)) rfl ?_))
    refine SW.ai ?_;refine SA.take 10 aJ rfl (by kernel_rfl) (by kernel_rfl) rfl ?_;repeat (refine SW.pure rfl rfl ?_)
    refine SW.ai ?_;refine SA.take 11 aJ rfl (by kernel_rfl) (by kernel_rfl) rfl ?_;repeat ((show SW _ _ _ _ (⟨_,Op.nilCheck _,_,_,_,none⟩::_) _ _;refine SW.st (aC rfl) rfl ?_))
    refine SW.ai ?_;refine SA.take 12 aJ rfl (by kernel_rfl) (by kernel_rfl) rfl ?_;repeat ((show SW _ _ _ _ (⟨_,Op.fieldAddr _ _ _,_,_,_,none⟩::_) _ _;refine SW.st (aP rfl) rfl ?_))
    refine SW.ai ?_;refine SA.take 13 aJ rfl (by kernel_rfl) (by kernel_rfl) rfl ?_;repeat ((show SW _ _ _ _ (⟨_,Op.load _ _,_,_,_,none⟩::_) _ _;refine SW.st (aq rfl (hS.row.sl.fw df (j:=2) (u := .int .i64 cs[i].bG) rfl)) rfl ?_))
    refine SW.ai ?_;refine SA.one 14 rfl (by kernel_rfl) rfl ?_;refine SW.call rfl rfl (pI r.Words.A r.Words.n r.Words.c s.Words (at'*16) cs[i].aE cs[i].bG _ hS.words.sl (by omega)) fun v w6 ap hv => ?_
    have ot:=hc;unfold gi at ot;rw [nL,show at'*16=16*at' by omega,Eu,zN,if_neg (by rw [Oz] at ot;exact ot)] at hv;subst hv;(replace hw:=Ext.trans hw ap;replace hb:=hb.ext ap;replace dg:=dg.ext ap;replace hH:=hH.ext ap;replace hS:=hS.ext ap);refine SW.nil (ah.sa ap ?_);refine SA.take 15 aJ rfl (by kernel_rfl) (by kernel_rfl) rfl ?_;repeat (refine SW.pure rfl rfl ?_)
    refine SW.ai ?_;refine SA.take 16 aJ rfl (by kernel_rfl) (by kernel_rfl) rfl ?_;repeat (refine SW.pure rfl rfl ?_)
    refine SW.ai ?_;refine SA.take 17 aJ rfl (by kernel_rfl) (by kernel_rfl) rfl ?_;repeat (refine SW.pure rfl rfl ?_)
    refine SW.ai ?_;refine SA.take 18 aJ rfl (by kernel_rfl) (by kernel_rfl) rfl ?_;repeat (refine SW.pure rfl rfl ?_)
    refine SW.ai ?_;refine SA.done (by kernel_rfl) ?_;refine Wz ?_;exact ah.cb rfl rfl rfl ⟨_,rfl,u,hu,.inr (.inl ⟨he,by rw [iY];exact hc,rfl,hw⟩)⟩
  ·refine Wz ?_;all_goals try omega
   exact ah.cb rfl rfl rfl ⟨_,rfl,u,hu,.inl ⟨by rw [he];exact OA,by rw [he];rfl,hw⟩⟩
end Go.Proofs.YtbidkghlpijecaaGreatDoor
