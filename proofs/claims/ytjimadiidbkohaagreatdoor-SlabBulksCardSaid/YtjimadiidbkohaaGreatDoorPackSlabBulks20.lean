/-
  Texts of the claim SlabBulks, part 20: what its theorem leans on.
-/
import Derived.Test.YtjimadiidbkohaaGreatDoorPackSlabBulks15
import Derived.Test.YtjimadiidbkohaaGreatDoorPackSlabBulks17
import Derived.Test.YtjimadiidbkohaaGreatDoorPackSlabBulks19
import Derived.Test.YtjimadiidbkohaaGreatDoorPackSlabBulks2
set_option linter.unusedVariables false
set_option linter.unusedSimpArgs false
namespace Go.Proofs.YtjimadiidbkohaaGreatDoor
open Go.RowKit
def E4 (G:Nat→Prop) (wb w0:World) (b:Nat) (r:dP) (s:aE) (i:Nat) (c:bg) (cpu:Nat) (v:Value) (w':World) : Prop :=
 ∃ u,dJ s.Heap (cpu:Int) c.Order 0 u ∧
  ((u.2.2≠0∧v = .tuple #[.int .i64 0,.int .i64 u.2.2]∧Ext w0 w')∨(u.2.2=0 ∧ ¬ fD s.Words.length (16*u.2.1) c.bh c.cj∧v = .tuple #[.int .i64 0,.int .i64 1]∧Ext w0 w') ∨
   (u.2.2=0∧fD s.Words.length (16*u.2.1) c.bh c.cj∧v = .tuple #[.int .i64 (iD c u.2.1:Int),.int .i64 0]∧Ext wb w'∧(∀ j x,j≠b→aI w0 j 30 x→aI w' j 30 x)∧(∀ j x,aI w0 j 89 x→aI w' j 89 x)∧(∀ j x,aI w0 j 3 x→aI w' j 3 x) ∧
    ∃ X H cs',aI w' b 30 (aT ⟨X,H,r.aa⟩)∧SX w' wb.heap.size ⟨X,H,r.aa⟩ (bQ (fL s (ez s.Words (16*u.2.1) c.bh c.cj)) i (u.1,ed c u.2.1)) cs'∧SJ G w' wb.heap.size ⟨X,H,r.aa⟩ (bQ (fL s (ez s.Words (16*u.2.1) c.bh c.cj)) i (u.1,ed c u.2.1)) cs'))
set_option maxHeartbeats 8000000 in
theorem yd (G:Nat→Prop) (wb w0:World) (b:Nat) (r:dP) (s:aE) (cs:List de) (i cpu:Nat) (hf:s.gL) (hi:i<s.aa.length) (hM:mi s s.aa[i]) (tx:pe w0)
 (hx:Ext wb w0) (hb:aI w0 b 30 (aT r)) (E5:wb.heap.size≤b) (hS:SX w0 wb.heap.size r s cs) (E6:∀ g,G g→g<w0.heap.size ∧ ∀ u∈cs,aQ u.au.A u.au.c≠some g) (Dc:(s.aa[i].ah.length+1)*24≤140737488355328) :
 il Tryz.prog 50 [.pointer (some ⟨b,0,none⟩),.int .i64 (i:Int),.int .i64 (cpu:Int)] w0 (E4 G wb w0 b r s i s.aa[i] cpu):=by
 refine dC Tryz.func50 rfl Tryz.ntmps50 rfl ?_;have h1:=hf.iT;have hm:=hM.most;have HC:=hM.words;have BJ:=hS.v9;have fG:=hx.size;have e0:=oB hi;obtain ⟨e1,e2⟩:=hS.len;have jP:i<cs.length:=by omega
 have ck:i<r.aa.n:=by omega
 have Lm:=hS.row.sl.base;have G6:=hS.words.len;have hC:=hS.each.get i jP hi;have re:=hC.order;have vi:=hC.size;have rq:=hC.fk;have q1:=hC.aR.len;have EN:=gm hM.lay;have hw:=Ext.refl w0;clear hC;refine Wz ?_;refine CW.jf 15 17 (fun _=>True) mixed (by kernel_rfl) fun w1 ab aG => ?_
 replace hw:=Ext.trans hw ab;replace hb:=hb.ext ab;replace hS:=hS.ext ab;clear ab;refine SF.take 0 [] [] aG rfl (by kernel_rfl) (by kernel_rfl) (by kernel_rfl) ?_;repeat (refine SW.pure rfl rfl ?_)
 refine SW.ai ?_;refine SF.take 1 [] [] aG rfl (by kernel_rfl) (by kernel_rfl) (by kernel_rfl) ?_;repeat ((show SW _ _ _ _ (⟨_,Op.nilCheck _,_,_,_,none⟩::_) _ _;refine SW.st (aJ rfl) rfl ?_))
 refine SW.ai ?_;refine SF.take 2 [] [] aG rfl (by kernel_rfl) (by kernel_rfl) (by kernel_rfl) ?_;repeat ((show SW _ _ _ _ (⟨_,Op.fieldAddr _ _ _,_,_,_,none⟩::_) _ _;refine SW.st (aC rfl) rfl ?_))
 refine SW.ai ?_;refine SF.take 3 [] [] aG rfl (by kernel_rfl) (by kernel_rfl) (by kernel_rfl) ?_;repeat ((show SW _ _ _ _ (⟨_,Op.load _ _,_,_,_,none⟩::_) _ _;refine SW.st (aY rfl rfl ((iq hb))) rfl ?_))
 refine SW.ai ?_;refine SF.take 4 [] [] aG rfl (by kernel_rfl) (by kernel_rfl) (by kernel_rfl) ?_;repeat (refine SW.pure rfl rfl ?_)
 refine SW.ai ?_;refine SF.take 5 [] [] aG rfl (by kernel_rfl) (by kernel_rfl) (by kernel_rfl) ?_;repeat (refine SW.pure rfl rfl ?_)
 refine SW.ai ?_;refine SF.take 6 [] [] aG rfl (by kernel_rfl) (by kernel_rfl) (by kernel_rfl) ?_;repeat ((show SW _ _ _ _ (⟨_,Op.nilCheck _,_,_,_,none⟩::_) _ _;refine SW.st (aJ rfl) rfl ?_))
 refine SW.ai ?_;refine SF.take 7 [] [] aG rfl (by kernel_rfl) (by kernel_rfl) (by kernel_rfl) ?_;repeat ((show SW _ _ _ _ (⟨_,Op.fieldAddr _ _ _,_,_,_,none⟩::_) _ _;refine SW.st (aC rfl) rfl ?_))
 refine SW.ai ?_;refine SF.take 8 [] [] aG rfl (by kernel_rfl) (by kernel_rfl) (by kernel_rfl) ?_;repeat ((show SW _ _ _ _ (⟨_,Op.load _ _,_,_,_,none⟩::_) _ _;refine SW.st (ak rfl (hS.row.sl.dA ck (j:=3) (u := .int .i64 cs[i].Order) rfl)) rfl ?_))
 refine SW.ai ?_;refine SF.two 9 14 rfl rfl (by kernel_rfl) rfl rfl ?_ ?_
 ·refine SW.call rfl rfl (vg r.Heap s.Heap (cpu:Int) cs[i].Order 0 _ hS.heap.rd h1.small h1.qI (tx.ext hw)) fun v w4 aj hv => ?_
  obtain ⟨u,hu,H,rfl,hH⟩:=hv;replace hH:=hH.low hw.size;obtain ⟨e,he⟩ : ∃ e,u.2.2=e:=⟨_,rfl⟩;obtain ⟨at',iB⟩ : ∃ a,u.2.1=a:=⟨_,rfl⟩;rw [he,iB];(replace hw:=Ext.trans hw aj;replace hb:=hb.ext aj;replace hS:=hS.ext aj);try replace bl:=bl.ext aj
  refine SW.nil (ae.sf aj ?_);refine SF.take 10 [] [] aG rfl (by kernel_rfl) (by kernel_rfl) (by kernel_rfl) ?_;repeat (refine SW.pure rfl rfl ?_)
  refine SW.ai ?_;refine SF.take 11 [] [] aG rfl (by kernel_rfl) (by kernel_rfl) (by kernel_rfl) ?_;repeat (refine SW.pure rfl rfl ?_)
  refine SW.ai ?_;refine SF.dM 12 [] aG rfl (by kernel_rfl) (by kernel_rfl) (by kernel_rfl) (bd rfl) (fun w2 hS=>bd rfl) rfl ?_;refine SF.dM 13 [] aG rfl (by kernel_rfl) (by kernel_rfl) (by kernel_rfl) (bd rfl) (fun w2 hS=>bd rfl) rfl ?_;refine SF.one 14 rfl (by kernel_rfl) rfl ?_;refine SW.alloc rfl fun b9 w4 aj om bl => ?_
  have rc:w0.heap.size≤b9:=Nat.le_trans hw.size om
  try replace hH:=hH.ext aj
  (replace hw:=Ext.trans hw aj;replace hb:=hb.ext aj;replace hS:=hS.ext aj);refine SW.nil (ae.sf aj ?_);refine SF.turn rfl (by kernel_rfl) rfl ?_;refine SW.ap bl rfl rfl rfl rfl (cS H) fun w5 gz hg => ?_
  have hG:=bl.gr hg;replace hw:=hw.own rc hg;(replace hb:=hb.ay hG rfl;replace hH:=hH.ay hG rfl;replace hS:=hS.ay hG rfl);replace bl:=gz;clear gz hg hG;have I6:=hS;have hS:True:=trivial
  refine SW.nil (ae.sg hS ?_);refine SG.one 16 rfl (by kernel_rfl) rfl ?_;repeat (refine SW.pure rfl rfl ?_)
  refine SW.nil (ae.sg hS ?_);refine SG.last rfl (by kernel_rfl) (by kernel_rfl) ?_;replace hS:=I6;clear I6;rw [re] at hu;by_cases E7:e=0
  ·subst E7;have o7:=hu.at_ he;rw [iB] at o7;refine Wz ?_;all_goals try omega
   by_cases hc:fD s.Words.length (16*at') s.aa[i].bh s.aa[i].cj
   ·refine CW.any 19 mixed (cq (by kernel_rfl)) rfl fun w1 ab aG => ?_
    replace hw:=Ext.trans hw ab;replace hb:=hb.ext ab;replace bl:=bl.ext ab;replace hH:=hH.ext ab;replace hS:=hS.ext ab;clear ab;refine SA.take 0 aG rfl (by kernel_rfl) (by kernel_rfl) rfl ?_;repeat (refine SW.pure rfl rfl ?_)
    refine SW.ai ?_;refine SA.take 1 aG rfl (by kernel_rfl) (by kernel_rfl) rfl ?_;repeat ((show SW _ _ _ _ (⟨_,Op.nilCheck _,_,_,_,none⟩::_) _ _;refine SW.st (aJ rfl) rfl ?_))
    refine SW.ai ?_;refine SA.take 2 aG rfl (by kernel_rfl) (by kernel_rfl) rfl ?_;repeat ((show SW _ _ _ _ (⟨_,Op.fieldAddr _ _ _,_,_,_,none⟩::_) _ _;refine SW.st (aC rfl) rfl ?_))
    refine SW.ai ?_;refine SA.take 3 aG rfl (by kernel_rfl) (by kernel_rfl) rfl ?_;repeat ((show SW _ _ _ _ (⟨_,Op.load _ _,_,_,_,none⟩::_) _ _;refine SW.st (ak rfl (hb.cell (i:=0) (v := .slice r.Words.A r.Words.n r.Words.c) rfl)) rfl ?_))
    refine SW.ai ?_;refine SA.take 4 aG rfl (by kernel_rfl) (by kernel_rfl) rfl ?_;repeat (refine SW.pure rfl rfl ?_)
    refine SW.ai ?_;refine SA.take 5 aG rfl (by kernel_rfl) (by kernel_rfl) rfl ?_;repeat ((show SW _ _ _ _ (⟨_,Op.binOp _ _ _ _ _,_,_,_,none⟩::_) _ _;refine SW.st (je rfl rfl (by omega) (by omega)) rfl ?_))
    refine SW.ai ?_;refine SA.take 6 aG rfl (by kernel_rfl) (by kernel_rfl) rfl ?_;repeat (refine SW.pure rfl rfl ?_)
    refine SW.ai ?_;refine SA.take 7 aG rfl (by kernel_rfl) (by kernel_rfl) rfl ?_;repeat ((show SW _ _ _ _ (⟨_,Op.nilCheck _,_,_,_,none⟩::_) _ _;refine SW.st (aJ rfl) rfl ?_))
    refine SW.ai ?_;refine SA.take 8 aG rfl (by kernel_rfl) (by kernel_rfl) rfl ?_;repeat ((show SW _ _ _ _ (⟨_,Op.fieldAddr _ _ _,_,_,_,none⟩::_) _ _;refine SW.st (aC rfl) rfl ?_))
    refine SW.ai ?_;refine SA.take 9 aG rfl (by kernel_rfl) (by kernel_rfl) rfl ?_;repeat ((show SW _ _ _ _ (⟨_,Op.load _ _,_,_,_,none⟩::_) _ _;refine SW.st (ak rfl (hS.row.sl.dA ck (j:=1) (u := .int .i64 cs[i].bh) rfl)) rfl ?_))
    refine SW.ai ?_;refine SA.take 10 aG rfl (by kernel_rfl) (by kernel_rfl) rfl ?_;repeat (refine SW.pure rfl rfl ?_)
    refine SW.ai ?_;refine SA.take 11 aG rfl (by kernel_rfl) (by kernel_rfl) rfl ?_;repeat ((show SW _ _ _ _ (⟨_,Op.nilCheck _,_,_,_,none⟩::_) _ _;refine SW.st (aJ rfl) rfl ?_))
    refine SW.ai ?_;refine SA.take 12 aG rfl (by kernel_rfl) (by kernel_rfl) rfl ?_;repeat ((show SW _ _ _ _ (⟨_,Op.fieldAddr _ _ _,_,_,_,none⟩::_) _ _;refine SW.st (aC rfl) rfl ?_))
    refine SW.ai ?_;refine SA.take 13 aG rfl (by kernel_rfl) (by kernel_rfl) rfl ?_;repeat ((show SW _ _ _ _ (⟨_,Op.load _ _,_,_,_,none⟩::_) _ _;refine SW.st (ak rfl (hS.row.sl.dA ck (j:=2) (u := .int .i64 cs[i].cj) rfl)) rfl ?_))
    refine SW.ai ?_;refine SA.one 14 rfl (by kernel_rfl) rfl ?_;refine SW.call rfl rfl (nH r.Words.A r.Words.n r.Words.c s.Words (at'*16) cs[i].bh cs[i].cj _ hS.words.sl (by omega)) fun v w6 aj hv => ?_
    have iV:=hc;unfold fD at iV;rw [ir,show at'*16=16*at' by omega,vi,rq,if_pos (by rw [G6] at iV;exact iV)] at hv;obtain ⟨XA,Xc,rfl,hX⟩:=hv;replace hX:=hX.low hw.size;(replace hw:=Ext.trans hw aj;replace hb:=hb.ext aj;replace bl:=bl.ext aj;replace hH:=hH.ext aj;replace hS:=hS.ext aj);refine SW.nil (ae.sa aj ?_);refine SA.take 15 aG rfl (by kernel_rfl) (by kernel_rfl) rfl ?_;repeat (refine SW.pure rfl rfl ?_)
    refine SW.ai ?_;refine SA.take 16 aG rfl (by kernel_rfl) (by kernel_rfl) rfl ?_;repeat (refine SW.pure rfl rfl ?_)
    refine SW.ai ?_;refine SA.take 17 aG rfl (by kernel_rfl) (by kernel_rfl) rfl ?_;repeat (refine SW.pure rfl rfl ?_)
    refine SW.ai ?_;refine SA.take 18 aG rfl (by kernel_rfl) (by kernel_rfl) rfl ?_;repeat (refine SW.pure rfl rfl ?_)
    refine SW.ai ?_;refine SA.done (by kernel_rfl) ?_;refine Wz ?_;refine SW.qw 1 hb rfl rfl rfl (Nat.le_of_ble_eq_true rfl) (cS H) (aT ⟨r.Words,H,r.aa⟩) rfl fun w7 jR hg => ?_
    have hG:=hb.gr hg;have lL:∀ j x,j≠b→aI w0 j 30 x→aI w7 j 30 x:=fun j x hj h=>(h.ext hw).grown hg (by simpa using hj)
    have ua:∀ j x,aI w0 j 89 x→aI w7 j 89 x:=fun j x h=>(h.ext hw).ay hG rfl
    have nM:∀ j x,aI w0 j 3 x→aI w7 j 3 x:=fun j x h=>(h.ext hw).ay hG rfl
    replace hx:=(hx.trans hw).own E5 hg;(replace hH:=hH.ay hG rfl;replace hX:=hX.ay hG rfl;replace hS:=hS.ay hG rfl);refine Wz ?_;refine SW.bB (i:=0) jR rfl rfl rfl rfl fun w8 DG hg => ?_
    have hG:=jR.gr hg;replace lL:∀ j x,j≠b→aI w0 j 30 x→aI w8 j 30 x:=fun j x hj h=>(lL j x hj h).grown hg (by simpa using hj)
    replace ua:∀ j x,aI w0 j 89 x→aI w8 j 89 x:=fun j x h=>(ua j x h).ay hG rfl
    replace nM:∀ j x,aI w0 j 3 x→aI w8 j 3 x:=fun j x h=>(nM j x h).ay hG rfl
    replace hx:=hx.own E5 hg;(replace hH:=hH.ay hG rfl;replace hX:=hX.ay hG rfl;replace hS:=hS.ay hG rfl);replace hb:aI w8 b 30 (aT ⟨⟨XA,r.Words.n,Xc⟩,H,r.aa⟩):=DG;rw [← e0] at hS;obtain ⟨jk,iW⟩:=nD.fresh (p:=(s.Heap,s.aa[i])) (X:=⟨XA,r.Words.n,Xc⟩) (H:=H) (h':=u.1) (m:=w0.heap.size) hS fG BJ E6 hX hH;clear hS hX hH hw hG hg jR DG bl;have hw:=Ext.refl w8;refine Wz ?_
    refine CW.loop (fun k:Nat=>[(8,.pointer (some ((r.aa.A.getD default).add (i*6)))),(10,.int .i64 at'),(13,.int .i64 (k:Int))])
     (fun k w'=>w'=w8∧k≤cs[i].ah.n ∧ ∀ (j:Nat) (hj:j<s.aa[i].ah.length),j<k→s.aa[i].ah[j].At<at') (fun k=>cs[i].ah.n-k) 0
     ⟨rfl,rfl,rfl,trivial⟩ ⟨rfl,Nat.zero_le _,fun j hj h=>by omega⟩ ?_
    rintro k w' ⟨IT,hk,c8⟩
    subst IT;have oD:=jk.get jP hi;simp only at oD;have JT:=oD.aR.sl.base;by_cases cb:k<cs[i].ah.n
    ·have di:k<s.aa[i].ah.length:=by omega
     obtain ⟨y,hy⟩ : ∃ y,s.aa[i].ah[k]=y:=⟨_,rfl⟩;have gA:=oD.aR.sl.dA cb (j:=0) (show (a8 (s.aa[i].ah[k]'(by omega)))[0]?=some (Value.int .i64 y.At) by rw [hy];rfl);by_cases FP:y.At<at'
     ·repeat' (first|refine Wz ?_|refine SW.st (ak rfl (jk.row.sl.dA ck (j:=4) (u := .slice cs[i].ah.A cs[i].ah.n cs[i].ah.c) rfl)) rfl ?_|refine SW.st (ak rfl gA) rfl ?_)
      all_goals try omega
      exact ae.again (k+1) ⟨rfl,rfl,rfl,trivial⟩ (by omega) ⟨rfl,by omega,fun j hj h=>by
       by_cases e:j=k
       ·subst e;rw [hy];exact FP
       ·exact c8 j hj (by omega)⟩
     ·have uu:iD s.aa[i] at'=k:=nI (by omega) c8 (fun h=>by rw [hy];exact FP)
      repeat' (first|refine Wz ?_|refine SW.st (ak rfl (jk.row.sl.dA ck (j:=4) (u := .slice cs[i].ah.A cs[i].ah.n cs[i].ah.c) rfl)) rfl ?_|refine SW.st (ak rfl gA) rfl ?_)
      all_goals try omega
      refine CW.jf 15 18 (fun _=>True) mixed (by kernel_rfl) fun w1 ab aG => ?_
      replace hw:=Ext.trans hw ab;replace hb:=hb.ext ab;replace jk:=jk.ext ab;replace iW:=iW.ext ab;clear ab;refine SF.dM 0 [] aG rfl (by kernel_rfl) (by kernel_rfl) (by kernel_rfl) (bd rfl) (fun w2 hS=>bd rfl) rfl ?_;refine SF.take 1 [4,3,2] [] aG rfl (by kernel_rfl) (by kernel_rfl) (by kernel_rfl) ?_;repeat (refine SW.pure rfl rfl ?_)
      refine SW.ai ?_;refine SF.take 2 [4,3] [] aG rfl (by kernel_rfl) (by kernel_rfl) (by kernel_rfl) ?_;repeat ((show SW _ _ _ _ (⟨_,Op.nilCheck _,_,_,_,none⟩::_) _ _;refine SW.st (aJ rfl) rfl ?_))
      refine SW.ai ?_;refine SF.take 3 [4] [] aG rfl (by kernel_rfl) (by kernel_rfl) (by kernel_rfl) ?_;repeat ((show SW _ _ _ _ (⟨_,Op.fieldAddr _ _ _,_,_,_,none⟩::_) _ _;refine SW.st (aC rfl) rfl ?_))
      refine SW.ai ?_;refine SF.take 4 [] [] aG rfl (by kernel_rfl) (by kernel_rfl) (by kernel_rfl) ?_;repeat ((show SW _ _ _ _ (⟨_,Op.load _ _,_,_,_,none⟩::_) _ _;refine SW.st (ak rfl (jk.row.sl.dA ck (j:=4) (u := .slice cs[i].ah.A cs[i].ah.n cs[i].ah.c) rfl)) rfl ?_))
      refine SW.ai ?_;refine SF.take 5 [] [] aG rfl (by kernel_rfl) (by kernel_rfl) (by kernel_rfl) ?_;repeat (refine SW.pure rfl rfl ?_)
      refine SW.ai ?_;refine SF.take 6 [14,13] [] aG rfl (by kernel_rfl) (by kernel_rfl) (by kernel_rfl) ?_;repeat (refine SW.pure rfl rfl ?_)
      refine SW.ai ?_;refine SF.take 7 [14,13,10,9,8] [] aG rfl (by kernel_rfl) (by kernel_rfl) (by kernel_rfl) ?_;repeat (refine SW.pure rfl rfl ?_)
      refine SW.ai ?_;refine SF.take 8 [14,13,10,9] [] aG rfl (by kernel_rfl) (by kernel_rfl) (by kernel_rfl) ?_;repeat ((show SW _ _ _ _ (⟨_,Op.nilCheck _,_,_,_,none⟩::_) _ _;refine SW.st (aJ rfl) rfl ?_))
      refine SW.ai ?_;refine SF.take 9 [14,13,10] [] aG rfl (by kernel_rfl) (by kernel_rfl) (by kernel_rfl) ?_;repeat ((show SW _ _ _ _ (⟨_,Op.fieldAddr _ _ _,_,_,_,none⟩::_) _ _;refine SW.st (aC rfl) rfl ?_))
      refine SW.ai ?_;refine SF.take 10 [14,13] [] aG rfl (by kernel_rfl) (by kernel_rfl) (by kernel_rfl) ?_;repeat ((show SW _ _ _ _ (⟨_,Op.load _ _,_,_,_,none⟩::_) _ _;refine SW.st (ak rfl (jk.row.sl.dA ck (j:=2) (u := .int .i64 cs[i].cj) rfl)) rfl ?_))
      refine SW.ai ?_;refine SF.take 11 [14,13,12] [] aG rfl (by kernel_rfl) (by kernel_rfl) (by kernel_rfl) ?_;repeat (refine SW.pure rfl rfl ?_)
      refine SW.ai ?_;refine SF.take 12 [14,13] [] aG rfl (by kernel_rfl) (by kernel_rfl) (by kernel_rfl) ?_;repeat ((show SW _ _ _ _ (⟨_,Op.binOp _ _ _ _ _,_,_,_,none⟩::_) _ _;refine SW.st (je rfl rfl (by omega) (by omega)) rfl ?_))
      refine SW.ai ?_;refine SF.take 13 [14] [] aG rfl (by kernel_rfl) (by kernel_rfl) (by kernel_rfl) ?_;repeat ((show SW _ _ _ _ (⟨_,Op.build _ _,_,_,_,none⟩::_) _ _;refine SW.st (gh rfl rfl) rfl ?_))
      refine SW.ai ?_;refine SF.one 14 rfl (by kernel_rfl) rfl ?_;refine SW.bD rfl rfl rfl rfl rfl fun bn w9 aj E8 wo => ?_
      have m6:aQ cs[i].ah.A cs[i].ah.c≠some bn:=fun e=>absurd ((jk.get jP hi).aR.lt_size _ e) (by omega)
      (replace hw:=Ext.trans hw aj;replace hb:=hb.ext aj;replace jk:=jk.ext aj;replace iW:=iW.ext aj);refine SW.nil (ae.sf aj ?_);refine SF.turn rfl (by kernel_rfl) rfl ?_;have oD:=jk.get jP hi;simp only at oD;refine SW.db rfl rfl (iR _ _ _ wb.heap.size s.aa[i].ah _ oD.aR k (by omega) ⟨at',cs[i].cj,at'*16⟩ bn wo m6 (by omega) (Nat.le_trans hx.size hw.size)) fun v lP hv => ?_
      obtain ⟨A2,c2,rfl,gf,hg,wI⟩:=hv;have hG:=oD.aR.gr hg;have DH:=jk.nG jP hi gf hg wI;have zB:=aF (hx.trans hw) hg (Nat.le_refl _) oD.aR.aL;have zC:∀ j x,j≠b→aI w0 j 30 x→aI lP j 30 x:=fun j x hj h=>((lL j x hj h).ext hw).ay hG rfl
      have zD:∀ j x,aI w0 j 89 x→aI lP j 89 x:=fun j x h=>((ua j x h).ext hw).ay hG rfl
      have zE:∀ j x,aI w0 j 3 x→aI lP j 3 x:=fun j x h=>((nM j x h).ext hw).ay hG rfl
      (replace hb:=hb.ay hG rfl;replace iW:=iW.ay hG rfl);have hS:True:=trivial
      refine SW.nil (ae.sg hS ?_);refine SG.one 16 rfl (by kernel_rfl) rfl ?_;repeat ((show SW _ _ _ _ (⟨_,Op.nilCheck _,_,_,_,none⟩::_) _ _;refine SW.st (aJ rfl) rfl ?_))
      refine SW.nil (ae.sg hS ?_);refine SG.one 17 rfl (by kernel_rfl) rfl ?_;repeat ((show SW _ _ _ _ (⟨_,Op.fieldAddr _ _ _,_,_,_,none⟩::_) _ _;refine SW.st (aC rfl) rfl ?_))
      refine SW.nil (ae.sg hS ?_);refine SG.last rfl (by kernel_rfl) (by kernel_rfl) ?_;have dz:=DH.row;refine SW.ig i 4 ⟨cs[i].Names,cs[i].bh,cs[i].cj,cs[i].Order,⟨A2,cs[i].ah.n+1,c2⟩,cs[i].au⟩ dz rfl rfl rfl ck (by decide) rfl rfl fun vh fX oE => ?_
      have kv:=dz.gr oE;have G7:=DH.qk fX oE;replace zB:=aF zB oE (Nat.le_refl _) dz.aL;(replace hb:=hb.ay kv rfl;replace iW:=iW.ay kv rfl)
      have DI:=iW.rows (s':=bQ (fL s (ez s.Words (16*at') s.aa[i].bh s.aa[i].cj)) i (u.1,ed s.aa[i] at')) (cs':=cs.set i ⟨cs[i].Names,cs[i].bh,cs[i].cj,cs[i].Order,⟨A2,cs[i].ah.n+1,c2⟩,cs[i].au⟩) rfl (fun u hu=>by
       rcases List.mem_or_eq_of_mem_set hu with hu|rfl
       ·exact ⟨u,hu,rfl⟩
       ·exact ⟨cs[i],List.getElem_mem jP,rfl⟩)
      have pJ:ed s.aa[i] at'=⟨s.aa[i].Names,s.aa[i].bh,s.aa[i].cj,s.aa[i].Order,aU s.aa[i].ah k ⟨at',cs[i].cj,at'*16⟩,s.aa[i].au⟩:=by
       unfold ed;rw [uu,rq,show at'*16=16*at' by omega]
      refine Wz ?_;refine ae.cy rfl rfl rfl ⟨_,rfl,u,hu,.inr (.inr ⟨he,by rw [iB];exact hc,by rw [iB,uu],zB,fun j x hj h=>(zC j x hj h).ay kv rfl,fun j x h=>(zD j x h).ay kv rfl,fun j x h=>(zE j x h).ay kv rfl,⟨XA,r.Words.n,Xc⟩,H,_,hb,?_,by rw [iB];exact DI⟩)⟩;rw [iB,pJ];exact G7
    ·have wq:k=cs[i].ah.n:=by omega
     have uu:iD s.aa[i] at'=k:=nI (by omega) (fun j hj h=>c8 j hj (by omega)) (fun h=>by omega)
     repeat' (first|refine Wz ?_|refine SW.st (ak rfl (jk.row.sl.dA ck (j:=4) (u := .slice cs[i].ah.A cs[i].ah.n cs[i].ah.c) rfl)) rfl ?_)
     all_goals try omega
     refine CW.jf 15 18 (fun _=>True) mixed (by kernel_rfl) fun w1 ab aG => ?_
     replace hw:=Ext.trans hw ab;replace hb:=hb.ext ab;replace jk:=jk.ext ab;replace iW:=iW.ext ab;clear ab;refine SF.dM 0 [] aG rfl (by kernel_rfl) (by kernel_rfl) (by kernel_rfl) (bd rfl) (fun w2 hS=>bd rfl) rfl ?_;refine SF.take 1 [4,3,2] [] aG rfl (by kernel_rfl) (by kernel_rfl) (by kernel_rfl) ?_;repeat (refine SW.pure rfl rfl ?_)
     refine SW.ai ?_;refine SF.take 2 [4,3] [] aG rfl (by kernel_rfl) (by kernel_rfl) (by kernel_rfl) ?_;repeat ((show SW _ _ _ _ (⟨_,Op.nilCheck _,_,_,_,none⟩::_) _ _;refine SW.st (aJ rfl) rfl ?_))
     refine SW.ai ?_;refine SF.take 3 [4] [] aG rfl (by kernel_rfl) (by kernel_rfl) (by kernel_rfl) ?_;repeat ((show SW _ _ _ _ (⟨_,Op.fieldAddr _ _ _,_,_,_,none⟩::_) _ _;refine SW.st (aC rfl) rfl ?_))
     refine SW.ai ?_;refine SF.take 4 [] [] aG rfl (by kernel_rfl) (by kernel_rfl) (by kernel_rfl) ?_;repeat ((show SW _ _ _ _ (⟨_,Op.load _ _,_,_,_,none⟩::_) _ _;refine SW.st (ak rfl (jk.row.sl.dA ck (j:=4) (u := .slice cs[i].ah.A cs[i].ah.n cs[i].ah.c) rfl)) rfl ?_))
     refine SW.ai ?_;refine SF.take 5 [] [] aG rfl (by kernel_rfl) (by kernel_rfl) (by kernel_rfl) ?_;repeat (refine SW.pure rfl rfl ?_)
     refine SW.ai ?_;refine SF.take 6 [14,13] [] aG rfl (by kernel_rfl) (by kernel_rfl) (by kernel_rfl) ?_;repeat (refine SW.pure rfl rfl ?_)
     refine SW.ai ?_;refine SF.take 7 [14,13,10,9,8] [] aG rfl (by kernel_rfl) (by kernel_rfl) (by kernel_rfl) ?_;repeat (refine SW.pure rfl rfl ?_)
     refine SW.ai ?_;refine SF.take 8 [14,13,10,9] [] aG rfl (by kernel_rfl) (by kernel_rfl) (by kernel_rfl) ?_;repeat ((show SW _ _ _ _ (⟨_,Op.nilCheck _,_,_,_,none⟩::_) _ _;refine SW.st (aJ rfl) rfl ?_))
     refine SW.ai ?_;refine SF.take 9 [14,13,10] [] aG rfl (by kernel_rfl) (by kernel_rfl) (by kernel_rfl) ?_;repeat ((show SW _ _ _ _ (⟨_,Op.fieldAddr _ _ _,_,_,_,none⟩::_) _ _;refine SW.st (aC rfl) rfl ?_))
     refine SW.ai ?_;refine SF.take 10 [14,13] [] aG rfl (by kernel_rfl) (by kernel_rfl) (by kernel_rfl) ?_;repeat ((show SW _ _ _ _ (⟨_,Op.load _ _,_,_,_,none⟩::_) _ _;refine SW.st (ak rfl (jk.row.sl.dA ck (j:=2) (u := .int .i64 cs[i].cj) rfl)) rfl ?_))
     refine SW.ai ?_;refine SF.take 11 [14,13,12] [] aG rfl (by kernel_rfl) (by kernel_rfl) (by kernel_rfl) ?_;repeat (refine SW.pure rfl rfl ?_)
     refine SW.ai ?_;refine SF.take 12 [14,13] [] aG rfl (by kernel_rfl) (by kernel_rfl) (by kernel_rfl) ?_;repeat ((show SW _ _ _ _ (⟨_,Op.binOp _ _ _ _ _,_,_,_,none⟩::_) _ _;refine SW.st (je rfl rfl (by omega) (by omega)) rfl ?_))
     refine SW.ai ?_;refine SF.take 13 [14] [] aG rfl (by kernel_rfl) (by kernel_rfl) (by kernel_rfl) ?_;repeat ((show SW _ _ _ _ (⟨_,Op.build _ _,_,_,_,none⟩::_) _ _;refine SW.st (gh rfl rfl) rfl ?_))
     refine SW.ai ?_;refine SF.one 14 rfl (by kernel_rfl) rfl ?_;refine SW.bD rfl rfl rfl rfl rfl fun bn w9 aj E8 wo => ?_
     have m6:aQ cs[i].ah.A cs[i].ah.c≠some bn:=fun e=>absurd ((jk.get jP hi).aR.lt_size _ e) (by omega)
     (replace hw:=Ext.trans hw aj;replace hb:=hb.ext aj;replace jk:=jk.ext aj;replace iW:=iW.ext aj);refine SW.nil (ae.sf aj ?_);refine SF.turn rfl (by kernel_rfl) rfl ?_;have oD:=jk.get jP hi;simp only at oD;refine SW.db rfl rfl (iR _ _ _ wb.heap.size s.aa[i].ah _ oD.aR k (by omega) ⟨at',cs[i].cj,at'*16⟩ bn wo m6 (by omega) (Nat.le_trans hx.size hw.size)) fun v lP hv => ?_
     obtain ⟨A2,c2,rfl,gf,hg,wI⟩:=hv;have hG:=oD.aR.gr hg;have DH:=jk.nG jP hi gf hg wI;have zB:=aF (hx.trans hw) hg (Nat.le_refl _) oD.aR.aL;have zC:∀ j x,j≠b→aI w0 j 30 x→aI lP j 30 x:=fun j x hj h=>((lL j x hj h).ext hw).ay hG rfl
     have zD:∀ j x,aI w0 j 89 x→aI lP j 89 x:=fun j x h=>((ua j x h).ext hw).ay hG rfl
     have zE:∀ j x,aI w0 j 3 x→aI lP j 3 x:=fun j x h=>((nM j x h).ext hw).ay hG rfl
     (replace hb:=hb.ay hG rfl;replace iW:=iW.ay hG rfl);have hS:True:=trivial
     refine SW.nil (ae.sg hS ?_);refine SG.one 16 rfl (by kernel_rfl) rfl ?_;repeat ((show SW _ _ _ _ (⟨_,Op.nilCheck _,_,_,_,none⟩::_) _ _;refine SW.st (aJ rfl) rfl ?_))
     refine SW.nil (ae.sg hS ?_);refine SG.one 17 rfl (by kernel_rfl) rfl ?_;repeat ((show SW _ _ _ _ (⟨_,Op.fieldAddr _ _ _,_,_,_,none⟩::_) _ _;refine SW.st (aC rfl) rfl ?_))
     refine SW.nil (ae.sg hS ?_);refine SG.last rfl (by kernel_rfl) (by kernel_rfl) ?_;have dz:=DH.row;refine SW.ig i 4 ⟨cs[i].Names,cs[i].bh,cs[i].cj,cs[i].Order,⟨A2,cs[i].ah.n+1,c2⟩,cs[i].au⟩ dz rfl rfl rfl ck (by decide) rfl rfl fun vh fX oE => ?_
     have kv:=dz.gr oE;have G7:=DH.qk fX oE;replace zB:=aF zB oE (Nat.le_refl _) dz.aL;(replace hb:=hb.ay kv rfl;replace iW:=iW.ay kv rfl)
     have DI:=iW.rows (s':=bQ (fL s (ez s.Words (16*at') s.aa[i].bh s.aa[i].cj)) i (u.1,ed s.aa[i] at')) (cs':=cs.set i ⟨cs[i].Names,cs[i].bh,cs[i].cj,cs[i].Order,⟨A2,cs[i].ah.n+1,c2⟩,cs[i].au⟩) rfl (fun u hu=>by
      rcases List.mem_or_eq_of_mem_set hu with hu|rfl
      ·exact ⟨u,hu,rfl⟩
      ·exact ⟨cs[i],List.getElem_mem jP,rfl⟩)
     have pJ:ed s.aa[i] at'=⟨s.aa[i].Names,s.aa[i].bh,s.aa[i].cj,s.aa[i].Order,aU s.aa[i].ah k ⟨at',cs[i].cj,at'*16⟩,s.aa[i].au⟩:=by
      unfold ed;rw [uu,rq,show at'*16=16*at' by omega]
     refine Wz ?_;refine ae.cy rfl rfl rfl ⟨_,rfl,u,hu,.inr (.inr ⟨he,by rw [iB];exact hc,by rw [iB,uu],zB,fun j x hj h=>(zC j x hj h).ay kv rfl,fun j x h=>(zD j x h).ay kv rfl,fun j x h=>(zE j x h).ay kv rfl,⟨XA,r.Words.n,Xc⟩,H,_,hb,?_,by rw [iB];exact DI⟩)⟩;rw [iB,pJ];exact G7
   ·refine CW.any 19 mixed (cq (by kernel_rfl)) rfl fun w1 ab aG => ?_
    replace hw:=Ext.trans hw ab;replace hb:=hb.ext ab;replace bl:=bl.ext ab;replace hH:=hH.ext ab;replace hS:=hS.ext ab;clear ab;refine SA.take 0 aG rfl (by kernel_rfl) (by kernel_rfl) rfl ?_;repeat (refine SW.pure rfl rfl ?_)
    refine SW.ai ?_;refine SA.take 1 aG rfl (by kernel_rfl) (by kernel_rfl) rfl ?_;repeat ((show SW _ _ _ _ (⟨_,Op.nilCheck _,_,_,_,none⟩::_) _ _;refine SW.st (aJ rfl) rfl ?_))
    refine SW.ai ?_;refine SA.take 2 aG rfl (by kernel_rfl) (by kernel_rfl) rfl ?_;repeat ((show SW _ _ _ _ (⟨_,Op.fieldAddr _ _ _,_,_,_,none⟩::_) _ _;refine SW.st (aC rfl) rfl ?_))
    refine SW.ai ?_;refine SA.take 3 aG rfl (by kernel_rfl) (by kernel_rfl) rfl ?_;repeat ((show SW _ _ _ _ (⟨_,Op.load _ _,_,_,_,none⟩::_) _ _;refine SW.st (ak rfl (hb.cell (i:=0) (v := .slice r.Words.A r.Words.n r.Words.c) rfl)) rfl ?_))
    refine SW.ai ?_;refine SA.take 4 aG rfl (by kernel_rfl) (by kernel_rfl) rfl ?_;repeat (refine SW.pure rfl rfl ?_)
    refine SW.ai ?_;refine SA.take 5 aG rfl (by kernel_rfl) (by kernel_rfl) rfl ?_;repeat ((show SW _ _ _ _ (⟨_,Op.binOp _ _ _ _ _,_,_,_,none⟩::_) _ _;refine SW.st (je rfl rfl (by omega) (by omega)) rfl ?_))
    refine SW.ai ?_;refine SA.take 6 aG rfl (by kernel_rfl) (by kernel_rfl) rfl ?_;repeat (refine SW.pure rfl rfl ?_)
    refine SW.ai ?_;refine SA.take 7 aG rfl (by kernel_rfl) (by kernel_rfl) rfl ?_;repeat ((show SW _ _ _ _ (⟨_,Op.nilCheck _,_,_,_,none⟩::_) _ _;refine SW.st (aJ rfl) rfl ?_))
    refine SW.ai ?_;refine SA.take 8 aG rfl (by kernel_rfl) (by kernel_rfl) rfl ?_;repeat ((show SW _ _ _ _ (⟨_,Op.fieldAddr _ _ _,_,_,_,none⟩::_) _ _;refine SW.st (aC rfl) rfl ?_))
    refine SW.ai ?_;refine SA.take 9 aG rfl (by kernel_rfl) (by kernel_rfl) rfl ?_;repeat ((show SW _ _ _ _ (⟨_,Op.load _ _,_,_,_,none⟩::_) _ _;refine SW.st (ak rfl (hS.row.sl.dA ck (j:=1) (u := .int .i64 cs[i].bh) rfl)) rfl ?_))
    refine SW.ai ?_;refine SA.take 10 aG rfl (by kernel_rfl) (by kernel_rfl) rfl ?_;repeat (refine SW.pure rfl rfl ?_)
    refine SW.ai ?_;refine SA.take 11 aG rfl (by kernel_rfl) (by kernel_rfl) rfl ?_;repeat ((show SW _ _ _ _ (⟨_,Op.nilCheck _,_,_,_,none⟩::_) _ _;refine SW.st (aJ rfl) rfl ?_))
    refine SW.ai ?_;refine SA.take 12 aG rfl (by kernel_rfl) (by kernel_rfl) rfl ?_;repeat ((show SW _ _ _ _ (⟨_,Op.fieldAddr _ _ _,_,_,_,none⟩::_) _ _;refine SW.st (aC rfl) rfl ?_))
    refine SW.ai ?_;refine SA.take 13 aG rfl (by kernel_rfl) (by kernel_rfl) rfl ?_;repeat ((show SW _ _ _ _ (⟨_,Op.load _ _,_,_,_,none⟩::_) _ _;refine SW.st (ak rfl (hS.row.sl.dA ck (j:=2) (u := .int .i64 cs[i].cj) rfl)) rfl ?_))
    refine SW.ai ?_;refine SA.one 14 rfl (by kernel_rfl) rfl ?_;refine SW.call rfl rfl (nH r.Words.A r.Words.n r.Words.c s.Words (at'*16) cs[i].bh cs[i].cj _ hS.words.sl (by omega)) fun v w6 aj hv => ?_
    have iV:=hc;unfold fD at iV;rw [ir,show at'*16=16*at' by omega,vi,rq,if_neg (by rw [G6] at iV;exact iV)] at hv;subst hv;(replace hw:=Ext.trans hw aj;replace hb:=hb.ext aj;replace bl:=bl.ext aj;replace hH:=hH.ext aj;replace hS:=hS.ext aj);refine SW.nil (ae.sa aj ?_);refine SA.take 15 aG rfl (by kernel_rfl) (by kernel_rfl) rfl ?_;repeat (refine SW.pure rfl rfl ?_)
    refine SW.ai ?_;refine SA.take 16 aG rfl (by kernel_rfl) (by kernel_rfl) rfl ?_;repeat (refine SW.pure rfl rfl ?_)
    refine SW.ai ?_;refine SA.take 17 aG rfl (by kernel_rfl) (by kernel_rfl) rfl ?_;repeat (refine SW.pure rfl rfl ?_)
    refine SW.ai ?_;refine SA.take 18 aG rfl (by kernel_rfl) (by kernel_rfl) rfl ?_;repeat (refine SW.pure rfl rfl ?_)
    refine SW.ai ?_;refine SA.done (by kernel_rfl) ?_;refine Wz ?_;exact ae.cy rfl rfl rfl ⟨_,rfl,u,hu,.inr (.inl ⟨he,by rw [iB];exact hc,rfl,hw⟩)⟩
  ·refine Wz ?_;all_goals try omega
   exact ae.cy rfl rfl rfl ⟨_,rfl,u,hu,.inl ⟨by rw [he];exact E7,by rw [he];rfl,hw⟩⟩
 ·refine SW.alloc rfl fun b9 w4 aj om bl => ?_
  have rc:w0.heap.size≤b9:=Nat.le_trans hw.size om
  try replace hH:=hH.ext aj
  (replace hw:=Ext.trans hw aj;replace hb:=hb.ext aj;replace hS:=hS.ext aj);refine SW.nil (ae.sf aj ?_);refine SF.one 9 rfl (by kernel_rfl) rfl ?_;refine SW.call rfl rfl (vg r.Heap s.Heap (cpu:Int) cs[i].Order 0 _ hS.heap.rd h1.small h1.qI (tx.ext hw)) fun v w4 aj hv => ?_
  obtain ⟨u,hu,H,rfl,hH⟩:=hv;replace hH:=hH.low hw.size;obtain ⟨e,he⟩ : ∃ e,u.2.2=e:=⟨_,rfl⟩;obtain ⟨at',iB⟩ : ∃ a,u.2.1=a:=⟨_,rfl⟩;rw [he,iB];(replace hw:=Ext.trans hw aj;replace hb:=hb.ext aj;replace hS:=hS.ext aj);try replace bl:=bl.ext aj
  refine SW.nil (ae.sf aj ?_);refine SF.take 10 [] [] aG rfl (by kernel_rfl) (by kernel_rfl) (by kernel_rfl) ?_;repeat (refine SW.pure rfl rfl ?_)
  refine SW.ai ?_;refine SF.take 11 [] [] aG rfl (by kernel_rfl) (by kernel_rfl) (by kernel_rfl) ?_;repeat (refine SW.pure rfl rfl ?_)
  refine SW.ai ?_;refine SF.dM 12 [] aG rfl (by kernel_rfl) (by kernel_rfl) (by kernel_rfl) (bd rfl) (fun w2 hS=>bd rfl) rfl ?_;refine SF.dM 13 [] aG rfl (by kernel_rfl) (by kernel_rfl) (by kernel_rfl) (bd rfl) (fun w2 hS=>bd rfl) rfl ?_;refine SF.turn rfl (by kernel_rfl) rfl ?_;refine SW.ap bl rfl rfl rfl rfl (cS H) fun w5 gz hg => ?_
  have hG:=bl.gr hg;replace hw:=hw.own rc hg;(replace hb:=hb.ay hG rfl;replace hH:=hH.ay hG rfl;replace hS:=hS.ay hG rfl);replace bl:=gz;clear gz hg hG;have I6:=hS;have hS:True:=trivial
  refine SW.nil (ae.sg hS ?_);refine SG.one 16 rfl (by kernel_rfl) rfl ?_;repeat (refine SW.pure rfl rfl ?_)
  refine SW.nil (ae.sg hS ?_);refine SG.last rfl (by kernel_rfl) (by kernel_rfl) ?_;replace hS:=I6;clear I6;rw [re] at hu;by_cases E7:e=0
  ·subst E7;have o7:=hu.at_ he;rw [iB] at o7;refine Wz ?_;all_goals try omega
   by_cases hc:fD s.Words.length (16*at') s.aa[i].bh s.aa[i].cj
   ·refine CW.any 19 mixed (cq (by kernel_rfl)) rfl fun w1 ab aG => ?_
    replace hw:=Ext.trans hw ab;replace hb:=hb.ext ab;replace bl:=bl.ext ab;replace hH:=hH.ext ab;replace hS:=hS.ext ab;clear ab;refine SA.take 0 aG rfl (by kernel_rfl) (by kernel_rfl) rfl ?_;repeat (refine SW.pure rfl rfl ?_)
    refine SW.ai ?_;refine SA.take 1 aG rfl (by kernel_rfl) (by kernel_rfl) rfl ?_;repeat ((show SW _ _ _ _ (⟨_,Op.nilCheck _,_,_,_,none⟩::_) _ _;refine SW.st (aJ rfl) rfl ?_))
    refine SW.ai ?_;refine SA.take 2 aG rfl (by kernel_rfl) (by kernel_rfl) rfl ?_;repeat ((show SW _ _ _ _ (⟨_,Op.fieldAddr _ _ _,_,_,_,none⟩::_) _ _;refine SW.st (aC rfl) rfl ?_))
    refine SW.ai ?_;refine SA.take 3 aG rfl (by kernel_rfl) (by kernel_rfl) rfl ?_;repeat ((show SW _ _ _ _ (⟨_,Op.load _ _,_,_,_,none⟩::_) _ _;refine SW.st (ak rfl (hb.cell (i:=0) (v := .slice r.Words.A r.Words.n r.Words.c) rfl)) rfl ?_))
    refine SW.ai ?_;refine SA.take 4 aG rfl (by kernel_rfl) (by kernel_rfl) rfl ?_;repeat (refine SW.pure rfl rfl ?_)
    refine SW.ai ?_;refine SA.take 5 aG rfl (by kernel_rfl) (by kernel_rfl) rfl ?_;repeat ((show SW _ _ _ _ (⟨_,Op.binOp _ _ _ _ _,_,_,_,none⟩::_) _ _;refine SW.st (je rfl rfl (by omega) (by omega)) rfl ?_))
    refine SW.ai ?_;refine SA.take 6 aG rfl (by kernel_rfl) (by kernel_rfl) rfl ?_;repeat (refine SW.pure rfl rfl ?_)
    refine SW.ai ?_;refine SA.take 7 aG rfl (by kernel_rfl) (by kernel_rfl) rfl ?_;repeat ((show SW _ _ _ _ (⟨_,Op.nilCheck _,_,_,_,none⟩::_) _ _;refine SW.st (aJ rfl) rfl ?_))
    refine SW.ai ?_;refine SA.take 8 aG rfl (by kernel_rfl) (by kernel_rfl) rfl ?_;repeat ((show SW _ _ _ _ (⟨_,Op.fieldAddr _ _ _,_,_,_,none⟩::_) _ _;refine SW.st (aC rfl) rfl ?_))
    refine SW.ai ?_;refine SA.take 9 aG rfl (by kernel_rfl) (by kernel_rfl) rfl ?_;repeat ((show SW _ _ _ _ (⟨_,Op.load _ _,_,_,_,none⟩::_) _ _;refine SW.st (ak rfl (hS.row.sl.dA ck (j:=1) (u := .int .i64 cs[i].bh) rfl)) rfl ?_))
    refine SW.ai ?_;refine SA.take 10 aG rfl (by kernel_rfl) (by kernel_rfl) rfl ?_;repeat (refine SW.pure rfl rfl ?_)
    refine SW.ai ?_;refine SA.take 11 aG rfl (by kernel_rfl) (by kernel_rfl) rfl ?_;repeat ((show SW _ _ _ _ (⟨_,Op.nilCheck _,_,_,_,none⟩::_) _ _;refine SW.st (aJ rfl) rfl ?_))
    refine SW.ai ?_;refine SA.take 12 aG rfl (by kernel_rfl) (by kernel_rfl) rfl ?_;repeat ((show SW _ _ _ _ (⟨_,Op.fieldAddr _ _ _,_,_,_,none⟩::_) _ _;refine SW.st (aC rfl) rfl ?_))
    refine SW.ai ?_;refine SA.take 13 aG rfl (by kernel_rfl) (by kernel_rfl) rfl ?_;repeat ((show SW _ _ _ _ (⟨_,Op.load _ _,_,_,_,none⟩::_) _ _;refine SW.st (ak rfl (hS.row.sl.dA ck (j:=2) (u := .int .i64 cs[i].cj) rfl)) rfl ?_))
    refine SW.ai ?_;refine SA.one 14 rfl (by kernel_rfl) rfl ?_;refine SW.call rfl rfl (nH r.Words.A r.Words.n r.Words.c s.Words (at'*16) cs[i].bh cs[i].cj _ hS.words.sl (by omega)) fun v w6 aj hv => ?_
    have iV:=hc;unfold fD at iV;rw [ir,show at'*16=16*at' by omega,vi,rq,if_pos (by rw [G6] at iV;exact iV)] at hv;obtain ⟨XA,Xc,rfl,hX⟩:=hv;replace hX:=hX.low hw.size;(replace hw:=Ext.trans hw aj;replace hb:=hb.ext aj;replace bl:=bl.ext aj;replace hH:=hH.ext aj;replace hS:=hS.ext aj);refine SW.nil (ae.sa aj ?_);refine SA.take 15 aG rfl (by kernel_rfl) (by kernel_rfl) rfl ?_;repeat (refine SW.pure rfl rfl ?_)
    refine SW.ai ?_;refine SA.take 16 aG rfl (by kernel_rfl) (by kernel_rfl) rfl ?_;repeat (refine SW.pure rfl rfl ?_)
    refine SW.ai ?_;refine SA.take 17 aG rfl (by kernel_rfl) (by kernel_rfl) rfl ?_;repeat (refine SW.pure rfl rfl ?_)
    refine SW.ai ?_;refine SA.take 18 aG rfl (by kernel_rfl) (by kernel_rfl) rfl ?_;repeat (refine SW.pure rfl rfl ?_)
    refine SW.ai ?_;refine SA.done (by kernel_rfl) ?_;refine Wz ?_;refine SW.qw 1 hb rfl rfl rfl (Nat.le_of_ble_eq_true rfl) (cS H) (aT ⟨r.Words,H,r.aa⟩) rfl fun w7 jR hg => ?_
    have hG:=hb.gr hg;have lL:∀ j x,j≠b→aI w0 j 30 x→aI w7 j 30 x:=fun j x hj h=>(h.ext hw).grown hg (by simpa using hj)
    have ua:∀ j x,aI w0 j 89 x→aI w7 j 89 x:=fun j x h=>(h.ext hw).ay hG rfl
    have nM:∀ j x,aI w0 j 3 x→aI w7 j 3 x:=fun j x h=>(h.ext hw).ay hG rfl
    replace hx:=(hx.trans hw).own E5 hg;(replace hH:=hH.ay hG rfl;replace hX:=hX.ay hG rfl;replace hS:=hS.ay hG rfl);refine Wz ?_;refine SW.bB (i:=0) jR rfl rfl rfl rfl fun w8 DG hg => ?_
    have hG:=jR.gr hg;replace lL:∀ j x,j≠b→aI w0 j 30 x→aI w8 j 30 x:=fun j x hj h=>(lL j x hj h).grown hg (by simpa using hj)
    replace ua:∀ j x,aI w0 j 89 x→aI w8 j 89 x:=fun j x h=>(ua j x h).ay hG rfl
    replace nM:∀ j x,aI w0 j 3 x→aI w8 j 3 x:=fun j x h=>(nM j x h).ay hG rfl
    replace hx:=hx.own E5 hg;(replace hH:=hH.ay hG rfl;replace hX:=hX.ay hG rfl;replace hS:=hS.ay hG rfl);replace hb:aI w8 b 30 (aT ⟨⟨XA,r.Words.n,Xc⟩,H,r.aa⟩):=DG;rw [← e0] at hS;obtain ⟨jk,iW⟩:=nD.fresh (p:=(s.Heap,s.aa[i])) (X:=⟨XA,r.Words.n,Xc⟩) (H:=H) (h':=u.1) (m:=w0.heap.size) hS fG BJ E6 hX hH;clear hS hX hH hw hG hg jR DG bl;have hw:=Ext.refl w8;refine Wz ?_
    refine CW.loop (fun k:Nat=>[(8,.pointer (some ((r.aa.A.getD default).add (i*6)))),(10,.int .i64 at'),(13,.int .i64 (k:Int))])
     (fun k w'=>w'=w8∧k≤cs[i].ah.n ∧ ∀ (j:Nat) (hj:j<s.aa[i].ah.length),j<k→s.aa[i].ah[j].At<at') (fun k=>cs[i].ah.n-k) 0
     ⟨rfl,rfl,rfl,trivial⟩ ⟨rfl,Nat.zero_le _,fun j hj h=>by omega⟩ ?_
    rintro k w' ⟨IT,hk,c8⟩
    subst IT;have oD:=jk.get jP hi;simp only at oD;have JT:=oD.aR.sl.base;by_cases cb:k<cs[i].ah.n
    ·have di:k<s.aa[i].ah.length:=by omega
     obtain ⟨y,hy⟩ : ∃ y,s.aa[i].ah[k]=y:=⟨_,rfl⟩;have gA:=oD.aR.sl.dA cb (j:=0) (show (a8 (s.aa[i].ah[k]'(by omega)))[0]?=some (Value.int .i64 y.At) by rw [hy];rfl);by_cases FP:y.At<at'
     ·repeat' (first|refine Wz ?_|refine SW.st (ak rfl (jk.row.sl.dA ck (j:=4) (u := .slice cs[i].ah.A cs[i].ah.n cs[i].ah.c) rfl)) rfl ?_|refine SW.st (ak rfl gA) rfl ?_)
      all_goals try omega
      exact ae.again (k+1) ⟨rfl,rfl,rfl,trivial⟩ (by omega) ⟨rfl,by omega,fun j hj h=>by
       by_cases e:j=k
       ·subst e;rw [hy];exact FP
       ·exact c8 j hj (by omega)⟩
     ·have uu:iD s.aa[i] at'=k:=nI (by omega) c8 (fun h=>by rw [hy];exact FP)
      repeat' (first|refine Wz ?_|refine SW.st (ak rfl (jk.row.sl.dA ck (j:=4) (u := .slice cs[i].ah.A cs[i].ah.n cs[i].ah.c) rfl)) rfl ?_|refine SW.st (ak rfl gA) rfl ?_)
      all_goals try omega
      refine CW.jf 15 18 (fun _=>True) mixed (by kernel_rfl) fun w1 ab aG => ?_
      replace hw:=Ext.trans hw ab;replace hb:=hb.ext ab;replace jk:=jk.ext ab;replace iW:=iW.ext ab;clear ab;refine SF.dM 0 [] aG rfl (by kernel_rfl) (by kernel_rfl) (by kernel_rfl) (bd rfl) (fun w2 hS=>bd rfl) rfl ?_;refine SF.take 1 [4,3,2] [] aG rfl (by kernel_rfl) (by kernel_rfl) (by kernel_rfl) ?_;repeat (refine SW.pure rfl rfl ?_)
      refine SW.ai ?_;refine SF.take 2 [4,3] [] aG rfl (by kernel_rfl) (by kernel_rfl) (by kernel_rfl) ?_;repeat ((show SW _ _ _ _ (⟨_,Op.nilCheck _,_,_,_,none⟩::_) _ _;refine SW.st (aJ rfl) rfl ?_))
      refine SW.ai ?_;refine SF.take 3 [4] [] aG rfl (by kernel_rfl) (by kernel_rfl) (by kernel_rfl) ?_;repeat ((show SW _ _ _ _ (⟨_,Op.fieldAddr _ _ _,_,_,_,none⟩::_) _ _;refine SW.st (aC rfl) rfl ?_))
      refine SW.ai ?_;refine SF.take 4 [] [] aG rfl (by kernel_rfl) (by kernel_rfl) (by kernel_rfl) ?_;repeat ((show SW _ _ _ _ (⟨_,Op.load _ _,_,_,_,none⟩::_) _ _;refine SW.st (ak rfl (jk.row.sl.dA ck (j:=4) (u := .slice cs[i].ah.A cs[i].ah.n cs[i].ah.c) rfl)) rfl ?_))
      refine SW.ai ?_;refine SF.take 5 [] [] aG rfl (by kernel_rfl) (by kernel_rfl) (by kernel_rfl) ?_;repeat (refine SW.pure rfl rfl ?_)
      refine SW.ai ?_;refine SF.take 6 [14,13] [] aG rfl (by kernel_rfl) (by kernel_rfl) (by kernel_rfl) ?_;repeat (refine SW.pure rfl rfl ?_)
      refine SW.ai ?_;refine SF.take 7 [14,13,10,9,8] [] aG rfl (by kernel_rfl) (by kernel_rfl) (by kernel_rfl) ?_;repeat (refine SW.pure rfl rfl ?_)
      refine SW.ai ?_;refine SF.take 8 [14,13,10,9] [] aG rfl (by kernel_rfl) (by kernel_rfl) (by kernel_rfl) ?_;repeat ((show SW _ _ _ _ (⟨_,Op.nilCheck _,_,_,_,none⟩::_) _ _;refine SW.st (aJ rfl) rfl ?_))
      refine SW.ai ?_;refine SF.take 9 [14,13,10] [] aG rfl (by kernel_rfl) (by kernel_rfl) (by kernel_rfl) ?_;repeat ((show SW _ _ _ _ (⟨_,Op.fieldAddr _ _ _,_,_,_,none⟩::_) _ _;refine SW.st (aC rfl) rfl ?_))
      refine SW.ai ?_;refine SF.take 10 [14,13] [] aG rfl (by kernel_rfl) (by kernel_rfl) (by kernel_rfl) ?_;repeat ((show SW _ _ _ _ (⟨_,Op.load _ _,_,_,_,none⟩::_) _ _;refine SW.st (ak rfl (jk.row.sl.dA ck (j:=2) (u := .int .i64 cs[i].cj) rfl)) rfl ?_))
      refine SW.ai ?_;refine SF.take 11 [14,13,12] [] aG rfl (by kernel_rfl) (by kernel_rfl) (by kernel_rfl) ?_;repeat (refine SW.pure rfl rfl ?_)
      refine SW.ai ?_;refine SF.take 12 [14,13] [] aG rfl (by kernel_rfl) (by kernel_rfl) (by kernel_rfl) ?_;repeat ((show SW _ _ _ _ (⟨_,Op.binOp _ _ _ _ _,_,_,_,none⟩::_) _ _;refine SW.st (je rfl rfl (by omega) (by omega)) rfl ?_))
      refine SW.ai ?_;refine SF.take 13 [14] [] aG rfl (by kernel_rfl) (by kernel_rfl) (by kernel_rfl) ?_;repeat ((show SW _ _ _ _ (⟨_,Op.build _ _,_,_,_,none⟩::_) _ _;refine SW.st (gh rfl rfl) rfl ?_))
      refine SW.ai ?_;refine SF.one 14 rfl (by kernel_rfl) rfl ?_;refine SW.bD rfl rfl rfl rfl rfl fun bn w9 aj E8 wo => ?_
      have m6:aQ cs[i].ah.A cs[i].ah.c≠some bn:=fun e=>absurd ((jk.get jP hi).aR.lt_size _ e) (by omega)
      (replace hw:=Ext.trans hw aj;replace hb:=hb.ext aj;replace jk:=jk.ext aj;replace iW:=iW.ext aj);refine SW.nil (ae.sf aj ?_);refine SF.turn rfl (by kernel_rfl) rfl ?_;have oD:=jk.get jP hi;simp only at oD;refine SW.db rfl rfl (iR _ _ _ wb.heap.size s.aa[i].ah _ oD.aR k (by omega) ⟨at',cs[i].cj,at'*16⟩ bn wo m6 (by omega) (Nat.le_trans hx.size hw.size)) fun v lP hv => ?_
      obtain ⟨A2,c2,rfl,gf,hg,wI⟩:=hv;have hG:=oD.aR.gr hg;have DH:=jk.nG jP hi gf hg wI;have zB:=aF (hx.trans hw) hg (Nat.le_refl _) oD.aR.aL;have zC:∀ j x,j≠b→aI w0 j 30 x→aI lP j 30 x:=fun j x hj h=>((lL j x hj h).ext hw).ay hG rfl
      have zD:∀ j x,aI w0 j 89 x→aI lP j 89 x:=fun j x h=>((ua j x h).ext hw).ay hG rfl
      have zE:∀ j x,aI w0 j 3 x→aI lP j 3 x:=fun j x h=>((nM j x h).ext hw).ay hG rfl
      (replace hb:=hb.ay hG rfl;replace iW:=iW.ay hG rfl);have hS:True:=trivial
      refine SW.nil (ae.sg hS ?_);refine SG.one 16 rfl (by kernel_rfl) rfl ?_;repeat ((show SW _ _ _ _ (⟨_,Op.nilCheck _,_,_,_,none⟩::_) _ _;refine SW.st (aJ rfl) rfl ?_))
      refine SW.nil (ae.sg hS ?_);refine SG.one 17 rfl (by kernel_rfl) rfl ?_;repeat ((show SW _ _ _ _ (⟨_,Op.fieldAddr _ _ _,_,_,_,none⟩::_) _ _;refine SW.st (aC rfl) rfl ?_))
      refine SW.nil (ae.sg hS ?_);refine SG.last rfl (by kernel_rfl) (by kernel_rfl) ?_;have dz:=DH.row;refine SW.ig i 4 ⟨cs[i].Names,cs[i].bh,cs[i].cj,cs[i].Order,⟨A2,cs[i].ah.n+1,c2⟩,cs[i].au⟩ dz rfl rfl rfl ck (by decide) rfl rfl fun vh fX oE => ?_
      have kv:=dz.gr oE;have G7:=DH.qk fX oE;replace zB:=aF zB oE (Nat.le_refl _) dz.aL;(replace hb:=hb.ay kv rfl;replace iW:=iW.ay kv rfl)
      have DI:=iW.rows (s':=bQ (fL s (ez s.Words (16*at') s.aa[i].bh s.aa[i].cj)) i (u.1,ed s.aa[i] at')) (cs':=cs.set i ⟨cs[i].Names,cs[i].bh,cs[i].cj,cs[i].Order,⟨A2,cs[i].ah.n+1,c2⟩,cs[i].au⟩) rfl (fun u hu=>by
       rcases List.mem_or_eq_of_mem_set hu with hu|rfl
       ·exact ⟨u,hu,rfl⟩
       ·exact ⟨cs[i],List.getElem_mem jP,rfl⟩)
      have pJ:ed s.aa[i] at'=⟨s.aa[i].Names,s.aa[i].bh,s.aa[i].cj,s.aa[i].Order,aU s.aa[i].ah k ⟨at',cs[i].cj,at'*16⟩,s.aa[i].au⟩:=by
       unfold ed;rw [uu,rq,show at'*16=16*at' by omega]
      refine Wz ?_;refine ae.cy rfl rfl rfl ⟨_,rfl,u,hu,.inr (.inr ⟨he,by rw [iB];exact hc,by rw [iB,uu],zB,fun j x hj h=>(zC j x hj h).ay kv rfl,fun j x h=>(zD j x h).ay kv rfl,fun j x h=>(zE j x h).ay kv rfl,⟨XA,r.Words.n,Xc⟩,H,_,hb,?_,by rw [iB];exact DI⟩)⟩;rw [iB,pJ];exact G7
    ·have wq:k=cs[i].ah.n:=by omega
     have uu:iD s.aa[i] at'=k:=nI (by omega) (fun j hj h=>c8 j hj (by omega)) (fun h=>by omega)
     repeat' (first|refine Wz ?_|refine SW.st (ak rfl (jk.row.sl.dA ck (j:=4) (u := .slice cs[i].ah.A cs[i].ah.n cs[i].ah.c) rfl)) rfl ?_)
     all_goals try omega
     refine CW.jf 15 18 (fun _=>True) mixed (by kernel_rfl) fun w1 ab aG => ?_
     replace hw:=Ext.trans hw ab;replace hb:=hb.ext ab;replace jk:=jk.ext ab;replace iW:=iW.ext ab;clear ab;refine SF.dM 0 [] aG rfl (by kernel_rfl) (by kernel_rfl) (by kernel_rfl) (bd rfl) (fun w2 hS=>bd rfl) rfl ?_;refine SF.take 1 [4,3,2] [] aG rfl (by kernel_rfl) (by kernel_rfl) (by kernel_rfl) ?_;repeat (refine SW.pure rfl rfl ?_)
     refine SW.ai ?_;refine SF.take 2 [4,3] [] aG rfl (by kernel_rfl) (by kernel_rfl) (by kernel_rfl) ?_;repeat ((show SW _ _ _ _ (⟨_,Op.nilCheck _,_,_,_,none⟩::_) _ _;refine SW.st (aJ rfl) rfl ?_))
     refine SW.ai ?_;refine SF.take 3 [4] [] aG rfl (by kernel_rfl) (by kernel_rfl) (by kernel_rfl) ?_;repeat ((show SW _ _ _ _ (⟨_,Op.fieldAddr _ _ _,_,_,_,none⟩::_) _ _;refine SW.st (aC rfl) rfl ?_))
     refine SW.ai ?_;refine SF.take 4 [] [] aG rfl (by kernel_rfl) (by kernel_rfl) (by kernel_rfl) ?_;repeat ((show SW _ _ _ _ (⟨_,Op.load _ _,_,_,_,none⟩::_) _ _;refine SW.st (ak rfl (jk.row.sl.dA ck (j:=4) (u := .slice cs[i].ah.A cs[i].ah.n cs[i].ah.c) rfl)) rfl ?_))
     refine SW.ai ?_;refine SF.take 5 [] [] aG rfl (by kernel_rfl) (by kernel_rfl) (by kernel_rfl) ?_;repeat (refine SW.pure rfl rfl ?_)
     refine SW.ai ?_;refine SF.take 6 [14,13] [] aG rfl (by kernel_rfl) (by kernel_rfl) (by kernel_rfl) ?_;repeat (refine SW.pure rfl rfl ?_)
     refine SW.ai ?_;refine SF.take 7 [14,13,10,9,8] [] aG rfl (by kernel_rfl) (by kernel_rfl) (by kernel_rfl) ?_;repeat (refine SW.pure rfl rfl ?_)
     refine SW.ai ?_;refine SF.take 8 [14,13,10,9] [] aG rfl (by kernel_rfl) (by kernel_rfl) (by kernel_rfl) ?_;repeat ((show SW _ _ _ _ (⟨_,Op.nilCheck _,_,_,_,none⟩::_) _ _;refine SW.st (aJ rfl) rfl ?_))
     refine SW.ai ?_;refine SF.take 9 [14,13,10] [] aG rfl (by kernel_rfl) (by kernel_rfl) (by kernel_rfl) ?_;repeat ((show SW _ _ _ _ (⟨_,Op.fieldAddr _ _ _,_,_,_,none⟩::_) _ _;refine SW.st (aC rfl) rfl ?_))
     refine SW.ai ?_;refine SF.take 10 [14,13] [] aG rfl (by kernel_rfl) (by kernel_rfl) (by kernel_rfl) ?_;repeat ((show SW _ _ _ _ (⟨_,Op.load _ _,_,_,_,none⟩::_) _ _;refine SW.st (ak rfl (jk.row.sl.dA ck (j:=2) (u := .int .i64 cs[i].cj) rfl)) rfl ?_))
     refine SW.ai ?_;refine SF.take 11 [14,13,12] [] aG rfl (by kernel_rfl) (by kernel_rfl) (by kernel_rfl) ?_;repeat (refine SW.pure rfl rfl ?_)
     refine SW.ai ?_;refine SF.take 12 [14,13] [] aG rfl (by kernel_rfl) (by kernel_rfl) (by kernel_rfl) ?_;repeat ((show SW _ _ _ _ (⟨_,Op.binOp _ _ _ _ _,_,_,_,none⟩::_) _ _;refine SW.st (je rfl rfl (by omega) (by omega)) rfl ?_))
     refine SW.ai ?_;refine SF.take 13 [14] [] aG rfl (by kernel_rfl) (by kernel_rfl) (by kernel_rfl) ?_;repeat ((show SW _ _ _ _ (⟨_,Op.build _ _,_,_,_,none⟩::_) _ _;refine SW.st (gh rfl rfl) rfl ?_))
     refine SW.ai ?_;refine SF.one 14 rfl (by kernel_rfl) rfl ?_;refine SW.bD rfl rfl rfl rfl rfl fun bn w9 aj E8 wo => ?_
     have m6:aQ cs[i].ah.A cs[i].ah.c≠some bn:=fun e=>absurd ((jk.get jP hi).aR.lt_size _ e) (by omega)
     (replace hw:=Ext.trans hw aj;replace hb:=hb.ext aj;replace jk:=jk.ext aj;replace iW:=iW.ext aj);refine SW.nil (ae.sf aj ?_);refine SF.turn rfl (by kernel_rfl) rfl ?_;have oD:=jk.get jP hi;simp only at oD;refine SW.db rfl rfl (iR _ _ _ wb.heap.size s.aa[i].ah _ oD.aR k (by omega) ⟨at',cs[i].cj,at'*16⟩ bn wo m6 (by omega) (Nat.le_trans hx.size hw.size)) fun v lP hv => ?_
     obtain ⟨A2,c2,rfl,gf,hg,wI⟩:=hv;have hG:=oD.aR.gr hg;have DH:=jk.nG jP hi gf hg wI;have zB:=aF (hx.trans hw) hg (Nat.le_refl _) oD.aR.aL;have zC:∀ j x,j≠b→aI w0 j 30 x→aI lP j 30 x:=fun j x hj h=>((lL j x hj h).ext hw).ay hG rfl
     have zD:∀ j x,aI w0 j 89 x→aI lP j 89 x:=fun j x h=>((ua j x h).ext hw).ay hG rfl
     have zE:∀ j x,aI w0 j 3 x→aI lP j 3 x:=fun j x h=>((nM j x h).ext hw).ay hG rfl
     (replace hb:=hb.ay hG rfl;replace iW:=iW.ay hG rfl);have hS:True:=trivial
     refine SW.nil (ae.sg hS ?_);refine SG.one 16 rfl (by kernel_rfl) rfl ?_;repeat ((show SW _ _ _ _ (⟨_,Op.nilCheck _,_,_,_,none⟩::_) _ _;refine SW.st (aJ rfl) rfl ?_))
     refine SW.nil (ae.sg hS ?_);refine SG.one 17 rfl (by kernel_rfl) rfl ?_;repeat ((show SW _ _ _ _ (⟨_,Op.fieldAddr _ _ _,_,_,_,none⟩::_) _ _;refine SW.st (aC rfl) rfl ?_))
     refine SW.nil (ae.sg hS ?_);refine SG.last rfl (by kernel_rfl) (by kernel_rfl) ?_;have dz:=DH.row;refine SW.ig i 4 ⟨cs[i].Names,cs[i].bh,cs[i].cj,cs[i].Order,⟨A2,cs[i].ah.n+1,c2⟩,cs[i].au⟩ dz rfl rfl rfl ck (by decide) rfl rfl fun vh fX oE => ?_
     have kv:=dz.gr oE;have G7:=DH.qk fX oE;replace zB:=aF zB oE (Nat.le_refl _) dz.aL;(replace hb:=hb.ay kv rfl;replace iW:=iW.ay kv rfl)
     have DI:=iW.rows (s':=bQ (fL s (ez s.Words (16*at') s.aa[i].bh s.aa[i].cj)) i (u.1,ed s.aa[i] at')) (cs':=cs.set i ⟨cs[i].Names,cs[i].bh,cs[i].cj,cs[i].Order,⟨A2,cs[i].ah.n+1,c2⟩,cs[i].au⟩) rfl (fun u hu=>by
      rcases List.mem_or_eq_of_mem_set hu with hu|rfl
      ·exact ⟨u,hu,rfl⟩
      ·exact ⟨cs[i],List.getElem_mem jP,rfl⟩)
     have pJ:ed s.aa[i] at'=⟨s.aa[i].Names,s.aa[i].bh,s.aa[i].cj,s.aa[i].Order,aU s.aa[i].ah k ⟨at',cs[i].cj,at'*16⟩,s.aa[i].au⟩:=by
      unfold ed;rw [uu,rq,show at'*16=16*at' by omega]
     refine Wz ?_;refine ae.cy rfl rfl rfl ⟨_,rfl,u,hu,.inr (.inr ⟨he,by rw [iB];exact hc,by rw [iB,uu],zB,fun j x hj h=>(zC j x hj h).ay kv rfl,fun j x h=>(zD j x h).ay kv rfl,fun j x h=>(zE j x h).ay kv rfl,⟨XA,r.Words.n,Xc⟩,H,_,hb,?_,by rw [iB];exact DI⟩)⟩;rw [iB,pJ];exact G7
   ·refine CW.any 19 mixed (cq (by kernel_rfl)) rfl fun w1 ab aG => ?_
    replace hw:=Ext.trans hw ab;replace hb:=hb.ext ab;replace bl:=bl.ext ab;replace hH:=hH.ext ab;replace hS:=hS.ext ab;clear ab;refine SA.take 0 aG rfl (by kernel_rfl) (by kernel_rfl) rfl ?_;repeat (refine SW.pure rfl rfl ?_)
    refine SW.ai ?_;refine SA.take 1 aG rfl (by kernel_rfl) (by kernel_rfl) rfl ?_;repeat ((show SW _ _ _ _ (⟨_,Op.nilCheck _,_,_,_,none⟩::_) _ _;refine SW.st (aJ rfl) rfl ?_))
    refine SW.ai ?_;refine SA.take 2 aG rfl (by kernel_rfl) (by kernel_rfl) rfl ?_;repeat ((show SW _ _ _ _ (⟨_,Op.fieldAddr _ _ _,_,_,_,none⟩::_) _ _;refine SW.st (aC rfl) rfl ?_))
    refine SW.ai ?_;refine SA.take 3 aG rfl (by kernel_rfl) (by kernel_rfl) rfl ?_;repeat ((show SW _ _ _ _ (⟨_,Op.load _ _,_,_,_,none⟩::_) _ _;refine SW.st (ak rfl (hb.cell (i:=0) (v := .slice r.Words.A r.Words.n r.Words.c) rfl)) rfl ?_))
    refine SW.ai ?_;refine SA.take 4 aG rfl (by kernel_rfl) (by kernel_rfl) rfl ?_;repeat (refine SW.pure rfl rfl ?_)
    refine SW.ai ?_;refine SA.take 5 aG rfl (by kernel_rfl) (by kernel_rfl) rfl ?_;repeat ((show SW _ _ _ _ (⟨_,Op.binOp _ _ _ _ _,_,_,_,none⟩::_) _ _;refine SW.st (je rfl rfl (by omega) (by omega)) rfl ?_))
    refine SW.ai ?_;refine SA.take 6 aG rfl (by kernel_rfl) (by kernel_rfl) rfl ?_;repeat (refine SW.pure rfl rfl ?_)
    refine SW.ai ?_;refine SA.take 7 aG rfl (by kernel_rfl) (by kernel_rfl) rfl ?_;repeat ((show SW _ _ _ _ (⟨_,Op.nilCheck _,_,_,_,none⟩::_) _ _;refine SW.st (aJ rfl) rfl ?_))
    refine SW.ai ?_;refine SA.take 8 aG rfl (by kernel_rfl) (by kernel_rfl) rfl ?_;repeat ((show SW _ _ _ _ (⟨_,Op.fieldAddr _ _ _,_,_,_,none⟩::_) _ _;refine SW.st (aC rfl) rfl ?_))
    refine SW.ai ?_;refine SA.take 9 aG rfl (by kernel_rfl) (by kernel_rfl) rfl ?_;repeat ((show SW _ _ _ _ (⟨_,Op.load _ _,_,_,_,none⟩::_) _ _;refine SW.st (ak rfl (hS.row.sl.dA ck (j:=1) (u := .int .i64 cs[i].bh) rfl)) rfl ?_))
    refine SW.ai ?_;refine SA.take 10 aG rfl (by kernel_rfl) (by kernel_rfl) rfl ?_;repeat (refine SW.pure rfl rfl ?_)
    refine SW.ai ?_;refine SA.take 11 aG rfl (by kernel_rfl) (by kernel_rfl) rfl ?_;repeat ((show SW _ _ _ _ (⟨_,Op.nilCheck _,_,_,_,none⟩::_) _ _;refine SW.st (aJ rfl) rfl ?_))
    refine SW.ai ?_;refine SA.take 12 aG rfl (by kernel_rfl) (by kernel_rfl) rfl ?_;repeat ((show SW _ _ _ _ (⟨_,Op.fieldAddr _ _ _,_,_,_,none⟩::_) _ _;refine SW.st (aC rfl) rfl ?_))
    refine SW.ai ?_;refine SA.take 13 aG rfl (by kernel_rfl) (by kernel_rfl) rfl ?_;repeat ((show SW _ _ _ _ (⟨_,Op.load _ _,_,_,_,none⟩::_) _ _;refine SW.st (ak rfl (hS.row.sl.dA ck (j:=2) (u := .int .i64 cs[i].cj) rfl)) rfl ?_))
    refine SW.ai ?_;refine SA.one 14 rfl (by kernel_rfl) rfl ?_;refine SW.call rfl rfl (nH r.Words.A r.Words.n r.Words.c s.Words (at'*16) cs[i].bh cs[i].cj _ hS.words.sl (by omega)) fun v w6 aj hv => ?_
    have iV:=hc;unfold fD at iV;rw [ir,show at'*16=16*at' by omega,vi,rq,if_neg (by rw [G6] at iV;exact iV)] at hv;subst hv;(replace hw:=Ext.trans hw aj;replace hb:=hb.ext aj;replace bl:=bl.ext aj;replace hH:=hH.ext aj;replace hS:=hS.ext aj);refine SW.nil (ae.sa aj ?_);refine SA.take 15 aG rfl (by kernel_rfl) (by kernel_rfl) rfl ?_;repeat (refine SW.pure rfl rfl ?_)
    refine SW.ai ?_;refine SA.take 16 aG rfl (by kernel_rfl) (by kernel_rfl) rfl ?_;repeat (refine SW.pure rfl rfl ?_)
    refine SW.ai ?_;refine SA.take 17 aG rfl (by kernel_rfl) (by kernel_rfl) rfl ?_;repeat (refine SW.pure rfl rfl ?_)
    refine SW.ai ?_;refine SA.take 18 aG rfl (by kernel_rfl) (by kernel_rfl) rfl ?_;repeat (refine SW.pure rfl rfl ?_)
    refine SW.ai ?_;refine SA.done (by kernel_rfl) ?_;refine Wz ?_;exact ae.cy rfl rfl rfl ⟨_,rfl,u,hu,.inr (.inl ⟨he,by rw [iB];exact hc,rfl,hw⟩)⟩
  ·refine Wz ?_;all_goals try omega
   exact ae.cy rfl rfl rfl ⟨_,rfl,u,hu,.inl ⟨by rw [he];exact E7,by rw [he];rfl,hw⟩⟩
end Go.Proofs.YtjimadiidbkohaaGreatDoor
