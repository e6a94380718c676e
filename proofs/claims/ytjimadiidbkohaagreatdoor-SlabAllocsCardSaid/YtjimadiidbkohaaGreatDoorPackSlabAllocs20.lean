/-
  Texts of the claim SlabAllocs, part 20: what its theorem leans on.
-/
import Derived.Test.YtjimadiidbkohaaGreatDoorPackSlabAllocs15
import Derived.Test.YtjimadiidbkohaaGreatDoorPackSlabAllocs17
import Derived.Test.YtjimadiidbkohaaGreatDoorPackSlabAllocs19
import Derived.Test.YtjimadiidbkohaaGreatDoorPackSlabAllocs2
set_option linter.unusedVariables false
set_option linter.unusedSimpArgs false
namespace Go.Proofs.YtjimadiidbkohaaGreatDoor
open Go.RowKit
def EF (G:Nat→Prop) (wb w0:World) (b:Nat) (r:dV) (s:aF) (i:Nat) (c:bd) (cpu:Nat) (v:Value) (w':World) : Prop :=
 ∃ u,dP s.Heap (cpu:Int) c.Order 0 u ∧
  ((u.2.2≠0∧v = .tuple #[.int .i64 0,.int .i64 u.2.2]∧Ext w0 w')∨(u.2.2=0 ∧ ¬ gh s.Words.length (16*u.2.1) c.bf c.ck∧v = .tuple #[.int .i64 0,.int .i64 1]∧Ext w0 w') ∨
   (u.2.2=0∧gh s.Words.length (16*u.2.1) c.bf c.ck∧v = .tuple #[.int .i64 (lC c u.2.1:Int),.int .i64 0]∧Ext wb w'∧(∀ j x,j≠b→aJ w0 j 30 x→aJ w' j 30 x)∧(∀ j x,aJ w0 j 89 x→aJ w' j 89 x)∧(∀ j x,aJ w0 j 3 x→aJ w' j 3 x) ∧
    ∃ X H cs',aJ w' b 30 (aU ⟨X,H,r.aa⟩)∧SX w' wb.heap.size ⟨X,H,r.aa⟩ (cm (iE s (iX s.Words (16*u.2.1) c.bf c.ck)) i (u.1,eG c u.2.1)) cs'∧SJ G w' wb.heap.size ⟨X,H,r.aa⟩ (cm (iE s (iX s.Words (16*u.2.1) c.bf c.ck)) i (u.1,eG c u.2.1)) cs'))
set_option maxHeartbeats 8000000 in
theorem xE (G:Nat→Prop) (wb w0:World) (b:Nat) (r:dV) (s:aF) (cs:List dn) (i cpu:Nat) (hf:s.lA) (hi:i<s.aa.length) (hM:nJ s s.aa[i]) (ti:oZ w0)
 (hx:Ext wb w0) (hb:aJ w0 b 30 (aU r)) (EG:wb.heap.size≤b) (hS:SX w0 wb.heap.size r s cs) (EH:∀ g,G g→g<w0.heap.size ∧ ∀ u∈cs,aT u.au.A u.au.c≠some g) (DD:(s.aa[i].ai.length+1)*24≤140737488355328) :
 gL Tryz.prog 50 [.pointer (some ⟨b,0,none⟩),.int .i64 (i:Int),.int .i64 (cpu:Int)] w0 (EF G wb w0 b r s i s.aa[i] cpu):=by
 refine dw Tryz.func50 rfl Tryz.ntmps50 rfl ?_;have h1:=hf.jc;have hm:=hM.most;have Hh:=hM.words;have EI:=hS.zW;have fC:=hx.size;have e0:=ou hi;obtain ⟨e1,e2⟩:=hS.len;have jA:i<cs.length:=by omega
 have cf:i<r.aa.n:=by omega
 have KL:=hS.row.sl.base;have GH:=hS.words.len;have hC:=hS.each.get i jA hi;have qW:=hC.order;have uV:=hC.size;have rh:=hC.jd;have q1:=hC.aR.len;have El:=iU hM.lay;have hw:=Ext.refl w0;clear hC;refine Wz ?_;refine CW.iO 15 17 (fun _=>True) mixed (by kernel_rfl) fun w1 ab aG => ?_
 replace hw:=Ext.trans hw ab;replace hb:=hb.ext ab;replace hS:=hS.ext ab;clear ab;refine SF.take 0 [] [] aG rfl (by kernel_rfl) (by kernel_rfl) (by kernel_rfl) ?_;repeat (refine SW.pure rfl rfl ?_)
 refine SW.ah ?_;refine SF.take 1 [] [] aG rfl (by kernel_rfl) (by kernel_rfl) (by kernel_rfl) ?_;repeat ((show SW _ _ _ _ (⟨_,Op.nilCheck _,_,_,_,none⟩::_) _ _;refine SW.st (aI rfl) rfl ?_))
 refine SW.ah ?_;refine SF.take 2 [] [] aG rfl (by kernel_rfl) (by kernel_rfl) (by kernel_rfl) ?_;repeat ((show SW _ _ _ _ (⟨_,Op.fieldAddr _ _ _,_,_,_,none⟩::_) _ _;refine SW.st (aC rfl) rfl ?_))
 refine SW.ah ?_;refine SF.take 3 [] [] aG rfl (by kernel_rfl) (by kernel_rfl) (by kernel_rfl) ?_;repeat ((show SW _ _ _ _ (⟨_,Op.load _ _,_,_,_,none⟩::_) _ _;refine SW.st (aX rfl rfl ((gR hb))) rfl ?_))
 refine SW.ah ?_;refine SF.take 4 [] [] aG rfl (by kernel_rfl) (by kernel_rfl) (by kernel_rfl) ?_;repeat (refine SW.pure rfl rfl ?_)
 refine SW.ah ?_;refine SF.take 5 [] [] aG rfl (by kernel_rfl) (by kernel_rfl) (by kernel_rfl) ?_;repeat (refine SW.pure rfl rfl ?_)
 refine SW.ah ?_;refine SF.take 6 [] [] aG rfl (by kernel_rfl) (by kernel_rfl) (by kernel_rfl) ?_;repeat ((show SW _ _ _ _ (⟨_,Op.nilCheck _,_,_,_,none⟩::_) _ _;refine SW.st (aI rfl) rfl ?_))
 refine SW.ah ?_;refine SF.take 7 [] [] aG rfl (by kernel_rfl) (by kernel_rfl) (by kernel_rfl) ?_;repeat ((show SW _ _ _ _ (⟨_,Op.fieldAddr _ _ _,_,_,_,none⟩::_) _ _;refine SW.st (aC rfl) rfl ?_))
 refine SW.ah ?_;refine SF.take 8 [] [] aG rfl (by kernel_rfl) (by kernel_rfl) (by kernel_rfl) ?_;repeat ((show SW _ _ _ _ (⟨_,Op.load _ _,_,_,_,none⟩::_) _ _;refine SW.st (ak rfl (hS.row.sl.dv cf (j:=3) (u := .int .i64 cs[i].Order) rfl)) rfl ?_))
 refine SW.ah ?_;refine SF.two 9 14 rfl rfl (by kernel_rfl) rfl rfl ?_ ?_
 ·refine SW.call rfl rfl (uU r.Heap s.Heap (cpu:Int) cs[i].Order 0 _ hS.heap.rd h1.small h1.uC (ti.ext hw)) fun v w4 aj hv => ?_
  obtain ⟨u,hu,H,rfl,hH⟩:=hv;replace hH:=hH.low hw.size;obtain ⟨e,he⟩ : ∃ e,u.2.2=e:=⟨_,rfl⟩;obtain ⟨at',ie⟩ : ∃ a,u.2.1=a:=⟨_,rfl⟩;rw [he,ie];(replace hw:=Ext.trans hw aj;replace hb:=hb.ext aj;replace hS:=hS.ext aj);try replace bk:=bk.ext aj
  refine SW.nil (ae.sf aj ?_);refine SF.take 10 [] [] aG rfl (by kernel_rfl) (by kernel_rfl) (by kernel_rfl) ?_;repeat (refine SW.pure rfl rfl ?_)
  refine SW.ah ?_;refine SF.take 11 [] [] aG rfl (by kernel_rfl) (by kernel_rfl) (by kernel_rfl) ?_;repeat (refine SW.pure rfl rfl ?_)
  refine SW.ah ?_;refine SF.dG 12 [] aG rfl (by kernel_rfl) (by kernel_rfl) (by kernel_rfl) (bc rfl) (fun w2 hS=>bc rfl) rfl ?_;refine SF.dG 13 [] aG rfl (by kernel_rfl) (by kernel_rfl) (by kernel_rfl) (bc rfl) (fun w2 hS=>bc rfl) rfl ?_;refine SF.one 14 rfl (by kernel_rfl) rfl ?_;refine SW.alloc rfl fun b9 w4 aj oa bk => ?_
  have qV:w0.heap.size≤b9:=Nat.le_trans hw.size oa
  try replace hH:=hH.ext aj
  (replace hw:=Ext.trans hw aj;replace hb:=hb.ext aj;replace hS:=hS.ext aj);refine SW.nil (ae.sf aj ?_);refine SF.turn rfl (by kernel_rfl) rfl ?_;refine SW.ap bk rfl rfl rfl rfl (cQ H) fun w5 gg hg => ?_
  have hG:=bk.gr hg;replace hw:=hw.own qV hg;(replace hb:=hb.ay hG rfl;replace hH:=hH.ay hG rfl;replace hS:=hS.ay hG rfl);replace bk:=gg;clear gg hg hG;have II:=hS;have hS:True:=trivial
  refine SW.nil (ae.sg hS ?_);refine SG.one 16 rfl (by kernel_rfl) rfl ?_;repeat (refine SW.pure rfl rfl ?_)
  refine SW.nil (ae.sg hS ?_);refine SG.last rfl (by kernel_rfl) (by kernel_rfl) ?_;replace hS:=II;clear II;rw [qW] at hu;by_cases EJ:e=0
  ·subst EJ;have ur:=hu.at_ he;rw [ie] at ur;refine Wz ?_;all_goals try omega
   by_cases hc:gh s.Words.length (16*at') s.aa[i].bf s.aa[i].ck
   ·refine CW.any 19 mixed (cl (by kernel_rfl)) rfl fun w1 ab aG => ?_
    replace hw:=Ext.trans hw ab;replace hb:=hb.ext ab;replace bk:=bk.ext ab;replace hH:=hH.ext ab;replace hS:=hS.ext ab;clear ab;refine SA.take 0 aG rfl (by kernel_rfl) (by kernel_rfl) rfl ?_;repeat (refine SW.pure rfl rfl ?_)
    refine SW.ah ?_;refine SA.take 1 aG rfl (by kernel_rfl) (by kernel_rfl) rfl ?_;repeat ((show SW _ _ _ _ (⟨_,Op.nilCheck _,_,_,_,none⟩::_) _ _;refine SW.st (aI rfl) rfl ?_))
    refine SW.ah ?_;refine SA.take 2 aG rfl (by kernel_rfl) (by kernel_rfl) rfl ?_;repeat ((show SW _ _ _ _ (⟨_,Op.fieldAddr _ _ _,_,_,_,none⟩::_) _ _;refine SW.st (aC rfl) rfl ?_))
    refine SW.ah ?_;refine SA.take 3 aG rfl (by kernel_rfl) (by kernel_rfl) rfl ?_;repeat ((show SW _ _ _ _ (⟨_,Op.load _ _,_,_,_,none⟩::_) _ _;refine SW.st (ak rfl (hb.cell (i:=0) (v := .slice r.Words.A r.Words.n r.Words.c) rfl)) rfl ?_))
    refine SW.ah ?_;refine SA.take 4 aG rfl (by kernel_rfl) (by kernel_rfl) rfl ?_;repeat (refine SW.pure rfl rfl ?_)
    refine SW.ah ?_;refine SA.take 5 aG rfl (by kernel_rfl) (by kernel_rfl) rfl ?_;repeat ((show SW _ _ _ _ (⟨_,Op.binOp _ _ _ _ _,_,_,_,none⟩::_) _ _;refine SW.st (iN rfl rfl (by omega) (by omega)) rfl ?_))
    refine SW.ah ?_;refine SA.take 6 aG rfl (by kernel_rfl) (by kernel_rfl) rfl ?_;repeat (refine SW.pure rfl rfl ?_)
    refine SW.ah ?_;refine SA.take 7 aG rfl (by kernel_rfl) (by kernel_rfl) rfl ?_;repeat ((show SW _ _ _ _ (⟨_,Op.nilCheck _,_,_,_,none⟩::_) _ _;refine SW.st (aI rfl) rfl ?_))
    refine SW.ah ?_;refine SA.take 8 aG rfl (by kernel_rfl) (by kernel_rfl) rfl ?_;repeat ((show SW _ _ _ _ (⟨_,Op.fieldAddr _ _ _,_,_,_,none⟩::_) _ _;refine SW.st (aC rfl) rfl ?_))
    refine SW.ah ?_;refine SA.take 9 aG rfl (by kernel_rfl) (by kernel_rfl) rfl ?_;repeat ((show SW _ _ _ _ (⟨_,Op.load _ _,_,_,_,none⟩::_) _ _;refine SW.st (ak rfl (hS.row.sl.dv cf (j:=1) (u := .int .i64 cs[i].bf) rfl)) rfl ?_))
    refine SW.ah ?_;refine SA.take 10 aG rfl (by kernel_rfl) (by kernel_rfl) rfl ?_;repeat (refine SW.pure rfl rfl ?_)
    refine SW.ah ?_;refine SA.take 11 aG rfl (by kernel_rfl) (by kernel_rfl) rfl ?_;repeat ((show SW _ _ _ _ (⟨_,Op.nilCheck _,_,_,_,none⟩::_) _ _;refine SW.st (aI rfl) rfl ?_))
    refine SW.ah ?_;refine SA.take 12 aG rfl (by kernel_rfl) (by kernel_rfl) rfl ?_;repeat ((show SW _ _ _ _ (⟨_,Op.fieldAddr _ _ _,_,_,_,none⟩::_) _ _;refine SW.st (aC rfl) rfl ?_))
    refine SW.ah ?_;refine SA.take 13 aG rfl (by kernel_rfl) (by kernel_rfl) rfl ?_;repeat ((show SW _ _ _ _ (⟨_,Op.load _ _,_,_,_,none⟩::_) _ _;refine SW.st (ak rfl (hS.row.sl.dv cf (j:=2) (u := .int .i64 cs[i].ck) rfl)) rfl ?_))
    refine SW.ah ?_;refine SA.one 14 rfl (by kernel_rfl) rfl ?_;refine SW.call rfl rfl (nw r.Words.A r.Words.n r.Words.c s.Words (at'*16) cs[i].bf cs[i].ck _ hS.words.sl (by omega)) fun v w6 aj hv => ?_
    have j4:=hc;unfold gh at j4;rw [gU,show at'*16=16*at' by omega,uV,rh,if_pos (by rw [GH] at j4;exact j4)] at hv;obtain ⟨XA,Xc,rfl,hX⟩:=hv;replace hX:=hX.low hw.size;(replace hw:=Ext.trans hw aj;replace hb:=hb.ext aj;replace bk:=bk.ext aj;replace hH:=hH.ext aj;replace hS:=hS.ext aj);refine SW.nil (ae.sa aj ?_);refine SA.take 15 aG rfl (by kernel_rfl) (by kernel_rfl) rfl ?_;repeat (refine SW.pure rfl rfl ?_)
    refine SW.ah ?_;refine SA.take 16 aG rfl (by kernel_rfl) (by kernel_rfl) rfl ?_;repeat (refine SW.pure rfl rfl ?_)
    refine SW.ah ?_;refine SA.take 17 aG rfl (by kernel_rfl) (by kernel_rfl) rfl ?_;repeat (refine SW.pure rfl rfl ?_)
    refine SW.ah ?_;refine SA.take 18 aG rfl (by kernel_rfl) (by kernel_rfl) rfl ?_;repeat (refine SW.pure rfl rfl ?_)
    refine SW.ah ?_;refine SA.done (by kernel_rfl) ?_;refine Wz ?_;refine SW.qk 1 hb rfl rfl rfl (Nat.le_of_ble_eq_true rfl) (cQ H) (aU ⟨r.Words,H,r.aa⟩) rfl fun w7 jE hg => ?_
    have hG:=hb.gr hg;have qJ:∀ j x,j≠b→aJ w0 j 30 x→aJ w7 j 30 x:=fun j x hj h=>(h.ext hw).grown hg (by simpa using hj)
    have tP:∀ j x,aJ w0 j 89 x→aJ w7 j 89 x:=fun j x h=>(h.ext hw).ay hG rfl
    have qO:∀ j x,aJ w0 j 3 x→aJ w7 j 3 x:=fun j x h=>(h.ext hw).ay hG rfl
    replace hx:=(hx.trans hw).own EG hg;(replace hH:=hH.ay hG rfl;replace hX:=hX.ay hG rfl;replace hS:=hS.ay hG rfl);refine Wz ?_;refine SW.bB (i:=0) jE rfl rfl rfl rfl fun w8 Dd hg => ?_
    have hG:=jE.gr hg;replace qJ:∀ j x,j≠b→aJ w0 j 30 x→aJ w8 j 30 x:=fun j x hj h=>(qJ j x hj h).grown hg (by simpa using hj)
    replace tP:∀ j x,aJ w0 j 89 x→aJ w8 j 89 x:=fun j x h=>(tP j x h).ay hG rfl
    replace qO:∀ j x,aJ w0 j 3 x→aJ w8 j 3 x:=fun j x h=>(qO j x h).ay hG rfl
    replace hx:=hx.own EG hg;(replace hH:=hH.ay hG rfl;replace hX:=hX.ay hG rfl;replace hS:=hS.ay hG rfl);replace hb:aJ w8 b 30 (aU ⟨⟨XA,r.Words.n,Xc⟩,H,r.aa⟩):=Dd;rw [← e0] at hS;obtain ⟨jo,jL⟩:=nH.fresh (p:=(s.Heap,s.aa[i])) (X:=⟨XA,r.Words.n,Xc⟩) (H:=H) (h':=u.1) (m:=w0.heap.size) hS fC EI EH hX hH;clear hS hX hH hw hG hg jE Dd bk;have hw:=Ext.refl w8;refine Wz ?_
    refine CW.loop (fun k:Nat=>[(8,.pointer (some ((r.aa.A.getD default).add (i*6)))),(10,.int .i64 at'),(13,.int .i64 (k:Int))])
     (fun k w'=>w'=w8∧k≤cs[i].ai.n ∧ ∀ (j:Nat) (hj:j<s.aa[i].ai.length),j<k→s.aa[i].ai[j].At<at') (fun k=>cs[i].ai.n-k) 0
     ⟨rfl,rfl,rfl,trivial⟩ ⟨rfl,Nat.zero_le _,fun j hj h=>by omega⟩ ?_
    rintro k w' ⟨Iv,hk,c9⟩
    subst Iv;have ox:=jo.get jA hi;simp only at ox;have Jv:=ox.aR.sl.base;by_cases bY:k<cs[i].ai.n
    ·have de:k<s.aa[i].ai.length:=by omega
     obtain ⟨y,hy⟩ : ∃ y,s.aa[i].ai[k]=y:=⟨_,rfl⟩;have gA:=ox.aR.sl.dv bY (j:=0) (show (aZ (s.aa[i].ai[k]'(by omega)))[0]?=some (Value.int .i64 y.At) by rw [hy];rfl);by_cases Fq:y.At<at'
     ·repeat' (first|refine Wz ?_|refine SW.st (ak rfl (jo.row.sl.dv cf (j:=4) (u := .slice cs[i].ai.A cs[i].ai.n cs[i].ai.c) rfl)) rfl ?_|refine SW.st (ak rfl gA) rfl ?_)
      all_goals try omega
      exact ae.again (k+1) ⟨rfl,rfl,rfl,trivial⟩ (by omega) ⟨rfl,by omega,fun j hj h=>by
       by_cases e:j=k
       ·subst e;rw [hy];exact Fq
       ·exact c9 j hj (by omega)⟩
     ·have ue:lC s.aa[i] at'=k:=ny (by omega) c9 (fun h=>by rw [hy];exact Fq)
      repeat' (first|refine Wz ?_|refine SW.st (ak rfl (jo.row.sl.dv cf (j:=4) (u := .slice cs[i].ai.A cs[i].ai.n cs[i].ai.c) rfl)) rfl ?_|refine SW.st (ak rfl gA) rfl ?_)
      all_goals try omega
      refine CW.iO 15 18 (fun _=>True) mixed (by kernel_rfl) fun w1 ab aG => ?_
      replace hw:=Ext.trans hw ab;replace hb:=hb.ext ab;replace jo:=jo.ext ab;replace jL:=jL.ext ab;clear ab;refine SF.dG 0 [] aG rfl (by kernel_rfl) (by kernel_rfl) (by kernel_rfl) (bc rfl) (fun w2 hS=>bc rfl) rfl ?_;refine SF.take 1 [4,3,2] [] aG rfl (by kernel_rfl) (by kernel_rfl) (by kernel_rfl) ?_;repeat (refine SW.pure rfl rfl ?_)
      refine SW.ah ?_;refine SF.take 2 [4,3] [] aG rfl (by kernel_rfl) (by kernel_rfl) (by kernel_rfl) ?_;repeat ((show SW _ _ _ _ (⟨_,Op.nilCheck _,_,_,_,none⟩::_) _ _;refine SW.st (aI rfl) rfl ?_))
      refine SW.ah ?_;refine SF.take 3 [4] [] aG rfl (by kernel_rfl) (by kernel_rfl) (by kernel_rfl) ?_;repeat ((show SW _ _ _ _ (⟨_,Op.fieldAddr _ _ _,_,_,_,none⟩::_) _ _;refine SW.st (aC rfl) rfl ?_))
      refine SW.ah ?_;refine SF.take 4 [] [] aG rfl (by kernel_rfl) (by kernel_rfl) (by kernel_rfl) ?_;repeat ((show SW _ _ _ _ (⟨_,Op.load _ _,_,_,_,none⟩::_) _ _;refine SW.st (ak rfl (jo.row.sl.dv cf (j:=4) (u := .slice cs[i].ai.A cs[i].ai.n cs[i].ai.c) rfl)) rfl ?_))
      refine SW.ah ?_;refine SF.take 5 [] [] aG rfl (by kernel_rfl) (by kernel_rfl) (by kernel_rfl) ?_;repeat (refine SW.pure rfl rfl ?_)
      refine SW.ah ?_;refine SF.take 6 [14,13] [] aG rfl (by kernel_rfl) (by kernel_rfl) (by kernel_rfl) ?_;repeat (refine SW.pure rfl rfl ?_)
      refine SW.ah ?_;refine SF.take 7 [14,13,10,9,8] [] aG rfl (by kernel_rfl) (by kernel_rfl) (by kernel_rfl) ?_;repeat (refine SW.pure rfl rfl ?_)
      refine SW.ah ?_;refine SF.take 8 [14,13,10,9] [] aG rfl (by kernel_rfl) (by kernel_rfl) (by kernel_rfl) ?_;repeat ((show SW _ _ _ _ (⟨_,Op.nilCheck _,_,_,_,none⟩::_) _ _;refine SW.st (aI rfl) rfl ?_))
      refine SW.ah ?_;refine SF.take 9 [14,13,10] [] aG rfl (by kernel_rfl) (by kernel_rfl) (by kernel_rfl) ?_;repeat ((show SW _ _ _ _ (⟨_,Op.fieldAddr _ _ _,_,_,_,none⟩::_) _ _;refine SW.st (aC rfl) rfl ?_))
      refine SW.ah ?_;refine SF.take 10 [14,13] [] aG rfl (by kernel_rfl) (by kernel_rfl) (by kernel_rfl) ?_;repeat ((show SW _ _ _ _ (⟨_,Op.load _ _,_,_,_,none⟩::_) _ _;refine SW.st (ak rfl (jo.row.sl.dv cf (j:=2) (u := .int .i64 cs[i].ck) rfl)) rfl ?_))
      refine SW.ah ?_;refine SF.take 11 [14,13,12] [] aG rfl (by kernel_rfl) (by kernel_rfl) (by kernel_rfl) ?_;repeat (refine SW.pure rfl rfl ?_)
      refine SW.ah ?_;refine SF.take 12 [14,13] [] aG rfl (by kernel_rfl) (by kernel_rfl) (by kernel_rfl) ?_;repeat ((show SW _ _ _ _ (⟨_,Op.binOp _ _ _ _ _,_,_,_,none⟩::_) _ _;refine SW.st (iN rfl rfl (by omega) (by omega)) rfl ?_))
      refine SW.ah ?_;refine SF.take 13 [14] [] aG rfl (by kernel_rfl) (by kernel_rfl) (by kernel_rfl) ?_;repeat ((show SW _ _ _ _ (⟨_,Op.build _ _,_,_,_,none⟩::_) _ _;refine SW.st (fQ rfl rfl) rfl ?_))
      refine SW.ah ?_;refine SF.one 14 rfl (by kernel_rfl) rfl ?_;refine SW.bJ rfl rfl rfl rfl rfl fun bn w9 aj IJ De => ?_
      have mS:aT cs[i].ai.A cs[i].ai.c≠some bn:=fun e=>absurd ((jo.get jA hi).aR.lt_size _ e) (by omega)
      (replace hw:=Ext.trans hw aj;replace hb:=hb.ext aj;replace jo:=jo.ext aj;replace jL:=jL.ext aj);refine SW.nil (ae.sf aj ?_);refine SF.turn rfl (by kernel_rfl) rfl ?_;have ox:=jo.get jA hi;simp only at ox;refine SW.cV rfl rfl (iF _ _ _ wb.heap.size s.aa[i].ai _ ox.aR k (by omega) ⟨at',cs[i].ck,at'*16⟩ bn De mS (by omega) (Nat.le_trans hx.size hw.size)) fun v mw hv => ?_
      obtain ⟨A2,c2,rfl,gx,hg,GI⟩:=hv;have hG:=ox.aR.gr hg;have Df:=jo.nu jA hi gx hg GI;have y7:=aE (hx.trans hw) hg (Nat.le_refl _) ox.aR.aM;have y8:∀ j x,j≠b→aJ w0 j 30 x→aJ mw j 30 x:=fun j x hj h=>((qJ j x hj h).ext hw).ay hG rfl
      have y9:∀ j x,aJ w0 j 89 x→aJ mw j 89 x:=fun j x h=>((tP j x h).ext hw).ay hG rfl
      have za:∀ j x,aJ w0 j 3 x→aJ mw j 3 x:=fun j x h=>((qO j x h).ext hw).ay hG rfl
      (replace hb:=hb.ay hG rfl;replace jL:=jL.ay hG rfl);have hS:True:=trivial
      refine SW.nil (ae.sg hS ?_);refine SG.one 16 rfl (by kernel_rfl) rfl ?_;repeat ((show SW _ _ _ _ (⟨_,Op.nilCheck _,_,_,_,none⟩::_) _ _;refine SW.st (aI rfl) rfl ?_))
      refine SW.nil (ae.sg hS ?_);refine SG.one 17 rfl (by kernel_rfl) rfl ?_;repeat ((show SW _ _ _ _ (⟨_,Op.fieldAddr _ _ _,_,_,_,none⟩::_) _ _;refine SW.st (aC rfl) rfl ?_))
      refine SW.nil (ae.sg hS ?_);refine SG.last rfl (by kernel_rfl) (by kernel_rfl) ?_;have dt:=Df.row;refine SW.gH i 4 ⟨cs[i].Names,cs[i].bf,cs[i].ck,cs[i].Order,⟨A2,cs[i].ai.n+1,c2⟩,cs[i].au⟩ dt rfl rfl rfl cf (by decide) rfl rfl fun rf fJ oy => ?_
      have ki:=dt.gr oy;have GJ:=Df.p9 fJ oy;replace y7:=aE y7 oy (Nat.le_refl _) dt.aM;(replace hb:=hb.ay ki rfl;replace jL:=jL.ay ki rfl)
      have Dg:=jL.rows (s':=cm (iE s (iX s.Words (16*at') s.aa[i].bf s.aa[i].ck)) i (u.1,eG s.aa[i] at')) (cs':=cs.set i ⟨cs[i].Names,cs[i].bf,cs[i].ck,cs[i].Order,⟨A2,cs[i].ai.n+1,c2⟩,cs[i].au⟩) rfl (fun u hu=>by
       rcases List.mem_or_eq_of_mem_set hu with hu|rfl
       ·exact ⟨u,hu,rfl⟩
       ·exact ⟨cs[i],List.getElem_mem jA,rfl⟩)
      have pA:eG s.aa[i] at'=⟨s.aa[i].Names,s.aa[i].bf,s.aa[i].ck,s.aa[i].Order,aV s.aa[i].ai k ⟨at',cs[i].ck,at'*16⟩,s.aa[i].au⟩:=by
       unfold eG;rw [ue,rh,show at'*16=16*at' by omega]
      refine Wz ?_;refine ae.cu rfl rfl rfl ⟨_,rfl,u,hu,.inr (.inr ⟨he,by rw [ie];exact hc,by rw [ie,ue],y7,fun j x hj h=>(y8 j x hj h).ay ki rfl,fun j x h=>(y9 j x h).ay ki rfl,fun j x h=>(za j x h).ay ki rfl,⟨XA,r.Words.n,Xc⟩,H,_,hb,?_,by rw [ie];exact Dg⟩)⟩;rw [ie,pA];exact GJ
    ·have vV:k=cs[i].ai.n:=by omega
     have ue:lC s.aa[i] at'=k:=ny (by omega) (fun j hj h=>c9 j hj (by omega)) (fun h=>by omega)
     repeat' (first|refine Wz ?_|refine SW.st (ak rfl (jo.row.sl.dv cf (j:=4) (u := .slice cs[i].ai.A cs[i].ai.n cs[i].ai.c) rfl)) rfl ?_)
     all_goals try omega
     refine CW.iO 15 18 (fun _=>True) mixed (by kernel_rfl) fun w1 ab aG => ?_
     replace hw:=Ext.trans hw ab;replace hb:=hb.ext ab;replace jo:=jo.ext ab;replace jL:=jL.ext ab;clear ab;refine SF.dG 0 [] aG rfl (by kernel_rfl) (by kernel_rfl) (by kernel_rfl) (bc rfl) (fun w2 hS=>bc rfl) rfl ?_;refine SF.take 1 [4,3,2] [] aG rfl (by kernel_rfl) (by kernel_rfl) (by kernel_rfl) ?_;repeat (refine SW.pure rfl rfl ?_)
     refine SW.ah ?_;refine SF.take 2 [4,3] [] aG rfl (by kernel_rfl) (by kernel_rfl) (by kernel_rfl) ?_;repeat ((show SW _ _ _ _ (⟨_,Op.nilCheck _,_,_,_,none⟩::_) _ _;refine SW.st (aI rfl) rfl ?_))
     refine SW.ah ?_;refine SF.take 3 [4] [] aG rfl (by kernel_rfl) (by kernel_rfl) (by kernel_rfl) ?_;repeat ((show SW _ _ _ _ (⟨_,Op.fieldAddr _ _ _,_,_,_,none⟩::_) _ _;refine SW.st (aC rfl) rfl ?_))
     refine SW.ah ?_;refine SF.take 4 [] [] aG rfl (by kernel_rfl) (by kernel_rfl) (by kernel_rfl) ?_;repeat ((show SW _ _ _ _ (⟨_,Op.load _ _,_,_,_,none⟩::_) _ _;refine SW.st (ak rfl (jo.row.sl.dv cf (j:=4) (u := .slice cs[i].ai.A cs[i].ai.n cs[i].ai.c) rfl)) rfl ?_))
     refine SW.ah ?_;refine SF.take 5 [] [] aG rfl (by kernel_rfl) (by kernel_rfl) (by kernel_rfl) ?_;repeat (refine SW.pure rfl rfl ?_)
     refine SW.ah ?_;refine SF.take 6 [14,13] [] aG rfl (by kernel_rfl) (by kernel_rfl) (by kernel_rfl) ?_;repeat (refine SW.pure rfl rfl ?_)
     refine SW.ah ?_;refine SF.take 7 [14,13,10,9,8] [] aG rfl (by kernel_rfl) (by kernel_rfl) (by kernel_rfl) ?_;repeat (refine SW.pure rfl rfl ?_)
     refine SW.ah ?_;refine SF.take 8 [14,13,10,9] [] aG rfl (by kernel_rfl) (by kernel_rfl) (by kernel_rfl) ?_;repeat ((show SW _ _ _ _ (⟨_,Op.nilCheck _,_,_,_,none⟩::_) _ _;refine SW.st (aI rfl) rfl ?_))
     refine SW.ah ?_;refine SF.take 9 [14,13,10] [] aG rfl (by kernel_rfl) (by kernel_rfl) (by kernel_rfl) ?_;repeat ((show SW _ _ _ _ (⟨_,Op.fieldAddr _ _ _,_,_,_,none⟩::_) _ _;refine SW.st (aC rfl) rfl ?_))
     refine SW.ah ?_;refine SF.take 10 [14,13] [] aG rfl (by kernel_rfl) (by kernel_rfl) (by kernel_rfl) ?_;repeat ((show SW _ _ _ _ (⟨_,Op.load _ _,_,_,_,none⟩::_) _ _;refine SW.st (ak rfl (jo.row.sl.dv cf (j:=2) (u := .int .i64 cs[i].ck) rfl)) rfl ?_))
     refine SW.ah ?_;refine SF.take 11 [14,13,12] [] aG rfl (by kernel_rfl) (by kernel_rfl) (by kernel_rfl) ?_;repeat (refine SW.pure rfl rfl ?_)
     refine SW.ah ?_;refine SF.take 12 [14,13] [] aG rfl (by kernel_rfl) (by kernel_rfl) (by kernel_rfl) ?_;repeat ((show SW _ _ _ _ (⟨_,Op.binOp _ _ _ _ _,_,_,_,none⟩::_) _ _;refine SW.st (iN rfl rfl (by omega) (by omega)) rfl ?_))
     refine SW.ah ?_;refine SF.take 13 [14] [] aG rfl (by kernel_rfl) (by kernel_rfl) (by kernel_rfl) ?_;repeat ((show SW _ _ _ _ (⟨_,Op.build _ _,_,_,_,none⟩::_) _ _;refine SW.st (fQ rfl rfl) rfl ?_))
     refine SW.ah ?_;refine SF.one 14 rfl (by kernel_rfl) rfl ?_;refine SW.bJ rfl rfl rfl rfl rfl fun bn w9 aj IJ De => ?_
     have mS:aT cs[i].ai.A cs[i].ai.c≠some bn:=fun e=>absurd ((jo.get jA hi).aR.lt_size _ e) (by omega)
     (replace hw:=Ext.trans hw aj;replace hb:=hb.ext aj;replace jo:=jo.ext aj;replace jL:=jL.ext aj);refine SW.nil (ae.sf aj ?_);refine SF.turn rfl (by kernel_rfl) rfl ?_;have ox:=jo.get jA hi;simp only at ox;refine SW.cV rfl rfl (iF _ _ _ wb.heap.size s.aa[i].ai _ ox.aR k (by omega) ⟨at',cs[i].ck,at'*16⟩ bn De mS (by omega) (Nat.le_trans hx.size hw.size)) fun v mw hv => ?_
     obtain ⟨A2,c2,rfl,gx,hg,GI⟩:=hv;have hG:=ox.aR.gr hg;have Df:=jo.nu jA hi gx hg GI;have y7:=aE (hx.trans hw) hg (Nat.le_refl _) ox.aR.aM;have y8:∀ j x,j≠b→aJ w0 j 30 x→aJ mw j 30 x:=fun j x hj h=>((qJ j x hj h).ext hw).ay hG rfl
     have y9:∀ j x,aJ w0 j 89 x→aJ mw j 89 x:=fun j x h=>((tP j x h).ext hw).ay hG rfl
     have za:∀ j x,aJ w0 j 3 x→aJ mw j 3 x:=fun j x h=>((qO j x h).ext hw).ay hG rfl
     (replace hb:=hb.ay hG rfl;replace jL:=jL.ay hG rfl);have hS:True:=trivial
     refine SW.nil (ae.sg hS ?_);refine SG.one 16 rfl (by kernel_rfl) rfl ?_;repeat ((show SW _ _ _ _ (⟨_,Op.nilCheck _,_,_,_,none⟩::_) _ _;refine SW.st (aI rfl) rfl ?_))
     refine SW.nil (ae.sg hS ?_);refine SG.one 17 rfl (by kernel_rfl) rfl ?_;repeat ((show SW _ _ _ _ (⟨_,Op.fieldAddr _ _ _,_,_,_,none⟩::_) _ _;refine SW.st (aC rfl) rfl ?_))
     refine SW.nil (ae.sg hS ?_);refine SG.last rfl (by kernel_rfl) (by kernel_rfl) ?_;have dt:=Df.row;refine SW.gH i 4 ⟨cs[i].Names,cs[i].bf,cs[i].ck,cs[i].Order,⟨A2,cs[i].ai.n+1,c2⟩,cs[i].au⟩ dt rfl rfl rfl cf (by decide) rfl rfl fun rf fJ oy => ?_
     have ki:=dt.gr oy;have GJ:=Df.p9 fJ oy;replace y7:=aE y7 oy (Nat.le_refl _) dt.aM;(replace hb:=hb.ay ki rfl;replace jL:=jL.ay ki rfl)
     have Dg:=jL.rows (s':=cm (iE s (iX s.Words (16*at') s.aa[i].bf s.aa[i].ck)) i (u.1,eG s.aa[i] at')) (cs':=cs.set i ⟨cs[i].Names,cs[i].bf,cs[i].ck,cs[i].Order,⟨A2,cs[i].ai.n+1,c2⟩,cs[i].au⟩) rfl (fun u hu=>by
      rcases List.mem_or_eq_of_mem_set hu with hu|rfl
      ·exact ⟨u,hu,rfl⟩
      ·exact ⟨cs[i],List.getElem_mem jA,rfl⟩)
     have pA:eG s.aa[i] at'=⟨s.aa[i].Names,s.aa[i].bf,s.aa[i].ck,s.aa[i].Order,aV s.aa[i].ai k ⟨at',cs[i].ck,at'*16⟩,s.aa[i].au⟩:=by
      unfold eG;rw [ue,rh,show at'*16=16*at' by omega]
     refine Wz ?_;refine ae.cu rfl rfl rfl ⟨_,rfl,u,hu,.inr (.inr ⟨he,by rw [ie];exact hc,by rw [ie,ue],y7,fun j x hj h=>(y8 j x hj h).ay ki rfl,fun j x h=>(y9 j x h).ay ki rfl,fun j x h=>(za j x h).ay ki rfl,⟨XA,r.Words.n,Xc⟩,H,_,hb,?_,by rw [ie];exact Dg⟩)⟩;rw [ie,pA];exact GJ
   ·refine CW.any 19 mixed (cl (by kernel_rfl)) rfl fun w1 ab aG => ?_
    replace hw:=Ext.trans hw ab;replace hb:=hb.ext ab;replace bk:=bk.ext ab;replace hH:=hH.ext ab;replace hS:=hS.ext ab;clear ab;refine SA.take 0 aG rfl (by kernel_rfl) (by kernel_rfl) rfl ?_;repeat (refine SW.pure rfl rfl ?_)
    refine SW.ah ?_;refine SA.take 1 aG rfl (by kernel_rfl) (by kernel_rfl) rfl ?_;repeat ((show SW _ _ _ _ (⟨_,Op.nilCheck _,_,_,_,none⟩::_) _ _;refine SW.st (aI rfl) rfl ?_))
    refine SW.ah ?_;refine SA.take 2 aG rfl (by kernel_rfl) (by kernel_rfl) rfl ?_;repeat ((show SW _ _ _ _ (⟨_,Op.fieldAddr _ _ _,_,_,_,none⟩::_) _ _;refine SW.st (aC rfl) rfl ?_))
    refine SW.ah ?_;refine SA.take 3 aG rfl (by kernel_rfl) (by kernel_rfl) rfl ?_;repeat ((show SW _ _ _ _ (⟨_,Op.load _ _,_,_,_,none⟩::_) _ _;refine SW.st (ak rfl (hb.cell (i:=0) (v := .slice r.Words.A r.Words.n r.Words.c) rfl)) rfl ?_))
    refine SW.ah ?_;refine SA.take 4 aG rfl (by kernel_rfl) (by kernel_rfl) rfl ?_;repeat (refine SW.pure rfl rfl ?_)
    refine SW.ah ?_;refine SA.take 5 aG rfl (by kernel_rfl) (by kernel_rfl) rfl ?_;repeat ((show SW _ _ _ _ (⟨_,Op.binOp _ _ _ _ _,_,_,_,none⟩::_) _ _;refine SW.st (iN rfl rfl (by omega) (by omega)) rfl ?_))
    refine SW.ah ?_;refine SA.take 6 aG rfl (by kernel_rfl) (by kernel_rfl) rfl ?_;repeat (refine SW.pure rfl rfl ?_)
    refine SW.ah ?_;refine SA.take 7 aG rfl (by kernel_rfl) (by kernel_rfl) rfl ?_;repeat ((show SW _ _ _ _ (⟨_,Op.nilCheck _,_,_,_,none⟩::_) _ _;refine SW.st (aI rfl) rfl ?_))
    refine SW.ah ?_;refine SA.take 8 aG rfl (by kernel_rfl) (by kernel_rfl) rfl ?_;repeat ((show SW _ _ _ _ (⟨_,Op.fieldAddr _ _ _,_,_,_,none⟩::_) _ _;refine SW.st (aC rfl) rfl ?_))
    refine SW.ah ?_;refine SA.take 9 aG rfl (by kernel_rfl) (by kernel_rfl) rfl ?_;repeat ((show SW _ _ _ _ (⟨_,Op.load _ _,_,_,_,none⟩::_) _ _;refine SW.st (ak rfl (hS.row.sl.dv cf (j:=1) (u := .int .i64 cs[i].bf) rfl)) rfl ?_))
    refine SW.ah ?_;refine SA.take 10 aG rfl (by kernel_rfl) (by kernel_rfl) rfl ?_;repeat (refine SW.pure rfl rfl ?_)
    refine SW.ah ?_;refine SA.take 11 aG rfl (by kernel_rfl) (by kernel_rfl) rfl ?_;repeat ((show SW _ _ _ _ (⟨_,Op.nilCheck _,_,_,_,none⟩::_) _ _;refine SW.st (aI rfl) rfl ?_))
    refine SW.ah ?_;refine SA.take 12 aG rfl (by kernel_rfl) (by kernel_rfl) rfl ?_;repeat ((show SW _ _ _ _ (⟨_,Op.fieldAddr _ _ _,_,_,_,none⟩::_) _ _;refine SW.st (aC rfl) rfl ?_))
    refine SW.ah ?_;refine SA.take 13 aG rfl (by kernel_rfl) (by kernel_rfl) rfl ?_;repeat ((show SW _ _ _ _ (⟨_,Op.load _ _,_,_,_,none⟩::_) _ _;refine SW.st (ak rfl (hS.row.sl.dv cf (j:=2) (u := .int .i64 cs[i].ck) rfl)) rfl ?_))
    refine SW.ah ?_;refine SA.one 14 rfl (by kernel_rfl) rfl ?_;refine SW.call rfl rfl (nw r.Words.A r.Words.n r.Words.c s.Words (at'*16) cs[i].bf cs[i].ck _ hS.words.sl (by omega)) fun v w6 aj hv => ?_
    have j4:=hc;unfold gh at j4;rw [gU,show at'*16=16*at' by omega,uV,rh,if_neg (by rw [GH] at j4;exact j4)] at hv;subst hv;(replace hw:=Ext.trans hw aj;replace hb:=hb.ext aj;replace bk:=bk.ext aj;replace hH:=hH.ext aj;replace hS:=hS.ext aj);refine SW.nil (ae.sa aj ?_);refine SA.take 15 aG rfl (by kernel_rfl) (by kernel_rfl) rfl ?_;repeat (refine SW.pure rfl rfl ?_)
    refine SW.ah ?_;refine SA.take 16 aG rfl (by kernel_rfl) (by kernel_rfl) rfl ?_;repeat (refine SW.pure rfl rfl ?_)
    refine SW.ah ?_;refine SA.take 17 aG rfl (by kernel_rfl) (by kernel_rfl) rfl ?_;repeat (refine SW.pure rfl rfl ?_)
    refine SW.ah ?_;refine SA.take 18 aG rfl (by kernel_rfl) (by kernel_rfl) rfl ?_;repeat (refine SW.pure rfl rfl ?_)
    refine SW.ah ?_;refine SA.done (by kernel_rfl) ?_;refine Wz ?_;exact ae.cu rfl rfl rfl ⟨_,rfl,u,hu,.inr (.inl ⟨he,by rw [ie];exact hc,rfl,hw⟩)⟩
  ·refine Wz ?_;all_goals try omega
   exact ae.cu rfl rfl rfl ⟨_,rfl,u,hu,.inl ⟨by rw [he];exact EJ,by rw [he];rfl,hw⟩⟩
 ·refine SW.alloc rfl fun b9 w4 aj oa bk => ?_
  have qV:w0.heap.size≤b9:=Nat.le_trans hw.size oa
  try replace hH:=hH.ext aj
  (replace hw:=Ext.trans hw aj;replace hb:=hb.ext aj;replace hS:=hS.ext aj);refine SW.nil (ae.sf aj ?_);refine SF.one 9 rfl (by kernel_rfl) rfl ?_;refine SW.call rfl rfl (uU r.Heap s.Heap (cpu:Int) cs[i].Order 0 _ hS.heap.rd h1.small h1.uC (ti.ext hw)) fun v w4 aj hv => ?_
  obtain ⟨u,hu,H,rfl,hH⟩:=hv;replace hH:=hH.low hw.size;obtain ⟨e,he⟩ : ∃ e,u.2.2=e:=⟨_,rfl⟩;obtain ⟨at',ie⟩ : ∃ a,u.2.1=a:=⟨_,rfl⟩;rw [he,ie];(replace hw:=Ext.trans hw aj;replace hb:=hb.ext aj;replace hS:=hS.ext aj);try replace bk:=bk.ext aj
  refine SW.nil (ae.sf aj ?_);refine SF.take 10 [] [] aG rfl (by kernel_rfl) (by kernel_rfl) (by kernel_rfl) ?_;repeat (refine SW.pure rfl rfl ?_)
  refine SW.ah ?_;refine SF.take 11 [] [] aG rfl (by kernel_rfl) (by kernel_rfl) (by kernel_rfl) ?_;repeat (refine SW.pure rfl rfl ?_)
  refine SW.ah ?_;refine SF.dG 12 [] aG rfl (by kernel_rfl) (by kernel_rfl) (by kernel_rfl) (bc rfl) (fun w2 hS=>bc rfl) rfl ?_;refine SF.dG 13 [] aG rfl (by kernel_rfl) (by kernel_rfl) (by kernel_rfl) (bc rfl) (fun w2 hS=>bc rfl) rfl ?_;refine SF.turn rfl (by kernel_rfl) rfl ?_;refine SW.ap bk rfl rfl rfl rfl (cQ H) fun w5 gg hg => ?_
  have hG:=bk.gr hg;replace hw:=hw.own qV hg;(replace hb:=hb.ay hG rfl;replace hH:=hH.ay hG rfl;replace hS:=hS.ay hG rfl);replace bk:=gg;clear gg hg hG;have II:=hS;have hS:True:=trivial
  refine SW.nil (ae.sg hS ?_);refine SG.one 16 rfl (by kernel_rfl) rfl ?_;repeat (refine SW.pure rfl rfl ?_)
  refine SW.nil (ae.sg hS ?_);refine SG.last rfl (by kernel_rfl) (by kernel_rfl) ?_;replace hS:=II;clear II;rw [qW] at hu;by_cases EJ:e=0
  ·subst EJ;have ur:=hu.at_ he;rw [ie] at ur;refine Wz ?_;all_goals try omega
   by_cases hc:gh s.Words.length (16*at') s.aa[i].bf s.aa[i].ck
   ·refine CW.any 19 mixed (cl (by kernel_rfl)) rfl fun w1 ab aG => ?_
    replace hw:=Ext.trans hw ab;replace hb:=hb.ext ab;replace bk:=bk.ext ab;replace hH:=hH.ext ab;replace hS:=hS.ext ab;clear ab;refine SA.take 0 aG rfl (by kernel_rfl) (by kernel_rfl) rfl ?_;repeat (refine SW.pure rfl rfl ?_)
    refine SW.ah ?_;refine SA.take 1 aG rfl (by kernel_rfl) (by kernel_rfl) rfl ?_;repeat ((show SW _ _ _ _ (⟨_,Op.nilCheck _,_,_,_,none⟩::_) _ _;refine SW.st (aI rfl) rfl ?_))
    refine SW.ah ?_;refine SA.take 2 aG rfl (by kernel_rfl) (by kernel_rfl) rfl ?_;repeat ((show SW _ _ _ _ (⟨_,Op.fieldAddr _ _ _,_,_,_,none⟩::_) _ _;refine SW.st (aC rfl) rfl ?_))
    refine SW.ah ?_;refine SA.take 3 aG rfl (by kernel_rfl) (by kernel_rfl) rfl ?_;repeat ((show SW _ _ _ _ (⟨_,Op.load _ _,_,_,_,none⟩::_) _ _;refine SW.st (ak rfl (hb.cell (i:=0) (v := .slice r.Words.A r.Words.n r.Words.c) rfl)) rfl ?_))
    refine SW.ah ?_;refine SA.take 4 aG rfl (by kernel_rfl) (by kernel_rfl) rfl ?_;repeat (refine SW.pure rfl rfl ?_)
    refine SW.ah ?_;refine SA.take 5 aG rfl (by kernel_rfl) (by kernel_rfl) rfl ?_;repeat ((show SW _ _ _ _ (⟨_,Op.binOp _ _ _ _ _,_,_,_,none⟩::_) _ _;refine SW.st (iN rfl rfl (by omega) (by omega)) rfl ?_))
    refine SW.ah ?_;refine SA.take 6 aG rfl (by kernel_rfl) (by kernel_rfl) rfl ?_;repeat (refine SW.pure rfl rfl ?_)
    refine SW.ah ?_;refine SA.take 7 aG rfl (by kernel_rfl) (by kernel_rfl) rfl ?_;repeat ((show SW _ _ _ _ (⟨_,Op.nilCheck _,_,_,_,none⟩::_) _ _;refine SW.st (aI rfl) rfl ?_))
    refine SW.ah ?_;refine SA.take 8 aG rfl (by kernel_rfl) (by kernel_rfl) rfl ?_;repeat ((show SW _ _ _ _ (⟨_,Op.fieldAddr _ _ _,_,_,_,none⟩::_) _ _;refine SW.st (aC rfl) rfl ?_))
    refine SW.ah ?_;refine SA.take 9 aG rfl (by kernel_rfl) (by kernel_rfl) rfl ?_;repeat ((show SW _ _ _ _ (⟨_,Op.load _ _,_,_,_,none⟩::_) _ _;refine SW.st (ak rfl (hS.row.sl.dv cf (j:=1) (u := .int .i64 cs[i].bf) rfl)) rfl ?_))
    refine SW.ah ?_;refine SA.take 10 aG rfl (by kernel_rfl) (by kernel_rfl) rfl ?_;repeat (refine SW.pure rfl rfl ?_)
    refine SW.ah ?_;refine SA.take 11 aG rfl (by kernel_rfl) (by kernel_rfl) rfl ?_;repeat ((show SW _ _ _ _ (⟨_,Op.nilCheck _,_,_,_,none⟩::_) _ _;refine SW.st (aI rfl) rfl ?_))
    refine SW.ah ?_;refine SA.take 12 aG rfl (by kernel_rfl) (by kernel_rfl) rfl ?_;repeat ((show SW _ _ _ _ (⟨_,Op.fieldAddr _ _ _,_,_,_,none⟩::_) _ _;refine SW.st (aC rfl) rfl ?_))
    refine SW.ah ?_;refine SA.take 13 aG rfl (by kernel_rfl) (by kernel_rfl) rfl ?_;repeat ((show SW _ _ _ _ (⟨_,Op.load _ _,_,_,_,none⟩::_) _ _;refine SW.st (ak rfl (hS.row.sl.dv cf (j:=2) (u := .int .i64 cs[i].ck) rfl)) rfl ?_))
    refine SW.ah ?_;refine SA.one 14 rfl (by kernel_rfl) rfl ?_;refine SW.call rfl rfl (nw r.Words.A r.Words.n r.Words.c s.Words (at'*16) cs[i].bf cs[i].ck _ hS.words.sl (by omega)) fun v w6 aj hv => ?_
    have j4:=hc;unfold gh at j4;rw [gU,show at'*16=16*at' by omega,uV,rh,if_pos (by rw [GH] at j4;exact j4)] at hv;obtain ⟨XA,Xc,rfl,hX⟩:=hv;replace hX:=hX.low hw.size;(replace hw:=Ext.trans hw aj;replace hb:=hb.ext aj;replace bk:=bk.ext aj;replace hH:=hH.ext aj;replace hS:=hS.ext aj);refine SW.nil (ae.sa aj ?_);refine SA.take 15 aG rfl (by kernel_rfl) (by kernel_rfl) rfl ?_;repeat (refine SW.pure rfl rfl ?_)
    refine SW.ah ?_;refine SA.take 16 aG rfl (by kernel_rfl) (by kernel_rfl) rfl ?_;repeat (refine SW.pure rfl rfl ?_)
    refine SW.ah ?_;refine SA.take 17 aG rfl (by kernel_rfl) (by kernel_rfl) rfl ?_;repeat (refine SW.pure rfl rfl ?_)
    refine SW.ah ?_;refine SA.take 18 aG rfl (by kernel_rfl) (by kernel_rfl) rfl ?_;repeat (refine SW.pure rfl rfl ?_)
    refine SW.ah ?_;refine SA.done (by kernel_rfl) ?_;refine Wz ?_;refine SW.qk 1 hb rfl rfl rfl (Nat.le_of_ble_eq_true rfl) (cQ H) (aU ⟨r.Words,H,r.aa⟩) rfl fun w7 jE hg => ?_
    have hG:=hb.gr hg;have qJ:∀ j x,j≠b→aJ w0 j 30 x→aJ w7 j 30 x:=fun j x hj h=>(h.ext hw).grown hg (by simpa using hj)
    have tP:∀ j x,aJ w0 j 89 x→aJ w7 j 89 x:=fun j x h=>(h.ext hw).ay hG rfl
    have qO:∀ j x,aJ w0 j 3 x→aJ w7 j 3 x:=fun j x h=>(h.ext hw).ay hG rfl
    replace hx:=(hx.trans hw).own EG hg;(replace hH:=hH.ay hG rfl;replace hX:=hX.ay hG rfl;replace hS:=hS.ay hG rfl);refine Wz ?_;refine SW.bB (i:=0) jE rfl rfl rfl rfl fun w8 Dd hg => ?_
    have hG:=jE.gr hg;replace qJ:∀ j x,j≠b→aJ w0 j 30 x→aJ w8 j 30 x:=fun j x hj h=>(qJ j x hj h).grown hg (by simpa using hj)
    replace tP:∀ j x,aJ w0 j 89 x→aJ w8 j 89 x:=fun j x h=>(tP j x h).ay hG rfl
    replace qO:∀ j x,aJ w0 j 3 x→aJ w8 j 3 x:=fun j x h=>(qO j x h).ay hG rfl
    replace hx:=hx.own EG hg;(replace hH:=hH.ay hG rfl;replace hX:=hX.ay hG rfl;replace hS:=hS.ay hG rfl);replace hb:aJ w8 b 30 (aU ⟨⟨XA,r.Words.n,Xc⟩,H,r.aa⟩):=Dd;rw [← e0] at hS;obtain ⟨jo,jL⟩:=nH.fresh (p:=(s.Heap,s.aa[i])) (X:=⟨XA,r.Words.n,Xc⟩) (H:=H) (h':=u.1) (m:=w0.heap.size) hS fC EI EH hX hH;clear hS hX hH hw hG hg jE Dd bk;have hw:=Ext.refl w8;refine Wz ?_
    refine CW.loop (fun k:Nat=>[(8,.pointer (some ((r.aa.A.getD default).add (i*6)))),(10,.int .i64 at'),(13,.int .i64 (k:Int))])
     (fun k w'=>w'=w8∧k≤cs[i].ai.n ∧ ∀ (j:Nat) (hj:j<s.aa[i].ai.length),j<k→s.aa[i].ai[j].At<at') (fun k=>cs[i].ai.n-k) 0
     ⟨rfl,rfl,rfl,trivial⟩ ⟨rfl,Nat.zero_le _,fun j hj h=>by omega⟩ ?_
    rintro k w' ⟨Iv,hk,c9⟩
    subst Iv;have ox:=jo.get jA hi;simp only at ox;have Jv:=ox.aR.sl.base;by_cases bY:k<cs[i].ai.n
    ·have de:k<s.aa[i].ai.length:=by omega
     obtain ⟨y,hy⟩ : ∃ y,s.aa[i].ai[k]=y:=⟨_,rfl⟩;have gA:=ox.aR.sl.dv bY (j:=0) (show (aZ (s.aa[i].ai[k]'(by omega)))[0]?=some (Value.int .i64 y.At) by rw [hy];rfl);by_cases Fq:y.At<at'
     ·repeat' (first|refine Wz ?_|refine SW.st (ak rfl (jo.row.sl.dv cf (j:=4) (u := .slice cs[i].ai.A cs[i].ai.n cs[i].ai.c) rfl)) rfl ?_|refine SW.st (ak rfl gA) rfl ?_)
      all_goals try omega
      exact ae.again (k+1) ⟨rfl,rfl,rfl,trivial⟩ (by omega) ⟨rfl,by omega,fun j hj h=>by
       by_cases e:j=k
       ·subst e;rw [hy];exact Fq
       ·exact c9 j hj (by omega)⟩
     ·have ue:lC s.aa[i] at'=k:=ny (by omega) c9 (fun h=>by rw [hy];exact Fq)
      repeat' (first|refine Wz ?_|refine SW.st (ak rfl (jo.row.sl.dv cf (j:=4) (u := .slice cs[i].ai.A cs[i].ai.n cs[i].ai.c) rfl)) rfl ?_|refine SW.st (ak rfl gA) rfl ?_)
      all_goals try omega
      refine CW.iO 15 18 (fun _=>True) mixed (by kernel_rfl) fun w1 ab aG => ?_
      replace hw:=Ext.trans hw ab;replace hb:=hb.ext ab;replace jo:=jo.ext ab;replace jL:=jL.ext ab;clear ab;refine SF.dG 0 [] aG rfl (by kernel_rfl) (by kernel_rfl) (by kernel_rfl) (bc rfl) (fun w2 hS=>bc rfl) rfl ?_;refine SF.take 1 [4,3,2] [] aG rfl (by kernel_rfl) (by kernel_rfl) (by kernel_rfl) ?_;repeat (refine SW.pure rfl rfl ?_)
      refine SW.ah ?_;refine SF.take 2 [4,3] [] aG rfl (by kernel_rfl) (by kernel_rfl) (by kernel_rfl) ?_;repeat ((show SW _ _ _ _ (⟨_,Op.nilCheck _,_,_,_,none⟩::_) _ _;refine SW.st (aI rfl) rfl ?_))
      refine SW.ah ?_;refine SF.take 3 [4] [] aG rfl (by kernel_rfl) (by kernel_rfl) (by kernel_rfl) ?_;repeat ((show SW _ _ _ _ (⟨_,Op.fieldAddr _ _ _,_,_,_,none⟩::_) _ _;refine SW.st (aC rfl) rfl ?_))
      refine SW.ah ?_;refine SF.take 4 [] [] aG rfl (by kernel_rfl) (by kernel_rfl) (by kernel_rfl) ?_;repeat ((show SW _ _ _ _ (⟨_,Op.load _ _,_,_,_,none⟩::_) _ _;refine SW.st (ak rfl (jo.row.sl.dv cf (j:=4) (u := .slice cs[i].ai.A cs[i].ai.n cs[i].ai.c) rfl)) rfl ?_))
      refine SW.ah ?_;refine SF.take 5 [] [] aG rfl (by kernel_rfl) (by kernel_rfl) (by kernel_rfl) ?_;repeat (refine SW.pure rfl rfl ?_)
      refine SW.ah ?_;refine SF.take 6 [14,13] [] aG rfl (by kernel_rfl) (by kernel_rfl) (by kernel_rfl) ?_;repeat (refine SW.pure rfl rfl ?_)
      refine SW.ah ?_;refine SF.take 7 [14,13,10,9,8] [] aG rfl (by kernel_rfl) (by kernel_rfl) (by kernel_rfl) ?_;repeat (refine SW.pure rfl rfl ?_)
      refine SW.ah ?_;refine SF.take 8 [14,13,10,9] [] aG rfl (by kernel_rfl) (by kernel_rfl) (by kernel_rfl) ?_;repeat ((show SW _ _ _ _ (⟨_,Op.nilCheck _,_,_,_,none⟩::_) _ _;refine SW.st (aI rfl) rfl ?_))
      refine SW.ah ?_;refine SF.take 9 [14,13,10] [] aG rfl (by kernel_rfl) (by kernel_rfl) (by kernel_rfl) ?_;repeat ((show SW _ _ _ _ (⟨_,Op.fieldAddr _ _ _,_,_,_,none⟩::_) _ _;refine SW.st (aC rfl) rfl ?_))
      refine SW.ah ?_;refine SF.take 10 [14,13] [] aG rfl (by kernel_rfl) (by kernel_rfl) (by kernel_rfl) ?_;repeat ((show SW _ _ _ _ (⟨_,Op.load _ _,_,_,_,none⟩::_) _ _;refine SW.st (ak rfl (jo.row.sl.dv cf (j:=2) (u := .int .i64 cs[i].ck) rfl)) rfl ?_))
      refine SW.ah ?_;refine SF.take 11 [14,13,12] [] aG rfl (by kernel_rfl) (by kernel_rfl) (by kernel_rfl) ?_;repeat (refine SW.pure rfl rfl ?_)
      refine SW.ah ?_;refine SF.take 12 [14,13] [] aG rfl (by kernel_rfl) (by kernel_rfl) (by kernel_rfl) ?_;repeat ((show SW _ _ _ _ (⟨_,Op.binOp _ _ _ _ _,_,_,_,none⟩::_) _ _;refine SW.st (iN rfl rfl (by omega) (by omega)) rfl ?_))
      refine SW.ah ?_;refine SF.take 13 [14] [] aG rfl (by kernel_rfl) (by kernel_rfl) (by kernel_rfl) ?_;repeat ((show SW _ _ _ _ (⟨_,Op.build _ _,_,_,_,none⟩::_) _ _;refine SW.st (fQ rfl rfl) rfl ?_))
      refine SW.ah ?_;refine SF.one 14 rfl (by kernel_rfl) rfl ?_;refine SW.bJ rfl rfl rfl rfl rfl fun bn w9 aj IJ De => ?_
      have mS:aT cs[i].ai.A cs[i].ai.c≠some bn:=fun e=>absurd ((jo.get jA hi).aR.lt_size _ e) (by omega)
      (replace hw:=Ext.trans hw aj;replace hb:=hb.ext aj;replace jo:=jo.ext aj;replace jL:=jL.ext aj);refine SW.nil (ae.sf aj ?_);refine SF.turn rfl (by kernel_rfl) rfl ?_;have ox:=jo.get jA hi;simp only at ox;refine SW.cV rfl rfl (iF _ _ _ wb.heap.size s.aa[i].ai _ ox.aR k (by omega) ⟨at',cs[i].ck,at'*16⟩ bn De mS (by omega) (Nat.le_trans hx.size hw.size)) fun v mw hv => ?_
      obtain ⟨A2,c2,rfl,gx,hg,GI⟩:=hv;have hG:=ox.aR.gr hg;have Df:=jo.nu jA hi gx hg GI;have y7:=aE (hx.trans hw) hg (Nat.le_refl _) ox.aR.aM;have y8:∀ j x,j≠b→aJ w0 j 30 x→aJ mw j 30 x:=fun j x hj h=>((qJ j x hj h).ext hw).ay hG rfl
      have y9:∀ j x,aJ w0 j 89 x→aJ mw j 89 x:=fun j x h=>((tP j x h).ext hw).ay hG rfl
      have za:∀ j x,aJ w0 j 3 x→aJ mw j 3 x:=fun j x h=>((qO j x h).ext hw).ay hG rfl
      (replace hb:=hb.ay hG rfl;replace jL:=jL.ay hG rfl);have hS:True:=trivial
      refine SW.nil (ae.sg hS ?_);refine SG.one 16 rfl (by kernel_rfl) rfl ?_;repeat ((show SW _ _ _ _ (⟨_,Op.nilCheck _,_,_,_,none⟩::_) _ _;refine SW.st (aI rfl) rfl ?_))
      refine SW.nil (ae.sg hS ?_);refine SG.one 17 rfl (by kernel_rfl) rfl ?_;repeat ((show SW _ _ _ _ (⟨_,Op.fieldAddr _ _ _,_,_,_,none⟩::_) _ _;refine SW.st (aC rfl) rfl ?_))
      refine SW.nil (ae.sg hS ?_);refine SG.last rfl (by kernel_rfl) (by kernel_rfl) ?_;have dt:=Df.row;refine SW.gH i 4 ⟨cs[i].Names,cs[i].bf,cs[i].ck,cs[i].Order,⟨A2,cs[i].ai.n+1,c2⟩,cs[i].au⟩ dt rfl rfl rfl cf (by decide) rfl rfl fun rf fJ oy => ?_
      have ki:=dt.gr oy;have GJ:=Df.p9 fJ oy;replace y7:=aE y7 oy (Nat.le_refl _) dt.aM;(replace hb:=hb.ay ki rfl;replace jL:=jL.ay ki rfl)
      have Dg:=jL.rows (s':=cm (iE s (iX s.Words (16*at') s.aa[i].bf s.aa[i].ck)) i (u.1,eG s.aa[i] at')) (cs':=cs.set i ⟨cs[i].Names,cs[i].bf,cs[i].ck,cs[i].Order,⟨A2,cs[i].ai.n+1,c2⟩,cs[i].au⟩) rfl (fun u hu=>by
       rcases List.mem_or_eq_of_mem_set hu with hu|rfl
       ·exact ⟨u,hu,rfl⟩
       ·exact ⟨cs[i],List.getElem_mem jA,rfl⟩)
      have pA:eG s.aa[i] at'=⟨s.aa[i].Names,s.aa[i].bf,s.aa[i].ck,s.aa[i].Order,aV s.aa[i].ai k ⟨at',cs[i].ck,at'*16⟩,s.aa[i].au⟩:=by
       unfold eG;rw [ue,rh,show at'*16=16*at' by omega]
      refine Wz ?_;refine ae.cu rfl rfl rfl ⟨_,rfl,u,hu,.inr (.inr ⟨he,by rw [ie];exact hc,by rw [ie,ue],y7,fun j x hj h=>(y8 j x hj h).ay ki rfl,fun j x h=>(y9 j x h).ay ki rfl,fun j x h=>(za j x h).ay ki rfl,⟨XA,r.Words.n,Xc⟩,H,_,hb,?_,by rw [ie];exact Dg⟩)⟩;rw [ie,pA];exact GJ
    ·have vV:k=cs[i].ai.n:=by omega
     have ue:lC s.aa[i] at'=k:=ny (by omega) (fun j hj h=>c9 j hj (by omega)) (fun h=>by omega)
     repeat' (first|refine Wz ?_|refine SW.st (ak rfl (jo.row.sl.dv cf (j:=4) (u := .slice cs[i].ai.A cs[i].ai.n cs[i].ai.c) rfl)) rfl ?_)
     all_goals try omega
     refine CW.iO 15 18 (fun _=>True) mixed (by kernel_rfl) fun w1 ab aG => ?_
     replace hw:=Ext.trans hw ab;replace hb:=hb.ext ab;replace jo:=jo.ext ab;replace jL:=jL.ext ab;clear ab;refine SF.dG 0 [] aG rfl (by kernel_rfl) (by kernel_rfl) (by kernel_rfl) (bc rfl) (fun w2 hS=>bc rfl) rfl ?_;refine SF.take 1 [4,3,2] [] aG rfl (by kernel_rfl) (by kernel_rfl) (by kernel_rfl) ?_;repeat (refine SW.pure rfl rfl ?_)
     refine SW.ah ?_;refine SF.take 2 [4,3] [] aG rfl (by kernel_rfl) (by kernel_rfl) (by kernel_rfl) ?_;repeat ((show SW _ _ _ _ (⟨_,Op.nilCheck _,_,_,_,none⟩::_) _ _;refine SW.st (aI rfl) rfl ?_))
     refine SW.ah ?_;refine SF.take 3 [4] [] aG rfl (by kernel_rfl) (by kernel_rfl) (by kernel_rfl) ?_;repeat ((show SW _ _ _ _ (⟨_,Op.fieldAddr _ _ _,_,_,_,none⟩::_) _ _;refine SW.st (aC rfl) rfl ?_))
     refine SW.ah ?_;refine SF.take 4 [] [] aG rfl (by kernel_rfl) (by kernel_rfl) (by kernel_rfl) ?_;repeat ((show SW _ _ _ _ (⟨_,Op.load _ _,_,_,_,none⟩::_) _ _;refine SW.st (ak rfl (jo.row.sl.dv cf (j:=4) (u := .slice cs[i].ai.A cs[i].ai.n cs[i].ai.c) rfl)) rfl ?_))
     refine SW.ah ?_;refine SF.take 5 [] [] aG rfl (by kernel_rfl) (by kernel_rfl) (by kernel_rfl) ?_;repeat (refine SW.pure rfl rfl ?_)
     refine SW.ah ?_;refine SF.take 6 [14,13] [] aG rfl (by kernel_rfl) (by kernel_rfl) (by kernel_rfl) ?_;repeat (refine SW.pure rfl rfl ?_)
     refine SW.ah ?_;refine SF.take 7 [14,13,10,9,8] [] aG rfl (by kernel_rfl) (by kernel_rfl) (by kernel_rfl) ?_;repeat (refine SW.pure rfl rfl ?_)
     refine SW.ah ?_;refine SF.take 8 [14,13,10,9] [] aG rfl (by kernel_rfl) (by kernel_rfl) (by kernel_rfl) ?_;repeat ((show SW _ _ _ _ (⟨_,Op.nilCheck _,_,_,_,none⟩::_) _ _;refine SW.st (aI rfl) rfl ?_))
     refine SW.ah ?_;refine SF.take 9 [14,13,10] [] aG rfl (by kernel_rfl) (by kernel_rfl) (by kernel_rfl) ?_;repeat ((show SW _ _ _ _ (⟨_,Op.fieldAddr _ _ _,_,_,_,none⟩::_) _ _;refine SW.st (aC rfl) rfl ?_))
     refine SW.ah ?_;refine SF.take 10 [14,13] [] aG rfl (by kernel_rfl) (by kernel_rfl) (by kernel_rfl) ?_;repeat ((show SW _ _ _ _ (⟨_,Op.load _ _,_,_,_,none⟩::_) _ _;refine SW.st (ak rfl (jo.row.sl.dv cf (j:=2) (u := .int .i64 cs[i].ck) rfl)) rfl ?_))
     refine SW.ah ?_;refine SF.take 11 [14,13,12] [] aG rfl (by kernel_rfl) (by kernel_rfl) (by kernel_rfl) ?_;repeat (refine SW.pure rfl rfl ?_)
     refine SW.ah ?_;refine SF.take 12 [14,13] [] aG rfl (by kernel_rfl) (by kernel_rfl) (by kernel_rfl) ?_;repeat ((show SW _ _ _ _ (⟨_,Op.binOp _ _ _ _ _,_,_,_,none⟩::_) _ _;refine SW.st (iN rfl rfl (by omega) (by omega)) rfl ?_))
     refine SW.ah ?_;refine SF.take 13 [14] [] aG rfl (by kernel_rfl) (by kernel_rfl) (by kernel_rfl) ?_;repeat ((show SW _ _ _ _ (⟨_,Op.build _ _,_,_,_,none⟩::_) _ _;refine SW.st (fQ rfl rfl) rfl ?_))
     refine SW.ah ?_;refine SF.one 14 rfl (by kernel_rfl) rfl ?_;refine SW.bJ rfl rfl rfl rfl rfl fun bn w9 aj IJ De => ?_
     have mS:aT cs[i].ai.A cs[i].ai.c≠some bn:=fun e=>absurd ((jo.get jA hi).aR.lt_size _ e) (by omega)
     (replace hw:=Ext.trans hw aj;replace hb:=hb.ext aj;replace jo:=jo.ext aj;replace jL:=jL.ext aj);refine SW.nil (ae.sf aj ?_);refine SF.turn rfl (by kernel_rfl) rfl ?_;have ox:=jo.get jA hi;simp only at ox;refine SW.cV rfl rfl (iF _ _ _ wb.heap.size s.aa[i].ai _ ox.aR k (by omega) ⟨at',cs[i].ck,at'*16⟩ bn De mS (by omega) (Nat.le_trans hx.size hw.size)) fun v mw hv => ?_
     obtain ⟨A2,c2,rfl,gx,hg,GI⟩:=hv;have hG:=ox.aR.gr hg;have Df:=jo.nu jA hi gx hg GI;have y7:=aE (hx.trans hw) hg (Nat.le_refl _) ox.aR.aM;have y8:∀ j x,j≠b→aJ w0 j 30 x→aJ mw j 30 x:=fun j x hj h=>((qJ j x hj h).ext hw).ay hG rfl
     have y9:∀ j x,aJ w0 j 89 x→aJ mw j 89 x:=fun j x h=>((tP j x h).ext hw).ay hG rfl
     have za:∀ j x,aJ w0 j 3 x→aJ mw j 3 x:=fun j x h=>((qO j x h).ext hw).ay hG rfl
     (replace hb:=hb.ay hG rfl;replace jL:=jL.ay hG rfl);have hS:True:=trivial
     refine SW.nil (ae.sg hS ?_);refine SG.one 16 rfl (by kernel_rfl) rfl ?_;repeat ((show SW _ _ _ _ (⟨_,Op.nilCheck _,_,_,_,none⟩::_) _ _;refine SW.st (aI rfl) rfl ?_))
     refine SW.nil (ae.sg hS ?_);refine SG.one 17 rfl (by kernel_rfl) rfl ?_;repeat ((show SW _ _ _ _ (⟨_,Op.fieldAddr _ _ _,_,_,_,none⟩::_) _ _;refine SW.st (aC rfl) rfl ?_))
     refine SW.nil (ae.sg hS ?_);refine SG.last rfl (by kernel_rfl) (by kernel_rfl) ?_;have dt:=Df.row;refine SW.gH i 4 ⟨cs[i].Names,cs[i].bf,cs[i].ck,cs[i].Order,⟨A2,cs[i].ai.n+1,c2⟩,cs[i].au⟩ dt rfl rfl rfl cf (by decide) rfl rfl fun rf fJ oy => ?_
     have ki:=dt.gr oy;have GJ:=Df.p9 fJ oy;replace y7:=aE y7 oy (Nat.le_refl _) dt.aM;(replace hb:=hb.ay ki rfl;replace jL:=jL.ay ki rfl)
     have Dg:=jL.rows (s':=cm (iE s (iX s.Words (16*at') s.aa[i].bf s.aa[i].ck)) i (u.1,eG s.aa[i] at')) (cs':=cs.set i ⟨cs[i].Names,cs[i].bf,cs[i].ck,cs[i].Order,⟨A2,cs[i].ai.n+1,c2⟩,cs[i].au⟩) rfl (fun u hu=>by
      rcases List.mem_or_eq_of_mem_set hu with hu|rfl
      ·exact ⟨u,hu,rfl⟩
      ·exact ⟨cs[i],List.getElem_mem jA,rfl⟩)
     have pA:eG s.aa[i] at'=⟨s.aa[i].Names,s.aa[i].bf,s.aa[i].ck,s.aa[i].Order,aV s.aa[i].ai k ⟨at',cs[i].ck,at'*16⟩,s.aa[i].au⟩:=by
      unfold eG;rw [ue,rh,show at'*16=16*at' by omega]
     refine Wz ?_;refine ae.cu rfl rfl rfl ⟨_,rfl,u,hu,.inr (.inr ⟨he,by rw [ie];exact hc,by rw [ie,ue],y7,fun j x hj h=>(y8 j x hj h).ay ki rfl,fun j x h=>(y9 j x h).ay ki rfl,fun j x h=>(za j x h).ay ki rfl,⟨XA,r.Words.n,Xc⟩,H,_,hb,?_,by rw [ie];exact Dg⟩)⟩;rw [ie,pA];exact GJ
   ·refine CW.any 19 mixed (cl (by kernel_rfl)) rfl fun w1 ab aG => ?_
    replace hw:=Ext.trans hw ab;replace hb:=hb.ext ab;replace bk:=bk.ext ab;replace hH:=hH.ext ab;replace hS:=hS.ext ab;clear ab;refine SA.take 0 aG rfl (by kernel_rfl) (by kernel_rfl) rfl ?_;repeat (refine SW.pure rfl rfl ?_)
    refine SW.ah ?_;refine SA.take 1 aG rfl (by kernel_rfl) (by kernel_rfl) rfl ?_;repeat ((show SW _ _ _ _ (⟨_,Op.nilCheck _,_,_,_,none⟩::_) _ _;refine SW.st (aI rfl) rfl ?_))
    refine SW.ah ?_;refine SA.take 2 aG rfl (by kernel_rfl) (by kernel_rfl) rfl ?_;repeat ((show SW _ _ _ _ (⟨_,Op.fieldAddr _ _ _,_,_,_,none⟩::_) _ _;refine SW.st (aC rfl) rfl ?_))
    refine SW.ah ?_;refine SA.take 3 aG rfl (by kernel_rfl) (by kernel_rfl) rfl ?_;repeat ((show SW _ _ _ _ (⟨_,Op.load _ _,_,_,_,none⟩::_) _ _;refine SW.st (ak rfl (hb.cell (i:=0) (v := .slice r.Words.A r.Words.n r.Words.c) rfl)) rfl ?_))
    refine SW.ah ?_;refine SA.take 4 aG rfl (by kernel_rfl) (by kernel_rfl) rfl ?_;repeat (refine SW.pure rfl rfl ?_)
    refine SW.ah ?_;refine SA.take 5 aG rfl (by kernel_rfl) (by kernel_rfl) rfl ?_;repeat ((show SW _ _ _ _ (⟨_,Op.binOp _ _ _ _ _,_,_,_,none⟩::_) _ _;refine SW.st (iN rfl rfl (by omega) (by omega)) rfl ?_))
    refine SW.ah ?_;refine SA.take 6 aG rfl (by kernel_rfl) (by kernel_rfl) rfl ?_;repeat (refine SW.pure rfl rfl ?_)
    refine SW.ah ?_;refine SA.take 7 aG rfl (by kernel_rfl) (by kernel_rfl) rfl ?_;repeat ((show SW _ _ _ _ (⟨_,Op.nilCheck _,_,_,_,none⟩::_) _ _;refine SW.st (aI rfl) rfl ?_))
    refine SW.ah ?_;refine SA.take 8 aG rfl (by kernel_rfl) (by kernel_rfl) rfl ?_;repeat ((show SW _ _ _ _ (⟨_,Op.fieldAddr _ _ _,_,_,_,none⟩::_) _ _;refine SW.st (aC rfl) rfl ?_))
    refine SW.ah ?_;refine SA.take 9 aG rfl (by kernel_rfl) (by kernel_rfl) rfl ?_;repeat ((show SW _ _ _ _ (⟨_,Op.load _ _,_,_,_,none⟩::_) _ _;refine SW.st (ak rfl (hS.row.sl.dv cf (j:=1) (u := .int .i64 cs[i].bf) rfl)) rfl ?_))
    refine SW.ah ?_;refine SA.take 10 aG rfl (by kernel_rfl) (by kernel_rfl) rfl ?_;repeat (refine SW.pure rfl rfl ?_)
    refine SW.ah ?_;refine SA.take 11 aG rfl (by kernel_rfl) (by kernel_rfl) rfl ?_;repeat ((show SW _ _ _ _ (⟨_,Op.nilCheck _,_,_,_,none⟩::_) _ _;refine SW.st (aI rfl) rfl ?_))
    refine SW.ah ?_;refine SA.take 12 aG rfl (by kernel_rfl) (by kernel_rfl) rfl ?_;repeat ((show SW _ _ _ _ (⟨_,Op.fieldAddr _ _ _,_,_,_,none⟩::_) _ _;refine SW.st (aC rfl) rfl ?_))
    refine SW.ah ?_;refine SA.take 13 aG rfl (by kernel_rfl) (by kernel_rfl) rfl ?_;repeat ((show SW _ _ _ _ (⟨_,Op.load _ _,_,_,_,none⟩::_) _ _;refine SW.st (ak rfl (hS.row.sl.dv cf (j:=2) (u := .int .i64 cs[i].ck) rfl)) rfl ?_))
    refine SW.ah ?_;refine SA.one 14 rfl (by kernel_rfl) rfl ?_;refine SW.call rfl rfl (nw r.Words.A r.Words.n r.Words.c s.Words (at'*16) cs[i].bf cs[i].ck _ hS.words.sl (by omega)) fun v w6 aj hv => ?_
    have j4:=hc;unfold gh at j4;rw [gU,show at'*16=16*at' by omega,uV,rh,if_neg (by rw [GH] at j4;exact j4)] at hv;subst hv;(replace hw:=Ext.trans hw aj;replace hb:=hb.ext aj;replace bk:=bk.ext aj;replace hH:=hH.ext aj;replace hS:=hS.ext aj);refine SW.nil (ae.sa aj ?_);refine SA.take 15 aG rfl (by kernel_rfl) (by kernel_rfl) rfl ?_;repeat (refine SW.pure rfl rfl ?_)
    refine SW.ah ?_;refine SA.take 16 aG rfl (by kernel_rfl) (by kernel_rfl) rfl ?_;repeat (refine SW.pure rfl rfl ?_)
    refine SW.ah ?_;refine SA.take 17 aG rfl (by kernel_rfl) (by kernel_rfl) rfl ?_;repeat (refine SW.pure rfl rfl ?_)
    refine SW.ah ?_;refine SA.take 18 aG rfl (by kernel_rfl) (by kernel_rfl) rfl ?_;repeat (refine SW.pure rfl rfl ?_)
    refine SW.ah ?_;refine SA.done (by kernel_rfl) ?_;refine Wz ?_;exact ae.cu rfl rfl rfl ⟨_,rfl,u,hu,.inr (.inl ⟨he,by rw [ie];exact hc,rfl,hw⟩)⟩
  ·refine Wz ?_;all_goals try omega
   exact ae.cu rfl rfl rfl ⟨_,rfl,u,hu,.inl ⟨by rw [he];exact EJ,by rw [he];rfl,hw⟩⟩
end Go.Proofs.YtjimadiidbkohaaGreatDoor
