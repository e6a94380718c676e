/-
  Texts of the claim SlabBulks, part 22: what its theorem leans on.
-/
import Derived.Test.YtjimadiidbkohaaGreatDoorPackSlabBulks20
import Derived.Test.YtjimadiidbkohaaGreatDoorPackSlabBulks21
import Derived.Test.YtjimadiidbkohaaGreatDoorPackSlabBulks2
import Derived.Test.YtjimadiidbkohaaGreatDoorPackSlabBulks10
import Derived.Test.YtjimadiidbkohaaGreatDoorPackSlabBulks11
import Derived.Test.YtjimadiidbkohaaGreatDoorPackSlabBulks6
import Derived.Test.YtjimadiidbkohaaGreatDoorPackSlabBulks18
set_option linter.unusedVariables false
set_option linter.unusedSimpArgs false
namespace Go.Proofs.YtjimadiidbkohaaGreatDoor
open Go.RowKit
theorem qT (x:Slab) (b8:Nat) (ad:Addr) (A:Option Addr) (n c:Nat) (l:List Int) (w:World) (h8:aI w b8 89 [.pointer (some ad)]) (hp:w.cell? (ad.add 5)=some (.slice A n c)) (hl:Sl w 1 bf A n l) (hn:n≤9223372036854775807) :
 bt Tryz.prog 48 ([.agg (a8 x).toArray]++[.pointer (some ⟨b8,0,none⟩)]) w fun v _=>v = .bool (decide (0<x.ag) && !decide (x.At∈l)):=by
 refine aM Tryz.func48 rfl Tryz.ntmps48 rfl ?_;refine CW.seq (CW.region (SW.box rfl rfl fun b2 w1 hw im aK => ?_));have Ax:=h8.cell (i:=0) (v := .pointer (some ad)) rfl;rw [add_zero] at Ax;obtain ⟨q,hq⟩ : ∃ q,decide (x.At∈l)=q:=⟨_,rfl⟩
 have cC:∀ w',Ext w w'→bt Tryz.prog 49 [.slice A n c,.int .i64 x.At] w' fun v _=>v = .bool q:=fun w' hx=>by
  have:=ie _ _ c _ x.At _ (hl.ext hx) hn
  rwa [hq] at this
 by_cases hf : 0<x.ag
 ·repeat' (first|refine Wz ?_|((apply CW.aP mixed;(· kernel_rfl);rotate_left;intro w1 ab;replace hw:=Ext.trans hw ab;replace aK:=aK.ext ab;clear ab;rotate_right))|refine SW.st (ao hw rfl Ax) rfl ?_|refine SW.st (ao hw rfl hp) rfl ?_|refine SW.bq rfl rfl (fun w1 ab=>(cC _ (Ext.trans hw ab))) ?_|exact SW.bx rfl)
  all_goals try omega
  exact ae.aO rfl rfl ⟨_,rfl,hw,by rw [hq,decide_eq_true hf];simp⟩
 ·repeat' (first|refine Wz ?_|((apply CW.aP mixed;(· kernel_rfl);rotate_left;intro w1 ab;replace hw:=Ext.trans hw ab;replace aK:=aK.ext ab;clear ab;rotate_right))|exact SW.bx rfl)
  all_goals try omega
  exact ae.aO rfl rfl ⟨_,rfl,hw,by rw [decide_eq_false hf];simp⟩
def pG (c:bg) (cpu k:Nat) : bg:=⟨c.Names,c.bh,c.cj,c.Order,c.ah,c.au.set cpu (c7 c k).At⟩
def I9 (G:Nat→Prop) (wb w0:World) (b:Nat) (r:dP) (s:aE) (i:Nat) (c:bg) (cpu:Nat) (v:Value) (w':World) : Prop :=
 ∃ m,jZ s c cpu m∧Ext wb w'∧(∀ j x,j≠b→aI w0 j 30 x→aI w' j 30 x)∧(∀ j x,G j→aI w0 j 3 x→aI w' j 3 x) ∧
  ((m.1=none∧m.2≠0∧v = .tuple #[.int .i64 0,.int .i64 m.2]) ∨
   ∃ M,m=(some M,0)∧v = .tuple #[.int .i64 (M.k:Int),.int .i64 0] ∧ ∃ X H cs',aI w' b 30 (aT ⟨X,H,r.aa⟩)∧SX w' wb.heap.size ⟨X,H,r.aa⟩ (bQ (fL s M.ws) i (M.h,pG M.c cpu M.k)) cs'∧SJ G w' wb.heap.size ⟨X,H,r.aa⟩ (bQ (fL s M.ws) i (M.h,pG M.c cpu M.k)) cs')
set_option maxHeartbeats 8000000 in
theorem zK (G:Nat→Prop) (wb w0:World) (b:Nat) (r:dP) (s:aE) (cs:List de) (i cpu:Nat) (hf:s.gL) (hi:i<s.aa.length) (hM:mi s s.aa[i]) (tx:pe w0)
 (hx:Ext wb w0) (hb:aI w0 b 30 (aT r)) (E5:wb.heap.size≤b) (hS:SX w0 wb.heap.size r s cs) (hJ:SJ G w0 wb.heap.size r s cs) (E6:∀ g,G g→g<w0.heap.size) (oG:cpu<s.aa[i].au.length) (Dc:(s.aa[i].ah.length+1)*24≤140737488355328) :
 il Tryz.prog 26 [.pointer (some ⟨b,0,none⟩),.int .i64 (i:Int),.int .i64 (cpu:Int)] w0 (I9 G wb w0 b r s i s.aa[i] cpu):=by
 refine dC Tryz.func26 rfl Tryz.ntmps26 rfl ?_;have hm:=hM.most;have e0:=oB hi;have h2:=hf.KU hi;have q4:=h2.small.ba;have fG:=hx.size;obtain ⟨e1,e2⟩:=hS.len;have jP:i<cs.length:=by omega
 have ck:i<r.aa.n:=by omega
 have Lm:=hS.row.sl.base;have hC:=hS.each.get i jP hi;have q1:=hC.aR.len;have q3:=hC.ba.len;have Fm:cpu<cs[i].au.n:=by omega
 have JT:=hC.aR.sl.base;have Ob:=hC.ba.sl.base;have yf:=ve hM oG;have gT:(s.aa[i].au.getD cpu 0)=s.aa[i].au[cpu]:=by simp [oG]
 clear hC;have hw:=Ext.refl w0;refine Wz ?_;refine SW.alloc rfl fun b8 w1 ab kZ bu => ?_
 have jA:w0.heap.size≤b8:=Nat.le_trans hw.size kZ
 (replace hw:=Ext.trans hw ab;replace hb:=hb.ext ab;replace hS:=hS.ext ab;replace hJ:=hJ.ext ab);refine SW.bB (i:=0) bu rfl rfl rfl rfl fun w2 jh hg => ?_
 have hG:=bu.gr hg;replace hw:=hw.own jA hg;(replace hb:=hb.ay hG rfl;replace hS:=hS.ay hG rfl;replace hJ:=hJ.ay hG rfl);replace bu:aI w2 b8 89 [.pointer (some ((r.aa.A.getD default).add (i*6)))]:=jh;clear jh hG hg
 have Ax:∀ w',aI w' b8 89 [.pointer (some ((r.aa.A.getD default).add (i*6)))]→w'.cell? ⟨b8,0,none⟩=some (.pointer (some ((r.aa.A.getD default).add (i*6)))):=fun w' h=>by
  have:=h.cell (i:=0) (v := .pointer (some ((r.aa.A.getD default).add (i*6)))) rfl
  rwa [add_zero] at this
 obtain ⟨o,ho⟩ : ∃ o,uo s.aa[i] cpu=o:=⟨_,rfl⟩;obtain ⟨t,ht⟩ : ∃ t,s.aa[i].au[cpu]=t:=⟨_,rfl⟩;rw [ho,ht] at yf;have gA:∀ w',SX w' wb.heap.size r s cs→w'.cell? ((((cs[i].au.A).getD default).add (cpu*1)))=some (Value.int .i64 t):=fun w' h=>(h.each.get i jP hi).ba.sl.one Fm (by rw [show s.aa[i].au[cpu]=t from ht];rfl)
 have hC:=hS.each.get i jP hi
 have cF:∀ w',Ext w2 w'→bt Tryz.prog 46 [.agg (df cs[i]).toArray,.int .i64 t] w' fun v _=>v = .int .i64 o:=fun w' h=>by
  have:=xM cs[i] s.aa[i].ah t w' (hC.aR.sl.ext h) (by omega)
  unfold uo at ho;rw [gT,ht] at ho;rwa [ho] at this
 have B9:=hw;replace hw:=Ext.refl w2;by_cases hA:∃ (k:Nat) (hk:k<s.aa[i].ah.length),o=k∧0<s.aa[i].ah[k].ag
 ·obtain ⟨k,hk,rfl,fH⟩:=hA;have cb:k<cs[i].ah.n:=by omega
  obtain ⟨y,hy⟩ : ∃ y,s.aa[i].ah[k]=y:=⟨_,rfl⟩;rw [hy] at fH;have gF:∀ w',SX w' wb.heap.size r s cs→w'.cell? ((((cs[i].ah.A).getD default).add (k*3)).add 1)=some (Value.int .i64 y.ag):=fun w' h=>(h.each.get i jP hi).aR.sl.dA cb (j:=1) (show (a8 (s.aa[i].ah[k]'(by omega)))[1]?=some (Value.int .i64 y.ag) by rw [hy];rfl)
  have lM:fZ s.aa[i] cpu=k:=by
   unfold fZ;rw [ho,if_pos ⟨by omega,by rw [show ((k:Int)).toNat=k by omega,fK hk,hy];exact fH⟩]
  repeat' (first|refine Wz ?_|((apply CW.aP mixed;(· kernel_rfl);rotate_left;intro w1 ab;replace hw:=Ext.trans hw ab;replace hb:=hb.ext ab;replace bu:=bu.ext ab;replace hS:=hS.ext ab;replace hJ:=hJ.ext ab;clear ab;rotate_right))|refine SW.st (ak rfl (Ax _ bu)) rfl ?_|refine SW.st (aY rfl rfl ((hS.row.sl.all ck))) rfl ?_|refine SW.st (ak rfl (hS.row.sl.dA ck (j:=5) (u := .slice cs[i].au.A cs[i].au.n cs[i].au.c) rfl)) rfl ?_|refine SW.st (ak rfl (gA _ hS)) rfl ?_|refine SW.st (ak rfl (hS.row.sl.dA ck (j:=4) (u := .slice cs[i].ah.A cs[i].ah.n cs[i].ah.c) rfl)) rfl ?_|refine SW.st (ak rfl (gF _ hS)) rfl ?_|refine SW.bq rfl rfl (fun w1 ab=>(cF _ (Ext.trans hw ab))) ?_|exact SW.bx rfl)
  all_goals try omega
  replace hw:=Ext.trans B9 hw;rcases yf with ⟨_,h⟩|⟨_,k2,Da,h,Lo⟩
  ·omega
  ·obtain rfl:k=k2:=by omega
   rw [hy] at Lo
   have xS:pG s.aa[i] cpu k=s.aa[i]:=by
    unfold pG;rw [fK hk,hy,Lo,← ht,List.set_getElem_self]
   refine ae.cy rfl rfl rfl ⟨_,rfl,_,.Aq lM,hx.trans hw,fun j x hj h=>h.ext hw,fun j x hj h=>h.ext hw,.inr ⟨_,rfl,rfl,r.Words,r.Heap,cs,hb,?_⟩⟩;simp only;rw [xS];rw [← e0] at hS hJ;exact ⟨hS,hJ⟩
 ·have tW : ¬ (0≤o∧0<(c7 s.aa[i] o.toNat).ag):=fun h=>by
   rcases yf with ⟨_,h1⟩|⟨_,k2,Da,h1,_⟩
   ·omega
   ·refine hA ⟨k2,Da,h1,?_⟩;have:=h.2
    rwa [show o.toNat=k2 by omega,fK Da] at this
  rcases yf with ⟨_,HL⟩|⟨_,k2,Da,HL,Oc⟩
  ·repeat' (first|refine Wz ?_|((apply CW.aP mixed;(· kernel_rfl);rotate_left;intro w1 ab;replace hw:=Ext.trans hw ab;replace hb:=hb.ext ab;replace bu:=bu.ext ab;replace hS:=hS.ext ab;replace hJ:=hJ.ext ab;clear ab;rotate_right))|refine SW.st (ak rfl (Ax _ bu)) rfl ?_|refine SW.st (aY rfl rfl ((hS.row.sl.all ck))) rfl ?_|refine SW.st (ak rfl (hS.row.sl.dA ck (j:=5) (u := .slice cs[i].au.A cs[i].au.n cs[i].au.c) rfl)) rfl ?_|refine SW.st (ak rfl (gA _ hS)) rfl ?_|refine SW.st (ak rfl (hS.row.sl.dA ck (j:=4) (u := .slice cs[i].ah.A cs[i].ah.n cs[i].ah.c) rfl)) rfl ?_|refine SW.bq rfl rfl (fun w1 ab=>(cF _ (Ext.trans hw ab))) ?_|(refine SW.st (iJ (vs:=[.pointer (some ⟨b8,0,none⟩)]) rfl) rfl ?_)|exact SW.bx rfl)
   all_goals try omega
   replace hw:=Ext.trans B9 hw;clear B9 cF hC;have hC:=hS.each.get i jP hi;have DL:=hS.row.sl.dA ck (j:=5) (u := .slice cs[i].au.A cs[i].au.n cs[i].au.c) rfl;refine SW.call rfl rfl (iP _ _ _ s.aa[i].ah _ hC.aR.sl _ [.pointer (some ⟨b8,0,none⟩)] (jU s.aa[i]) (fun x => .agg (a8 x).toArray) (fun x=>rfl) (fun x tR w1 kH=>qT x b8 _ cs[i].au.A cs[i].au.n cs[i].au.c s.aa[i].au w1 (bu.ext kH) (kH.cell DL) (hC.ba.sl.ext kH) (by omega)) (by omega)) fun v w9 aj hv => ?_
   subst hv;(replace hw:=Ext.trans hw aj;replace hb:=hb.ext aj;replace bu:=bu.ext aj;replace hS:=hS.ext aj;replace hJ:=hJ.ext aj);clear hC DL;obtain ⟨z,hz⟩ : ∃ z,idxOf (jU s.aa[i]) s.aa[i].ah=z:=⟨_,rfl⟩;rw [hz]
   have lM:fZ s.aa[i] cpu=z:=by
    unfold fZ;rw [ho,if_neg tW,hz]
   by_cases sQ : 0≤z
   ·obtain ⟨k,rfl⟩:=Int.eq_ofNat_of_zero_le sQ;obtain ⟨hk,fH⟩:=wj lM;have cb:k<cs[i].ah.n:=by omega
    obtain ⟨y,hy⟩ : ∃ y,s.aa[i].ah[k]=y:=⟨_,rfl⟩;have gY:∀ w',SX w' wb.heap.size r s cs→w'.cell? ((((cs[i].ah.A).getD default).add (k*3)).add 0)=some (Value.int .i64 y.At):=fun w' h=>(h.each.get i jP hi).aR.sl.dA cb (j:=0) (show (a8 (s.aa[i].ah[k]'(by omega)))[0]?=some (Value.int .i64 y.At) by rw [hy];rfl)
    refine Wz ?_;all_goals try omega
    refine CW.jf 14 14 (fun _=>True) mixed (by kernel_rfl) fun w1 ab aG => ?_
    replace hw:=Ext.trans hw ab;replace hb:=hb.ext ab;replace bu:=bu.ext ab;replace hS:=hS.ext ab;replace hJ:=hJ.ext ab;clear ab;refine SF.take 0 [] [] aG rfl (by kernel_rfl) (by kernel_rfl) (by kernel_rfl) ?_;repeat ((show SW _ _ _ _ (⟨_,Op.load _ _,_,_,_,none⟩::_) _ _;refine SW.st (ak rfl (Ax _ bu)) rfl ?_))
    refine SW.ai ?_;refine SF.take 1 [] [] aG rfl (by kernel_rfl) (by kernel_rfl) (by kernel_rfl) ?_;repeat ((show SW _ _ _ _ (⟨_,Op.nilCheck _,_,_,_,none⟩::_) _ _;refine SW.st (aJ rfl) rfl ?_))
    refine SW.ai ?_;refine SF.take 2 [] [] aG rfl (by kernel_rfl) (by kernel_rfl) (by kernel_rfl) ?_;repeat ((show SW _ _ _ _ (⟨_,Op.fieldAddr _ _ _,_,_,_,none⟩::_) _ _;refine SW.st (aC rfl) rfl ?_))
    refine SW.ai ?_;refine SF.take 3 [] [] aG rfl (by kernel_rfl) (by kernel_rfl) (by kernel_rfl) ?_;repeat ((show SW _ _ _ _ (⟨_,Op.load _ _,_,_,_,none⟩::_) _ _;refine SW.st (ak rfl (hS.row.sl.dA ck (j:=5) (u := .slice cs[i].au.A cs[i].au.n cs[i].au.c) rfl)) rfl ?_))
    refine SW.ai ?_;refine SF.take 4 [] [] aG rfl (by kernel_rfl) (by kernel_rfl) (by kernel_rfl) ?_;repeat (refine SW.pure rfl rfl ?_)
    refine SW.ai ?_;refine SF.take 5 [] [] aG rfl (by kernel_rfl) (by kernel_rfl) (by kernel_rfl) ?_;repeat ((show SW _ _ _ _ (⟨_,Op.load _ _,_,_,_,none⟩::_) _ _;refine SW.st (ak rfl (Ax _ bu)) rfl ?_))
    refine SW.ai ?_;refine SF.take 6 [] [] aG rfl (by kernel_rfl) (by kernel_rfl) (by kernel_rfl) ?_;repeat ((show SW _ _ _ _ (⟨_,Op.nilCheck _,_,_,_,none⟩::_) _ _;refine SW.st (aJ rfl) rfl ?_))
    refine SW.ai ?_;refine SF.take 7 [] [] aG rfl (by kernel_rfl) (by kernel_rfl) (by kernel_rfl) ?_;repeat ((show SW _ _ _ _ (⟨_,Op.fieldAddr _ _ _,_,_,_,none⟩::_) _ _;refine SW.st (aC rfl) rfl ?_))
    refine SW.ai ?_;refine SF.take 8 [] [] aG rfl (by kernel_rfl) (by kernel_rfl) (by kernel_rfl) ?_;repeat ((show SW _ _ _ _ (⟨_,Op.load _ _,_,_,_,none⟩::_) _ _;refine SW.st (ak rfl (hS.row.sl.dA ck (j:=4) (u := .slice cs[i].ah.A cs[i].ah.n cs[i].ah.c) rfl)) rfl ?_))
    refine SW.ai ?_;refine SF.take 9 [] [] aG rfl (by kernel_rfl) (by kernel_rfl) (by kernel_rfl) ?_;repeat (refine SW.pure rfl rfl ?_)
    refine SW.ai ?_;refine SF.take 10 [] [] aG rfl (by kernel_rfl) (by kernel_rfl) (by kernel_rfl) ?_;repeat ((show SW _ _ _ _ (⟨_,Op.indexAddr _ _ _,_,_,_,none⟩::_) _ _;refine SW.st (bk rfl rfl (by assumption) (by omega)) rfl ?_))
    refine SW.ai ?_;refine SF.take 11 [] [] aG rfl (by kernel_rfl) (by kernel_rfl) (by kernel_rfl) ?_;repeat ((show SW _ _ _ _ (⟨_,Op.fieldAddr _ _ _,_,_,_,none⟩::_) _ _;refine SW.st (aC rfl) rfl ?_))
    refine SW.ai ?_;refine SF.take 12 [] [] aG rfl (by kernel_rfl) (by kernel_rfl) (by kernel_rfl) ?_;repeat ((show SW _ _ _ _ (⟨_,Op.load _ _,_,_,_,none⟩::_) _ _;refine SW.st (ak rfl (gY _ hS)) rfl ?_))
    refine SW.ai ?_;refine SF.take 13 [] [] aG rfl (by kernel_rfl) (by kernel_rfl) (by kernel_rfl) ?_;repeat ((show SW _ _ _ _ (⟨_,Op.indexAddr _ _ _,_,_,_,none⟩::_) _ _;refine SW.st (bk rfl rfl (by assumption) (by omega)) rfl ?_))
    refine SW.ai ?_;refine SF.last rfl (by kernel_rfl) (by kernel_rfl) ?_;have hC:=hS.each.get i jP hi;refine SW.j8 cpu hC.ba rfl rfl Fm fun lP hO hg => ?_
    have hG:=hC.ba.gr hg;rw [← e0] at hS hJ;have DM:=hS.act hJ jP hi hO hg;have G8:=aF (hx.trans hw) hg (Nat.le_refl _) hC.ba.aL;replace hb:=hb.ay hG rfl;refine Wz ?_;refine ae.cy rfl rfl rfl ⟨_,rfl,_,.Aq lM,G8,fun j x hj h=>(h.ext hw).ay hG rfl,fun j x hj h=>(h.ext hw).grown hg (hJ.ne hj jP),.inr ⟨_,rfl,rfl,r.Words,r.Heap,cs,hb,?_⟩⟩
    have xS:pG s.aa[i] cpu k=⟨s.aa[i].Names,s.aa[i].bh,s.aa[i].cj,s.aa[i].Order,s.aa[i].ah,s.aa[i].au.set cpu y.At⟩:=by
     unfold pG;rw [fK hk,hy]
    simp only;rw [xS];exact DM
   ·have ru:fZ s.aa[i] cpu<0:=by omega
    refine Wz ?_;all_goals try omega
    refine SW.db rfl rfl (yd G wb _ b r s cs i cpu hf hi hM (tx.ext hw) (hx.trans hw) hb E5 hS (fun g hg=>⟨Nat.lt_of_lt_of_le (E6 g hg) hw.size,fun u hu=>hJ.sep u hu g hg⟩) Dc) fun v lP hv => ?_
    obtain ⟨⟨h',at',e⟩,hu,hv⟩:=hv;simp only at hv;rcases hv with ⟨he,rfl,kw⟩|⟨rfl,G9,rfl,kw⟩|⟨rfl,gu,rfl,kw,lL,ua,nM,X,H,cs',jR,mG,tK⟩
    ·refine Wz ?_;all_goals try omega
     exact ae.cy rfl rfl rfl ⟨_,rfl,_,.room ru hu he,(hx.trans hw).trans kw,fun j x hj h=>(h.ext hw).ext kw,fun j x hj h=>(h.ext hw).ext kw,.inl ⟨rfl,he,rfl⟩⟩
    ·refine Wz ?_;all_goals try omega
     exact ae.cy rfl rfl rfl ⟨_,rfl,_,.chain ru hu rfl G9,(hx.trans hw).trans kw,fun j x hj h=>(h.ext hw).ext kw,fun j x hj h=>(h.ext hw).ext kw,.inl ⟨rfl,by simp,rfl⟩⟩
    ·replace bu:=ua _ _ bu;obtain ⟨e3,e4⟩:=mG.rows;have lg:i<cs'.length:=by simp only [fL] at e3;omega
     obtain ⟨k,wq⟩ : ∃ k,iD s.aa[i] at'=k:=⟨_,rfl⟩
     obtain ⟨c1,tN⟩ : ∃ c1,ed s.aa[i] at'=c1:=⟨_,rfl⟩
     have rI:=kQ s.aa[i] at'
     have AI:c1.ah.length=s.aa[i].ah.length+1:=by
      rw [← tN];exact du _ rI _
     have EK:k<c1.ah.length:=by omega
     have Ja:c1.ah[k]=⟨at',s.aa[i].cj,16*at'⟩:=by
      subst tN;subst wq;exact tq rI EK
     have DN:c1.au=s.aa[i].au:=by rw [← tN];rfl
     have fE:=jZ.new ru hu rfl gu;rw [tN] at mG tK;rw [wq];simp only [tN,wq] at fE;have hC:=mG.get lg hi;simp only at hC;have q5:=hC.aR.len;have q6:=hC.ba.len;have cb:k<cs'[i].ah.n:=by omega
     have DO:cpu<cs'[i].au.n:=by rw [← q6,DN];exact oG
     have Jb:=hC.aR.sl.base;have Jc:=hC.ba.sl.base;have gY:∀ w',SX w' wb.heap.size ⟨X,H,r.aa⟩ (bQ (fL s (ez s.Words (16*at') s.aa[i].bh s.aa[i].cj)) i (h',c1)) cs'→w'.cell? ((((cs'[i].ah.A).getD default).add (k*3)).add 0)=some (Value.int .i64 at'):=fun w' h=>(h.get lg hi).aR.sl.dA cb (j:=0) (show (a8 (c1.ah[k]'(by omega)))[0]?=some (Value.int .i64 at') by rw [Ja];rfl)
     clear hC hS hJ hb;have Jd:=hw;have hw:=Ext.refl lP;refine Wz ?_;all_goals try omega
     refine CW.jf 14 14 (fun _=>True) mixed (by kernel_rfl) fun w1 ab aG => ?_
     replace hw:=Ext.trans hw ab;replace jR:=jR.ext ab;replace bu:=bu.ext ab;replace mG:=mG.ext ab;replace tK:=tK.ext ab;clear ab;refine SF.take 0 [] [] aG rfl (by kernel_rfl) (by kernel_rfl) (by kernel_rfl) ?_;repeat ((show SW _ _ _ _ (⟨_,Op.load _ _,_,_,_,none⟩::_) _ _;refine SW.st (ak rfl (Ax _ bu)) rfl ?_))
     refine SW.ai ?_;refine SF.take 1 [] [] aG rfl (by kernel_rfl) (by kernel_rfl) (by kernel_rfl) ?_;repeat ((show SW _ _ _ _ (⟨_,Op.nilCheck _,_,_,_,none⟩::_) _ _;refine SW.st (aJ rfl) rfl ?_))
     refine SW.ai ?_;refine SF.take 2 [] [] aG rfl (by kernel_rfl) (by kernel_rfl) (by kernel_rfl) ?_;repeat ((show SW _ _ _ _ (⟨_,Op.fieldAddr _ _ _,_,_,_,none⟩::_) _ _;refine SW.st (aC rfl) rfl ?_))
     refine SW.ai ?_;refine SF.take 3 [] [] aG rfl (by kernel_rfl) (by kernel_rfl) (by kernel_rfl) ?_;repeat ((show SW _ _ _ _ (⟨_,Op.load _ _,_,_,_,none⟩::_) _ _;refine SW.st (ak rfl (mG.row.sl.dA ck (j:=5) (u := .slice cs'[i].au.A cs'[i].au.n cs'[i].au.c) rfl)) rfl ?_))
     refine SW.ai ?_;refine SF.take 4 [] [] aG rfl (by kernel_rfl) (by kernel_rfl) (by kernel_rfl) ?_;repeat (refine SW.pure rfl rfl ?_)
     refine SW.ai ?_;refine SF.take 5 [] [] aG rfl (by kernel_rfl) (by kernel_rfl) (by kernel_rfl) ?_;repeat ((show SW _ _ _ _ (⟨_,Op.load _ _,_,_,_,none⟩::_) _ _;refine SW.st (ak rfl (Ax _ bu)) rfl ?_))
     refine SW.ai ?_;refine SF.take 6 [] [] aG rfl (by kernel_rfl) (by kernel_rfl) (by kernel_rfl) ?_;repeat ((show SW _ _ _ _ (⟨_,Op.nilCheck _,_,_,_,none⟩::_) _ _;refine SW.st (aJ rfl) rfl ?_))
     refine SW.ai ?_;refine SF.take 7 [] [] aG rfl (by kernel_rfl) (by kernel_rfl) (by kernel_rfl) ?_;repeat ((show SW _ _ _ _ (⟨_,Op.fieldAddr _ _ _,_,_,_,none⟩::_) _ _;refine SW.st (aC rfl) rfl ?_))
     refine SW.ai ?_;refine SF.take 8 [] [] aG rfl (by kernel_rfl) (by kernel_rfl) (by kernel_rfl) ?_;repeat ((show SW _ _ _ _ (⟨_,Op.load _ _,_,_,_,none⟩::_) _ _;refine SW.st (ak rfl (mG.row.sl.dA ck (j:=4) (u := .slice cs'[i].ah.A cs'[i].ah.n cs'[i].ah.c) rfl)) rfl ?_))
     refine SW.ai ?_;refine SF.take 9 [] [] aG rfl (by kernel_rfl) (by kernel_rfl) (by kernel_rfl) ?_;repeat (refine SW.pure rfl rfl ?_)
     refine SW.ai ?_;refine SF.take 10 [] [] aG rfl (by kernel_rfl) (by kernel_rfl) (by kernel_rfl) ?_;repeat ((show SW _ _ _ _ (⟨_,Op.indexAddr _ _ _,_,_,_,none⟩::_) _ _;refine SW.st (bk rfl rfl (by assumption) (by omega)) rfl ?_))
     refine SW.ai ?_;refine SF.take 11 [] [] aG rfl (by kernel_rfl) (by kernel_rfl) (by kernel_rfl) ?_;repeat ((show SW _ _ _ _ (⟨_,Op.fieldAddr _ _ _,_,_,_,none⟩::_) _ _;refine SW.st (aC rfl) rfl ?_))
     refine SW.ai ?_;refine SF.take 12 [] [] aG rfl (by kernel_rfl) (by kernel_rfl) (by kernel_rfl) ?_;repeat ((show SW _ _ _ _ (⟨_,Op.load _ _,_,_,_,none⟩::_) _ _;refine SW.st (ak rfl (gY _ mG)) rfl ?_))
     refine SW.ai ?_;refine SF.take 13 [] [] aG rfl (by kernel_rfl) (by kernel_rfl) (by kernel_rfl) ?_;repeat ((show SW _ _ _ _ (⟨_,Op.indexAddr _ _ _,_,_,_,none⟩::_) _ _;refine SW.st (bk rfl rfl (by assumption) (by omega)) rfl ?_))
     refine SW.ai ?_;refine SF.last rfl (by kernel_rfl) (by kernel_rfl) ?_;have hC:=mG.get lg hi;simp only at hC;refine SW.j8 cpu hC.ba rfl rfl DO fun vh hO hg => ?_
     have hG:=hC.ba.gr hg;have DM:=mG.act tK lg hi hO hg;have G8:=aF (kw.trans hw) hg (Nat.le_refl _) hC.ba.aL;replace jR:=jR.ay hG rfl;refine Wz ?_;refine ae.cy rfl rfl rfl ⟨_,rfl,_,fE,G8,fun j x hj h=>((lL j x hj (h.ext Jd)).ext hw).ay hG rfl,fun j x hj h=>((nM j x (h.ext Jd)).ext hw).grown hg (tK.ne hj lg),.inr ⟨_,rfl,rfl,X,H,cs',jR,?_⟩⟩
     have xS:pG c1 cpu k=⟨c1.Names,c1.bh,c1.cj,c1.Order,c1.ah,c1.au.set cpu at'⟩:=by
      unfold pG;rw [fK EK,Ja]
     simp only;rw [xS];exact DM
  ·have Lp:k2<cs[i].ah.n:=by omega
   obtain ⟨y2,IX⟩ : ∃ y2,s.aa[i].ah[k2]=y2:=⟨_,rfl⟩;have Od : ¬ 0<y2.ag:=fun h=>hA ⟨k2,Da,HL,by rw [IX];exact h⟩
   have Oe:∀ w',SX w' wb.heap.size r s cs→w'.cell? ((((cs[i].ah.A).getD default).add (k2*3)).add 1)=some (Value.int .i64 y2.ag):=fun w' h=>(h.each.get i jP hi).aR.sl.dA Lp (j:=1) (show (a8 (s.aa[i].ah[k2]'(by omega)))[1]?=some (Value.int .i64 y2.ag) by rw [IX];rfl)
   subst HL;repeat' (first|refine Wz ?_|((apply CW.aP mixed;(· kernel_rfl);rotate_left;intro w1 ab;replace hw:=Ext.trans hw ab;replace hb:=hb.ext ab;replace bu:=bu.ext ab;replace hS:=hS.ext ab;replace hJ:=hJ.ext ab;clear ab;rotate_right))|refine SW.st (ak rfl (Ax _ bu)) rfl ?_|refine SW.st (aY rfl rfl ((hS.row.sl.all ck))) rfl ?_|refine SW.st (ak rfl (hS.row.sl.dA ck (j:=5) (u := .slice cs[i].au.A cs[i].au.n cs[i].au.c) rfl)) rfl ?_|refine SW.st (ak rfl (gA _ hS)) rfl ?_|refine SW.st (ak rfl (hS.row.sl.dA ck (j:=4) (u := .slice cs[i].ah.A cs[i].ah.n cs[i].ah.c) rfl)) rfl ?_|refine SW.st (ak rfl (Oe _ hS)) rfl ?_|refine SW.bq rfl rfl (fun w1 ab=>(cF _ (Ext.trans hw ab))) ?_|(refine SW.st (iJ (vs:=[.pointer (some ⟨b8,0,none⟩)]) rfl) rfl ?_)|exact SW.bx rfl)
   all_goals try omega
   replace hw:=Ext.trans B9 hw;clear B9 cF hC;have hC:=hS.each.get i jP hi;have DL:=hS.row.sl.dA ck (j:=5) (u := .slice cs[i].au.A cs[i].au.n cs[i].au.c) rfl;refine SW.call rfl rfl (iP _ _ _ s.aa[i].ah _ hC.aR.sl _ [.pointer (some ⟨b8,0,none⟩)] (jU s.aa[i]) (fun x => .agg (a8 x).toArray) (fun x=>rfl) (fun x tR w1 kH=>qT x b8 _ cs[i].au.A cs[i].au.n cs[i].au.c s.aa[i].au w1 (bu.ext kH) (kH.cell DL) (hC.ba.sl.ext kH) (by omega)) (by omega)) fun v w9 aj hv => ?_
   subst hv;(replace hw:=Ext.trans hw aj;replace hb:=hb.ext aj;replace bu:=bu.ext aj;replace hS:=hS.ext aj;replace hJ:=hJ.ext aj);clear hC DL;obtain ⟨z,hz⟩ : ∃ z,idxOf (jU s.aa[i]) s.aa[i].ah=z:=⟨_,rfl⟩;rw [hz]
   have lM:fZ s.aa[i] cpu=z:=by
    unfold fZ;rw [ho,if_neg tW,hz]
   by_cases sQ : 0≤z
   ·obtain ⟨k,rfl⟩:=Int.eq_ofNat_of_zero_le sQ;obtain ⟨hk,fH⟩:=wj lM;have cb:k<cs[i].ah.n:=by omega
    obtain ⟨y,hy⟩ : ∃ y,s.aa[i].ah[k]=y:=⟨_,rfl⟩;have gY:∀ w',SX w' wb.heap.size r s cs→w'.cell? ((((cs[i].ah.A).getD default).add (k*3)).add 0)=some (Value.int .i64 y.At):=fun w' h=>(h.each.get i jP hi).aR.sl.dA cb (j:=0) (show (a8 (s.aa[i].ah[k]'(by omega)))[0]?=some (Value.int .i64 y.At) by rw [hy];rfl)
    refine Wz ?_;all_goals try omega
    refine CW.jf 14 14 (fun _=>True) mixed (by kernel_rfl) fun w1 ab aG => ?_
    replace hw:=Ext.trans hw ab;replace hb:=hb.ext ab;replace bu:=bu.ext ab;replace hS:=hS.ext ab;replace hJ:=hJ.ext ab;clear ab;refine SF.take 0 [] [] aG rfl (by kernel_rfl) (by kernel_rfl) (by kernel_rfl) ?_;repeat ((show SW _ _ _ _ (⟨_,Op.load _ _,_,_,_,none⟩::_) _ _;refine SW.st (ak rfl (Ax _ bu)) rfl ?_))
    refine SW.ai ?_;refine SF.take 1 [] [] aG rfl (by kernel_rfl) (by kernel_rfl) (by kernel_rfl) ?_;repeat ((show SW _ _ _ _ (⟨_,Op.nilCheck _,_,_,_,none⟩::_) _ _;refine SW.st (aJ rfl) rfl ?_))
    refine SW.ai ?_;refine SF.take 2 [] [] aG rfl (by kernel_rfl) (by kernel_rfl) (by kernel_rfl) ?_;repeat ((show SW _ _ _ _ (⟨_,Op.fieldAddr _ _ _,_,_,_,none⟩::_) _ _;refine SW.st (aC rfl) rfl ?_))
    refine SW.ai ?_;refine SF.take 3 [] [] aG rfl (by kernel_rfl) (by kernel_rfl) (by kernel_rfl) ?_;repeat ((show SW _ _ _ _ (⟨_,Op.load _ _,_,_,_,none⟩::_) _ _;refine SW.st (ak rfl (hS.row.sl.dA ck (j:=5) (u := .slice cs[i].au.A cs[i].au.n cs[i].au.c) rfl)) rfl ?_))
    refine SW.ai ?_;refine SF.take 4 [] [] aG rfl (by kernel_rfl) (by kernel_rfl) (by kernel_rfl) ?_;repeat (refine SW.pure rfl rfl ?_)
    refine SW.ai ?_;refine SF.take 5 [] [] aG rfl (by kernel_rfl) (by kernel_rfl) (by kernel_rfl) ?_;repeat ((show SW _ _ _ _ (⟨_,Op.load _ _,_,_,_,none⟩::_) _ _;refine SW.st (ak rfl (Ax _ bu)) rfl ?_))
    refine SW.ai ?_;refine SF.take 6 [] [] aG rfl (by kernel_rfl) (by kernel_rfl) (by kernel_rfl) ?_;repeat ((show SW _ _ _ _ (⟨_,Op.nilCheck _,_,_,_,none⟩::_) _ _;refine SW.st (aJ rfl) rfl ?_))
    refine SW.ai ?_;refine SF.take 7 [] [] aG rfl (by kernel_rfl) (by kernel_rfl) (by kernel_rfl) ?_;repeat ((show SW _ _ _ _ (⟨_,Op.fieldAddr _ _ _,_,_,_,none⟩::_) _ _;refine SW.st (aC rfl) rfl ?_))
    refine SW.ai ?_;refine SF.take 8 [] [] aG rfl (by kernel_rfl) (by kernel_rfl) (by kernel_rfl) ?_;repeat ((show SW _ _ _ _ (⟨_,Op.load _ _,_,_,_,none⟩::_) _ _;refine SW.st (ak rfl (hS.row.sl.dA ck (j:=4) (u := .slice cs[i].ah.A cs[i].ah.n cs[i].ah.c) rfl)) rfl ?_))
    refine SW.ai ?_;refine SF.take 9 [] [] aG rfl (by kernel_rfl) (by kernel_rfl) (by kernel_rfl) ?_;repeat (refine SW.pure rfl rfl ?_)
    refine SW.ai ?_;refine SF.take 10 [] [] aG rfl (by kernel_rfl) (by kernel_rfl) (by kernel_rfl) ?_;repeat ((show SW _ _ _ _ (⟨_,Op.indexAddr _ _ _,_,_,_,none⟩::_) _ _;refine SW.st (bk rfl rfl (by assumption) (by omega)) rfl ?_))
    refine SW.ai ?_;refine SF.take 11 [] [] aG rfl (by kernel_rfl) (by kernel_rfl) (by kernel_rfl) ?_;repeat ((show SW _ _ _ _ (⟨_,Op.fieldAddr _ _ _,_,_,_,none⟩::_) _ _;refine SW.st (aC rfl) rfl ?_))
    refine SW.ai ?_;refine SF.take 12 [] [] aG rfl (by kernel_rfl) (by kernel_rfl) (by kernel_rfl) ?_;repeat ((show SW _ _ _ _ (⟨_,Op.load _ _,_,_,_,none⟩::_) _ _;refine SW.st (ak rfl (gY _ hS)) rfl ?_))
    refine SW.ai ?_;refine SF.take 13 [] [] aG rfl (by kernel_rfl) (by kernel_rfl) (by kernel_rfl) ?_;repeat ((show SW _ _ _ _ (⟨_,Op.indexAddr _ _ _,_,_,_,none⟩::_) _ _;refine SW.st (bk rfl rfl (by assumption) (by omega)) rfl ?_))
    refine SW.ai ?_;refine SF.last rfl (by kernel_rfl) (by kernel_rfl) ?_;have hC:=hS.each.get i jP hi;refine SW.j8 cpu hC.ba rfl rfl Fm fun lP hO hg => ?_
    have hG:=hC.ba.gr hg;rw [← e0] at hS hJ;have DM:=hS.act hJ jP hi hO hg;have G8:=aF (hx.trans hw) hg (Nat.le_refl _) hC.ba.aL;replace hb:=hb.ay hG rfl;refine Wz ?_;refine ae.cy rfl rfl rfl ⟨_,rfl,_,.Aq lM,G8,fun j x hj h=>(h.ext hw).ay hG rfl,fun j x hj h=>(h.ext hw).grown hg (hJ.ne hj jP),.inr ⟨_,rfl,rfl,r.Words,r.Heap,cs,hb,?_⟩⟩
    have xS:pG s.aa[i] cpu k=⟨s.aa[i].Names,s.aa[i].bh,s.aa[i].cj,s.aa[i].Order,s.aa[i].ah,s.aa[i].au.set cpu y.At⟩:=by
     unfold pG;rw [fK hk,hy]
    simp only;rw [xS];exact DM
   ·have ru:fZ s.aa[i] cpu<0:=by omega
    refine Wz ?_;all_goals try omega
    refine SW.db rfl rfl (yd G wb _ b r s cs i cpu hf hi hM (tx.ext hw) (hx.trans hw) hb E5 hS (fun g hg=>⟨Nat.lt_of_lt_of_le (E6 g hg) hw.size,fun u hu=>hJ.sep u hu g hg⟩) Dc) fun v lP hv => ?_
    obtain ⟨⟨h',at',e⟩,hu,hv⟩:=hv;simp only at hv;rcases hv with ⟨he,rfl,kw⟩|⟨rfl,G9,rfl,kw⟩|⟨rfl,gu,rfl,kw,lL,ua,nM,X,H,cs',jR,mG,tK⟩
    ·refine Wz ?_;all_goals try omega
     exact ae.cy rfl rfl rfl ⟨_,rfl,_,.room ru hu he,(hx.trans hw).trans kw,fun j x hj h=>(h.ext hw).ext kw,fun j x hj h=>(h.ext hw).ext kw,.inl ⟨rfl,he,rfl⟩⟩
    ·refine Wz ?_;all_goals try omega
     exact ae.cy rfl rfl rfl ⟨_,rfl,_,.chain ru hu rfl G9,(hx.trans hw).trans kw,fun j x hj h=>(h.ext hw).ext kw,fun j x hj h=>(h.ext hw).ext kw,.inl ⟨rfl,by simp,rfl⟩⟩
    ·replace bu:=ua _ _ bu;obtain ⟨e3,e4⟩:=mG.rows;have lg:i<cs'.length:=by simp only [fL] at e3;omega
     obtain ⟨k,wq⟩ : ∃ k,iD s.aa[i] at'=k:=⟨_,rfl⟩
     obtain ⟨c1,tN⟩ : ∃ c1,ed s.aa[i] at'=c1:=⟨_,rfl⟩
     have rI:=kQ s.aa[i] at'
     have AI:c1.ah.length=s.aa[i].ah.length+1:=by
      rw [← tN];exact du _ rI _
     have EK:k<c1.ah.length:=by omega
     have Ja:c1.ah[k]=⟨at',s.aa[i].cj,16*at'⟩:=by
      subst tN;subst wq;exact tq rI EK
     have DN:c1.au=s.aa[i].au:=by rw [← tN];rfl
     have fE:=jZ.new ru hu rfl gu;rw [tN] at mG tK;rw [wq];simp only [tN,wq] at fE;have hC:=mG.get lg hi;simp only at hC;have q5:=hC.aR.len;have q6:=hC.ba.len;have cb:k<cs'[i].ah.n:=by omega
     have DO:cpu<cs'[i].au.n:=by rw [← q6,DN];exact oG
     have Jb:=hC.aR.sl.base;have Jc:=hC.ba.sl.base;have gY:∀ w',SX w' wb.heap.size ⟨X,H,r.aa⟩ (bQ (fL s (ez s.Words (16*at') s.aa[i].bh s.aa[i].cj)) i (h',c1)) cs'→w'.cell? ((((cs'[i].ah.A).getD default).add (k*3)).add 0)=some (Value.int .i64 at'):=fun w' h=>(h.get lg hi).aR.sl.dA cb (j:=0) (show (a8 (c1.ah[k]'(by omega)))[0]?=some (Value.int .i64 at') by rw [Ja];rfl)
     clear hC hS hJ hb;have Jd:=hw;have hw:=Ext.refl lP;refine Wz ?_;all_goals try omega
     refine CW.jf 14 14 (fun _=>True) mixed (by kernel_rfl) fun w1 ab aG => ?_
     replace hw:=Ext.trans hw ab;replace jR:=jR.ext ab;replace bu:=bu.ext ab;replace mG:=mG.ext ab;replace tK:=tK.ext ab;clear ab;refine SF.take 0 [] [] aG rfl (by kernel_rfl) (by kernel_rfl) (by kernel_rfl) ?_;repeat ((show SW _ _ _ _ (⟨_,Op.load _ _,_,_,_,none⟩::_) _ _;refine SW.st (ak rfl (Ax _ bu)) rfl ?_))
     refine SW.ai ?_;refine SF.take 1 [] [] aG rfl (by kernel_rfl) (by kernel_rfl) (by kernel_rfl) ?_;repeat ((show SW _ _ _ _ (⟨_,Op.nilCheck _,_,_,_,none⟩::_) _ _;refine SW.st (aJ rfl) rfl ?_))
     refine SW.ai ?_;refine SF.take 2 [] [] aG rfl (by kernel_rfl) (by kernel_rfl) (by kernel_rfl) ?_;repeat ((show SW _ _ _ _ (⟨_,Op.fieldAddr _ _ _,_,_,_,none⟩::_) _ _;refine SW.st (aC rfl) rfl ?_))
     refine SW.ai ?_;refine SF.take 3 [] [] aG rfl (by kernel_rfl) (by kernel_rfl) (by kernel_rfl) ?_;repeat ((show SW _ _ _ _ (⟨_,Op.load _ _,_,_,_,none⟩::_) _ _;refine SW.st (ak rfl (mG.row.sl.dA ck (j:=5) (u := .slice cs'[i].au.A cs'[i].au.n cs'[i].au.c) rfl)) rfl ?_))
     refine SW.ai ?_;refine SF.take 4 [] [] aG rfl (by kernel_rfl) (by kernel_rfl) (by kernel_rfl) ?_;repeat (refine SW.pure rfl rfl ?_)
     refine SW.ai ?_;refine SF.take 5 [] [] aG rfl (by kernel_rfl) (by kernel_rfl) (by kernel_rfl) ?_;repeat ((show SW _ _ _ _ (⟨_,Op.load _ _,_,_,_,none⟩::_) _ _;refine SW.st (ak rfl (Ax _ bu)) rfl ?_))
     refine SW.ai ?_;refine SF.take 6 [] [] aG rfl (by kernel_rfl) (by kernel_rfl) (by kernel_rfl) ?_;repeat ((show SW _ _ _ _ (⟨_,Op.nilCheck _,_,_,_,none⟩::_) _ _;refine SW.st (aJ rfl) rfl ?_))
     refine SW.ai ?_;refine SF.take 7 [] [] aG rfl (by kernel_rfl) (by kernel_rfl) (by kernel_rfl) ?_;repeat ((show SW _ _ _ _ (⟨_,Op.fieldAddr _ _ _,_,_,_,none⟩::_) _ _;refine SW.st (aC rfl) rfl ?_))
     refine SW.ai ?_;refine SF.take 8 [] [] aG rfl (by kernel_rfl) (by kernel_rfl) (by kernel_rfl) ?_;repeat ((show SW _ _ _ _ (⟨_,Op.load _ _,_,_,_,none⟩::_) _ _;refine SW.st (ak rfl (mG.row.sl.dA ck (j:=4) (u := .slice cs'[i].ah.A cs'[i].ah.n cs'[i].ah.c) rfl)) rfl ?_))
     refine SW.ai ?_;refine SF.take 9 [] [] aG rfl (by kernel_rfl) (by kernel_rfl) (by kernel_rfl) ?_;repeat (refine SW.pure rfl rfl ?_)
     refine SW.ai ?_;refine SF.take 10 [] [] aG rfl (by kernel_rfl) (by kernel_rfl) (by kernel_rfl) ?_;repeat ((show SW _ _ _ _ (⟨_,Op.indexAddr _ _ _,_,_,_,none⟩::_) _ _;refine SW.st (bk rfl rfl (by assumption) (by omega)) rfl ?_))
     refine SW.ai ?_;refine SF.take 11 [] [] aG rfl (by kernel_rfl) (by kernel_rfl) (by kernel_rfl) ?_;repeat ((show SW _ _ _ _ (⟨_,Op.fieldAddr _ _ _,_,_,_,none⟩::_) _ _;refine SW.st (aC rfl) rfl ?_))
     refine SW.ai ?_;refine SF.take 12 [] [] aG rfl (by kernel_rfl) (by kernel_rfl) (by kernel_rfl) ?_;repeat ((show SW _ _ _ _ (⟨_,Op.load _ _,_,_,_,none⟩::_) _ _;refine SW.st (ak rfl (gY _ mG)) rfl ?_))
     refine SW.ai ?_;refine SF.take 13 [] [] aG rfl (by kernel_rfl) (by kernel_rfl) (by kernel_rfl) ?_;repeat ((show SW _ _ _ _ (⟨_,Op.indexAddr _ _ _,_,_,_,none⟩::_) _ _;refine SW.st (bk rfl rfl (by assumption) (by omega)) rfl ?_))
     refine SW.ai ?_;refine SF.last rfl (by kernel_rfl) (by kernel_rfl) ?_;have hC:=mG.get lg hi;simp only at hC;refine SW.j8 cpu hC.ba rfl rfl DO fun vh hO hg => ?_
     have hG:=hC.ba.gr hg;have DM:=mG.act tK lg hi hO hg;have G8:=aF (kw.trans hw) hg (Nat.le_refl _) hC.ba.aL;replace jR:=jR.ay hG rfl;refine Wz ?_;refine ae.cy rfl rfl rfl ⟨_,rfl,_,fE,G8,fun j x hj h=>((lL j x hj (h.ext Jd)).ext hw).ay hG rfl,fun j x hj h=>((nM j x (h.ext Jd)).ext hw).grown hg (tK.ne hj lg),.inr ⟨_,rfl,rfl,X,H,cs',jR,?_⟩⟩
     have xS:pG c1 cpu k=⟨c1.Names,c1.bh,c1.cj,c1.Order,c1.ah,c1.au.set cpu at'⟩:=by
      unfold pG;rw [fK EK,Ja]
     simp only;rw [xS];exact DM
def Ha (G:Nat→Prop) (wb w0:World) (b:Nat) (r:dP) (s:aE) (i:Nat) (c:bg) (cpu:Nat) (v:Value) (w':World) : Prop :=
 ∃ m,jZ s c cpu m∧Ext wb w'∧(∀ j x,j≠b→aI w0 j 30 x→aI w' j 30 x)∧(∀ j x,G j→aI w0 j 3 x→aI w' j 3 x) ∧
  ((m.1=none∧m.2≠0∧v = .tuple #[.int .i64 0,.int .i64 m.2]) ∨
   ∃ M,m=(some M,0)∧v = .tuple #[.int .i64 (c7 M.c M.k).dg,.int .i64 0] ∧ ∃ X H cs',aI w' b 30 (aT ⟨X,H,r.aa⟩)∧SX w' wb.heap.size ⟨X,H,r.aa⟩ (bQ (fL s M.ws) i (M.h,fv M.c cpu M.k (M.ws.getD (c7 M.c M.k).dg.toNat 0))) cs'∧SJ G w' wb.heap.size ⟨X,H,r.aa⟩ (bQ (fL s M.ws) i (M.h,fv M.c cpu M.k (M.ws.getD (c7 M.c M.k).dg.toNat 0))) cs')
theorem nD.Ay {w w':World} {lo:Nat} {r:dP} {s:aE} {cs:List de} {i:Nat} {p:Heap×bg} {l':List Slab} (h:SX w lo r (bQ s i p) cs) (hi:i<cs.length) (ol:i<s.aa.length) (hO:Own w' lo 48 3 a8 cs[i].ah.A cs[i].ah.n cs[i].ah.c l') (hg:w.grownBy w' (aQ cs[i].ah.A cs[i].ah.c)) :
 SX w' lo r (bQ s i (p.1,⟨p.2.Names,p.2.bh,p.2.cj,p.2.Order,l',p.2.au⟩)) cs:=by
 have:=h.ET hi ol hO hg
 have e:cs.set i ⟨cs[i].Names,cs[i].bh,cs[i].cj,cs[i].Order,⟨cs[i].ah.A,cs[i].ah.n,cs[i].ah.c⟩,cs[i].au⟩=cs:=List.set_getElem_self hi
 rwa [e] at this
set_option maxHeartbeats 4000000 in
theorem Fa (G:Nat→Prop) (wb w0:World) (b:Nat) (r:dP) (s:aE) (cs:List de) (i cpu:Nat) (hf:s.gL) (hi:i<s.aa.length) (hM:mi s s.aa[i]) (tx:pe w0)
 (hx:Ext wb w0) (hb:aI w0 b 30 (aT r)) (E5:wb.heap.size≤b) (hS:SX w0 wb.heap.size r s cs) (hJ:SJ G w0 wb.heap.size r s cs) (E6:∀ g,G g→g<w0.heap.size) (oG:cpu<s.aa[i].au.length) (Dc:(s.aa[i].ah.length+1)*24≤140737488355328) :
 il Tryz.prog 15 [.pointer (some ⟨b,0,none⟩),.int .i64 (i:Int),.int .i64 (cpu:Int)] w0 (Ha G wb w0 b r s i s.aa[i] cpu):=by
 refine dC Tryz.func15 rfl Tryz.ntmps15 rfl ?_;have hm:=hM.most;have Lm:=hS.row.sl.base;obtain ⟨e1,e2⟩:=hS.len;have ck:i<r.aa.n:=by omega
 refine Wz ?_;refine SW.db rfl rfl (zK G wb _ b r s cs i cpu hf hi hM tx hx hb E5 hS hJ E6 oG Dc) fun v w1 hv => ?_
 obtain ⟨m,fE,kH,lL,nM,hv⟩:=hv;rcases hv with ⟨hn,he,rfl⟩|⟨M,rfl,rfl,X,H,cs',aB,EU,Of⟩
 ·have hw:=Ext.refl w1;refine Wz ?_;all_goals try omega
  exact ae.cy rfl rfl rfl ⟨_,rfl,m,fE,kH,lL,nM,.inl ⟨hn,he,rfl⟩⟩
 ·have iT:=fE.Fp hM M rfl;obtain ⟨e3,e4⟩:=EU.rows;simp only [fL] at e3;have lg:i<cs'.length:=by omega
  obtain ⟨k,hk⟩ : ∃ k,M.k=k:=⟨_,rfl⟩;have di:=iT.hk;have Je:=iT.first
  have C9:=iT.free;have HC:=iT.len;obtain ⟨y,hy⟩ : ∃ y,M.c.ah[M.k]=y:=⟨_,rfl⟩;have HM:c7 M.c M.k=y:=by rw [fK di,hy]
  rw [hy] at Je C9;obtain ⟨an,Hb⟩:=Int.eq_ofNat_of_zero_le Je.1;have hC:=EU.get lg hi;simp only [pG] at hC;have q1:M.c.ah.length=cs'[i].ah.n:=hC.aR.len
  have q2:=EU.words.len;have OX:X.n=M.ws.length:=q2.symm
  have nC:M.k<cs'[i].ah.n:=by omega
  have JT:=hC.aR.sl.base;have OY:=EU.words.sl.base;have g2:=hC.aR.sl.dA nC (j:=2) (show (a8 (M.c.ah[M.k]'(by omega)))[2]?=some (Value.int .i64 (an:Int)) by rw [hy,← Hb];rfl);have Hc:an<M.ws.length:=by omega
  have Hd:an<X.n:=by omega
  have gW:=EU.words.sl.one Hd (u := .int .i64 M.ws[an]) rfl;have hw:=Ext.refl w1;repeat' (first|refine Wz ?_|refine SW.st (ak rfl (EU.row.sl.dA ck (j:=4) (u := .slice cs'[i].ah.A cs'[i].ah.n cs'[i].ah.c) rfl)) rfl ?_|refine SW.st (ak rfl g2) rfl ?_|refine SW.st (ak rfl gW) rfl ?_)
  all_goals try omega
  refine SW.ig M.k 2 ⟨y.At,y.ag,M.ws[an]⟩ hC.aR rfl rfl rfl nC (by decide) rfl (by simp only [hy];rfl) fun w8 Mz Av => ?_
  have g8:=Mz.sl.dA nC (j:=1) (show (a8 ((M.c.ah.set M.k ⟨y.At,y.ag,M.ws[an]⟩)[M.k]'(by rw [List.length_set];exact di)))[1]?=some (Value.int .i64 y.ag) by rw [List.getElem_set_self];rfl);repeat' (first|refine Wz ?_|refine SW.st (ak rfl g8) rfl ?_)
  refine SW.ig M.k 1 ⟨y.At,y.ag-1,M.ws[an]⟩ Mz rfl rfl rfl nC (by decide) rfl (by simp only [List.getElem_set_self];rfl) fun w9 MA Og => ?_
  have wT:=bP Av Og (.inl rfl);rw [List.set_set] at MA;have JV:=hC.aR.gr wT;have MB:=EU.Ay lg hi MA wT;have Oh:=aF kH wT (Nat.le_refl _) hC.aR.aL;replace aB:=aB.ay JV rfl;refine Wz ?_;refine ae.cy rfl rfl rfl ⟨_,rfl,_,fE,Oh,fun j x hj h=>(lL j x hj h).ay JV rfl,fun j x hj h=>(nM j x hj h).ay JV rfl,.inr ⟨M,rfl,by rw [HM,Hb],X,H,cs',aB,?_⟩⟩
  have xS:fv M.c cpu M.k (M.ws.getD (c7 M.c M.k).dg.toNat 0)=⟨M.c.Names,M.c.bh,M.c.cj,M.c.Order,M.c.ah.set M.k ⟨y.At,y.ag-1,M.ws[an]⟩,M.c.au.set cpu y.At⟩:=by
   unfold fv;rw [HM,Hb];simp [Hc]
  rw [xS];simp only [pG,HM] at MB;exact ⟨MB,(Of.ay JV rfl).rows rfl fun u hu=>⟨u,hu,rfl⟩⟩
open Go.RowKit
set_option maxHeartbeats 4000000 in
theorem mw (r:dP) (s:aE) (w:World) (hr:rG w r s) (hs:s.small) :
 bt Tryz.prog 5 [.agg (aT r).toArray] w fun v w' => ∃ q zr,v = .agg (aT q).toArray∧SX w' w.heap.size q s zr∧SI w' w.heap.size q s zr:=by
 refine aM Tryz.func5 rfl Tryz.ntmps5 rfl ?_;refine CW.seq (CW.region (SW.box rfl rfl fun b1 w1 hw ik aB => ?_));refine SW.alloc rfl fun b2 w2 cJ im aK => ?_
 have pQ:w.heap.size≤b2:=Nat.le_trans hw.size im
 have yJ:b2≠b1:=by have:=aB.lt;omega
 (replace hw:=Ext.trans hw cJ;replace aB:=aB.ext cJ);obtain ⟨cs,hc⟩:=hr.dW;have HC:=hr.words.len;have s1:=hs.words;have s3:=hs.dW;obtain ⟨c1,c2⟩:=hc.len;refine Wz ?_
 obtain ⟨K,hK⟩ : ∃ K:Env→World→Prop,K=fun L' w' => ∃ X c1 G b3 m1 m2,eE L' [(1,.pointer (some ⟨b1,0,none⟩)),(2,.pointer (some ⟨b2,0,none⟩)),(3,.pointer (some ⟨b3,0,none⟩))]∧Ext w w'∧aI w' b1 30 (aT r)∧aI w' b2 30 (aT .zero) ∧
  aI w' b3 30 (aT ⟨⟨X,r.Words.n,c1⟩,G,.nil⟩)∧Own w' w.heap.size 3 1 bf X r.Words.n c1 s.Words∧fi w' m1 m2 G s.Heap∧(w.heap.size≤m1∧m1≤m2∧m2≤w'.heap.size ∧ ∀ g,aQ X c1=some g→g<m1)∧w.heap.size≤b3∧b1≠b3∧b2≠b3:=⟨_,rfl⟩
 refine CW.cut K ?_ ?_
 ·refine CW.any 8 mixed (cq (by kernel_rfl)) rfl fun w1 ab aG => ?_
  replace hw:=Ext.trans hw ab;replace aB:=aB.ext ab;replace aK:=aK.ext ab;clear ab;refine Wa ?_;refine SA.take 4 aG rfl (by kernel_rfl) (by kernel_rfl) rfl ?_;repeat ((show SW _ _ _ _ (⟨_,Op.load _ _,_,_,_,none⟩::_) _ _;refine SW.st (aY rfl rfl ((iq aB))) rfl ?_))
  refine SW.ai ?_;refine SA.two 2 7 rfl rfl (by kernel_rfl) rfl rfl ?_ ?_
  ·refine SW.call rfl rfl (gw _ _ _ _ _ (hr.words.ext hw) (by omega)) fun v w4 aj hv => ?_
   obtain ⟨X,c4,rfl,hX⟩:=hv;replace hX:=hX.low hw.size;replace hw:=Ext.trans hw aj;replace aB:=aB.ext aj;replace aK:=aK.ext aj;try replace ar:=ar.ext aj
   refine SW.nil (ae.sa aj ?_);refine SA.two 5 7 rfl rfl (by kernel_rfl) rfl rfl ?_ ?_
   ·refine SW.call rfl rfl (jX _ _ _ (hr.heap.ext hw) hs.heap) fun v w4 aj hv => ?_
    obtain ⟨G,rfl,hY⟩:=hv;have DJ:∃ m1 m2,w.heap.size≤m1∧m1≤m2∧m2≤w4.heap.size∧(∀ g,aQ X c4=some g→g<m1)∧fi w4 m1 m2 G s.Heap:=⟨_,_,hw.size,aj.size,Nat.le_refl _,hX.lt_size,hY.kO⟩
    clear hY;obtain ⟨m1,m2,qq,lf,pB,zG,hY⟩:=DJ;replace hX:=hX.ext aj;replace hw:=Ext.trans hw aj;replace aB:=aB.ext aj;replace aK:=aK.ext aj;try replace ar:=ar.ext aj
    refine SW.nil (ae.sa aj ?_);refine Wa ?_;refine SA.one 7 rfl (by kernel_rfl) rfl ?_;refine SW.alloc rfl fun b3 w4 aj bM ar => ?_
    have cr:w.heap.size≤b3:=Nat.le_trans hw.size bM
    try replace pB:=Nat.le_trans pB aj.size
    have ef:b1≠b3:=by have:=aB.lt;omega
    have ey:b2≠b3:=by have:=aK.lt;omega
    replace hw:=Ext.trans hw aj;replace aB:=aB.ext aj;replace aK:=aK.ext aj;try replace hX:=hX.ext aj
    try replace hY:=hY.ext aj
    refine SW.nil (ae.sa aj ?_);refine SA.done (by kernel_rfl) ?_;skip;refine SW.ap ar rfl rfl rfl rfl (dH ⟨⟨X,r.Words.n,c4⟩,G,.nil⟩) fun w5 bL hg => ?_
    have hG:=ar.gr hg;have wu:=Nat.le_trans pB hg.size;replace hw:=hw.own cr hg;(replace hX:=hX.ay hG rfl;replace hY:=hY.ay hG rfl);replace aB:=aB.grown hg (by simpa using ef);replace aK:=aK.grown hg (by simpa using ey);refine Wz ?_;exact ae.cut (K:=K) (by rw [hK];exact ⟨X,c4,G,b3,m1,m2,⟨rfl,rfl,rfl,trivial⟩,hw,aB,aK,bL,hX,hY,⟨qq,lf,wu,zG⟩,cr,ef,ey⟩)
   ·refine SW.alloc rfl fun b3 w4 aj bM ar => ?_
    have cr:w.heap.size≤b3:=Nat.le_trans hw.size bM
    try replace pB:=Nat.le_trans pB aj.size
    have ef:b1≠b3:=by have:=aB.lt;omega
    have ey:b2≠b3:=by have:=aK.lt;omega
    replace hw:=Ext.trans hw aj;replace aB:=aB.ext aj;replace aK:=aK.ext aj;try replace hX:=hX.ext aj
    try replace hY:=hY.ext aj
    refine SW.nil (ae.sa aj ?_);refine SA.one 5 rfl (by kernel_rfl) rfl ?_;refine SW.call rfl rfl (jX _ _ _ (hr.heap.ext hw) hs.heap) fun v w4 aj hv => ?_
    obtain ⟨G,rfl,hY⟩:=hv;have DJ:∃ m1 m2,w.heap.size≤m1∧m1≤m2∧m2≤w4.heap.size∧(∀ g,aQ X c4=some g→g<m1)∧fi w4 m1 m2 G s.Heap:=⟨_,_,hw.size,aj.size,Nat.le_refl _,hX.lt_size,hY.kO⟩
    clear hY;obtain ⟨m1,m2,qq,lf,pB,zG,hY⟩:=DJ;replace hX:=hX.ext aj;replace hw:=Ext.trans hw aj;replace aB:=aB.ext aj;replace aK:=aK.ext aj;try replace ar:=ar.ext aj
    refine SW.nil (ae.sa aj ?_);refine Wa ?_;refine SA.done (by kernel_rfl) ?_;skip;refine SW.ap ar rfl rfl rfl rfl (dH ⟨⟨X,r.Words.n,c4⟩,G,.nil⟩) fun w5 bL hg => ?_
    have hG:=ar.gr hg;have wu:=Nat.le_trans pB hg.size;replace hw:=hw.own cr hg;(replace hX:=hX.ay hG rfl;replace hY:=hY.ay hG rfl);replace aB:=aB.grown hg (by simpa using ef);replace aK:=aK.grown hg (by simpa using ey);refine Wz ?_;exact ae.cut (K:=K) (by rw [hK];exact ⟨X,c4,G,b3,m1,m2,⟨rfl,rfl,rfl,trivial⟩,hw,aB,aK,bL,hX,hY,⟨qq,lf,wu,zG⟩,cr,ef,ey⟩)
  ·refine SW.alloc rfl fun b3 w4 aj bM ar => ?_
   have cr:w.heap.size≤b3:=Nat.le_trans hw.size bM
   try replace pB:=Nat.le_trans pB aj.size
   have ef:b1≠b3:=by have:=aB.lt;omega
   have ey:b2≠b3:=by have:=aK.lt;omega
   replace hw:=Ext.trans hw aj;replace aB:=aB.ext aj;replace aK:=aK.ext aj;try replace hX:=hX.ext aj
   try replace hY:=hY.ext aj
   refine SW.nil (ae.sa aj ?_);refine SA.one 2 rfl (by kernel_rfl) rfl ?_;refine SW.call rfl rfl (gw _ _ _ _ _ (hr.words.ext hw) (by omega)) fun v w4 aj hv => ?_
   obtain ⟨X,c4,rfl,hX⟩:=hv;replace hX:=hX.low hw.size;replace hw:=Ext.trans hw aj;replace aB:=aB.ext aj;replace aK:=aK.ext aj;try replace ar:=ar.ext aj
   refine SW.nil (ae.sa aj ?_);refine SA.one 5 rfl (by kernel_rfl) rfl ?_;refine SW.call rfl rfl (jX _ _ _ (hr.heap.ext hw) hs.heap) fun v w4 aj hv => ?_
   obtain ⟨G,rfl,hY⟩:=hv;have DJ:∃ m1 m2,w.heap.size≤m1∧m1≤m2∧m2≤w4.heap.size∧(∀ g,aQ X c4=some g→g<m1)∧fi w4 m1 m2 G s.Heap:=⟨_,_,hw.size,aj.size,Nat.le_refl _,hX.lt_size,hY.kO⟩
   clear hY;obtain ⟨m1,m2,qq,lf,pB,zG,hY⟩:=DJ;replace hX:=hX.ext aj;replace hw:=Ext.trans hw aj;replace aB:=aB.ext aj;replace aK:=aK.ext aj;try replace ar:=ar.ext aj
   refine SW.nil (ae.sa aj ?_);refine Wa ?_;refine SA.done (by kernel_rfl) ?_;skip;refine SW.ap ar rfl rfl rfl rfl (dH ⟨⟨X,r.Words.n,c4⟩,G,.nil⟩) fun w5 bL hg => ?_
   have hG:=ar.gr hg;have wu:=Nat.le_trans pB hg.size;replace hw:=hw.own cr hg;(replace hX:=hX.ay hG rfl;replace hY:=hY.ay hG rfl);replace aB:=aB.grown hg (by simpa using ef);replace aK:=aK.grown hg (by simpa using ey);refine Wz ?_;exact ae.cut (K:=K) (by rw [hK];exact ⟨X,c4,G,b3,m1,m2,⟨rfl,rfl,rfl,trivial⟩,hw,aB,aK,bL,hX,hY,⟨qq,lf,wu,zG⟩,cr,ef,ey⟩)
 ·clear aB aK hw;subst hK;rintro L' w' ⟨X,c4,G,b3,m1,m2,fe,hw,aB,aK,ar,hX,hY,⟨qq,lf,wu,zG⟩,cr,ef,ey⟩
  refine ae.sub fe ?_;refine Wz ?_
  refine CW.loop (fun s:Nat×Option Addr×Nat×List de=>[(1,.pointer (some ⟨b1,0,none⟩)),(2,.pointer (some ⟨b2,0,none⟩)),(3,.pointer (some ⟨b3,0,none⟩)),(4,.int .i64 (s.1:Int))])
   (fun t w'=>t.1≤r.aa.n∧m2≤w'.heap.size∧Ext w w'∧aI w' b1 30 (aT r)∧aI w' b2 30 (aT .zero)∧aI w' b3 30 (aT ⟨⟨X,r.Words.n,c4⟩,G,⟨t.2.1,t.1,t.2.2.1⟩⟩)∧Own w' w.heap.size 3 1 bf X r.Words.n c4 s.Words∧fi w' m1 m2 G s.Heap ∧
     eR w' m2 ⟨t.2.1,t.1,t.2.2.1⟩ t.2.2.2 (s.aa.take t.1)∧vI ⟨X,r.Words.n,c4⟩ t.2.2.2) (fun t=>r.aa.n-t.1) (0,none,0,[]) ⟨rfl,rfl,rfl,rfl,trivial⟩ ⟨by omega,wu,hw,aB,aK,ar,hX,hY,eR.nil _ _,vI.nil _⟩ ?_
  clear aB aK ar hX hY hw fe;rintro ⟨k,A,c,zr⟩ w' ⟨hk,wu,hw,aB,aK,ar,hX,hY,hO,xi⟩
  simp only at hk ar hO xi ⊢;have hA:=hc.row.base;by_cases cb:k<r.aa.n
  ·have ua:k<cs.length:=by omega
   have nC:k<s.aa.length:=by omega
   have gu:=hc.each.get k ua nC;have q:=hs.each _ (List.getElem_mem nC);have q1:=gu.names.len;have q2:=gu.aR.len;have q3:=gu.ba.len;have q4:=q.names;have q5:=q.aR;have q6:=q.ba;have zH:=hO.row.lt_size;repeat' (first|refine Wz ?_|refine SW.st (aH hw rfl rfl ((hc.row.all cb))) rfl ?_)
   refine SW.alloc rfl fun b5 w1 ab iC cg => ?_
   skip;refine SW.ap cg rfl rfl rfl rfl (sB _) fun w2 gl hg => ?_
   have aj:=ab.own iC hg;have nP:w.heap.size≤b5:=Nat.le_trans hw.size iC
   replace hw:=Ext.trans hw aj;replace aB:=aB.ext aj;replace aK:=aK.ext aj;replace ar:=ar.ext aj;replace hX:=hX.ext aj;replace hY:=hY.ext aj;replace hO:=hO.ext aj;replace cg:=gl;clear gl ab hg aj;have DK:m2≤b5:=Nat.le_trans wu iC
   refine Wz ?_;have MC:Ext w w2:=hw
   refine CW.loop (fun t:Nat×Option Addr×Nat=>[(1,.pointer (some ⟨b1,0,none⟩)),(2,.pointer (some ⟨b2,0,none⟩)),(3,.pointer (some ⟨b3,0,none⟩)),(4,.int .i64 (k:Int)),(5,.pointer (some ⟨b5,0,none⟩)),(6,.slice t.2.1 t.1 t.2.2),(7,.int .i64 (t.1:Int))])
    (fun t w'=>t.1≤cs[k].Names.n∧Ext w2 w'∧Own w' w2.heap.size 9 1 encStr t.2.1 t.1 t.2.2 (s.aa[k].Names.take t.1)) (fun t=>cs[k].Names.n-t.1) (0,none,0) ⟨rfl,rfl,rfl,rfl,rfl,rfl,rfl,trivial⟩ ⟨by omega,Ext.refl _,by simpa using Own.dS _ _ _ _ _ _⟩ ?_
   clear hw;rintro ⟨j,B,d⟩ w3 ⟨hj,hw,hB⟩
   simp only at hj hB ⊢;have rN:=gu.names.base;by_cases jo:j<cs[k].Names.n
   ·repeat' (first|refine Wz ?_|refine SW.st (ao hw rfl (cg.cell (i:=0) (v := .slice cs[k].Names.A cs[k].Names.n cs[k].Names.c) rfl)) rfl ?_|refine SW.st (ao hw rfl ((gu.names.ext MC).one jo rfl)) rfl ?_)
    refine SW.bD rfl rfl rfl rfl rfl fun b w1 ab hb He => ?_
    replace hw:=Ext.trans hw ab;replace hB:=hB.ext ab;refine SW.append hB (aI.lj (enc:=encStr) He) hw.size rfl rfl rfl (by omega) (by omega) fun A2 c2 w4 gi hg => ?_
    replace hw:=aF hw hg (Nat.le_refl _) hB.aL;refine Wz ?_;refine ae.again (j+1,A2,c2) ⟨rfl,rfl,rfl,rfl,rfl,rfl,rfl,trivial⟩ (by simp only;omega) ⟨by simp only;omega,hw,?_⟩;rw [List.take_succ_eq_append_getElem (by omega)];exact gi
   ·obtain rfl:j=cs[k].Names.n:=by omega
    rw [List.take_of_length_le (by omega)] at hB;repeat' (first|refine Wz ?_|refine SW.st (ao hw rfl (cg.cell (i:=0) (v := .slice cs[k].Names.A cs[k].Names.n cs[k].Names.c) rfl)) rfl ?_)
    have wx:=hw;have BY:=hO.L5 (b:=⟨B,cs[k].Names.n,d⟩) hB.aL;replace hB:=hB.low (Nat.le_trans DK (Nat.le_of_lt cg.lt));replace hw:=MC;(replace hw:=Ext.trans hw wx;replace aB:=aB.ext wx;replace aK:=aK.ext wx;replace ar:=ar.ext wx;replace cg:=cg.ext wx;replace hX:=hX.ext wx;replace hY:=hY.ext wx;replace hO:=hO.ext wx);have MD:Ext w w3:=hw
    refine CW.loop (fun t:Nat×Option Addr×Nat=>[(1,.pointer (some ⟨b1,0,none⟩)),(2,.pointer (some ⟨b2,0,none⟩)),(3,.pointer (some ⟨b3,0,none⟩)),(4,.int .i64 (k:Int)),(5,.pointer (some ⟨b5,0,none⟩)),(6,.slice B cs[k].Names.n d),(8,.slice t.2.1 t.1 t.2.2),(9,.int .i64 (t.1:Int))])
     (fun t w'=>t.1≤cs[k].ah.n∧Ext w3 w'∧Own w' w3.heap.size 48 3 a8 t.2.1 t.1 t.2.2 (s.aa[k].ah.take t.1)) (fun t=>cs[k].ah.n-t.1) (0,none,0) ⟨rfl,rfl,rfl,rfl,rfl,rfl,rfl,rfl,trivial⟩ ⟨by omega,Ext.refl _,by simpa using Own.dS _ _ _ _ _ _⟩ ?_
    clear hw wx;rintro ⟨j,M,m⟩ w4 ⟨hj,hw,hM⟩
    simp only at hj hM ⊢;have OZ:=gu.aR.base;by_cases jo:j<cs[k].ah.n
    ·repeat' (first|refine Wz ?_|refine SW.st (ao hw rfl (cg.cell (i:=4) (v := .slice cs[k].ah.A cs[k].ah.n cs[k].ah.c) rfl)) rfl ?_|refine SW.st (aH hw rfl rfl (((gu.aR.ext MD).all jo))) rfl ?_)
     refine SW.bD rfl rfl rfl rfl rfl fun b w1 ab hb He => ?_
     replace hw:=Ext.trans hw ab;replace hM:=hM.ext ab;refine SW.append hM (aI.lj (enc:=a8) He) hw.size rfl rfl rfl (by omega) (by omega) fun A2 c2 w5 gi hg => ?_
     replace hw:=aF hw hg (Nat.le_refl _) hM.aL;refine Wz ?_;refine ae.again (j+1,A2,c2) ⟨rfl,rfl,rfl,rfl,rfl,rfl,rfl,rfl,trivial⟩ (by simp only;omega) ⟨by simp only;omega,hw,?_⟩;rw [List.take_succ_eq_append_getElem (by omega)];exact gi
    ·obtain rfl:j=cs[k].ah.n:=by omega
     rw [List.take_of_length_le (by omega)] at hM;repeat' (first|refine Wz ?_|refine SW.st (ao hw rfl (cg.cell (i:=4) (v := .slice cs[k].ah.A cs[k].ah.n cs[k].ah.c) rfl)) rfl ?_)
     have wx:=hw;have Lq:=hO.L6 (b:=⟨M,cs[k].ah.n,m⟩) hM.aL;replace hM:=hM.low (Nat.le_trans DK (Nat.le_of_lt cg.lt));replace hw:=MD;(replace hw:=Ext.trans hw wx;replace aB:=aB.ext wx;replace aK:=aK.ext wx;replace ar:=ar.ext wx;replace cg:=cg.ext wx;replace hX:=hX.ext wx;replace hY:=hY.ext wx;replace hO:=hO.ext wx;replace hB:=hB.ext wx);refine SW.bB (i:=0) cg rfl rfl rfl rfl fun w6 gl hg => ?_
     have hG:=cg.gr hg;replace hw:=hw.own nP hg;replace hO:=hO.cV cg hg zH iC;(replace aB:=aB.ay hG rfl;replace aK:=aK.ay hG rfl;replace ar:=ar.ay hG rfl;replace hX:=hX.ay hG rfl;replace hY:=hY.ay hG rfl;replace hB:=hB.ay hG rfl;replace hM:=hM.ay hG rfl);replace cg:=gl;clear gl hg hG;refine Wz ?_;refine SW.bB (i:=4) cg rfl rfl rfl rfl fun w6 gl hg => ?_
     have hG:=cg.gr hg;replace hw:=hw.own nP hg;replace hO:=hO.cV cg hg zH iC;(replace aB:=aB.ay hG rfl;replace aK:=aK.ay hG rfl;replace ar:=ar.ay hG rfl;replace hX:=hX.ay hG rfl;replace hY:=hY.ay hG rfl;replace hB:=hB.ay hG rfl;replace hM:=hM.ay hG rfl);replace cg:=gl;clear gl hg hG;refine Wz ?_;refine SW.call rfl rfl (gw _ _ _ _ _ (gu.ba.ext hw) (by omega)) fun v w7 aj hv => ?_
     obtain ⟨Q,q7,rfl,hQ⟩:=hv;have qM:=hO.L7 (b:=⟨Q,cs[k].au.n,q7⟩) hQ.aL;have D9:=j5 (a:=⟨X,r.Words.n,c4⟩) (b:=⟨Q,cs[k].au.n,q7⟩) hX hQ.aL;replace hQ:=hQ.low (Nat.le_trans DK (Nat.le_of_lt cg.lt));(replace hw:=Ext.trans hw aj;replace aB:=aB.ext aj;replace aK:=aK.ext aj;replace ar:=ar.ext aj;replace cg:=cg.ext aj;replace hX:=hX.ext aj;replace hY:=hY.ext aj;replace hO:=hO.ext aj;replace hB:=hB.ext aj;replace hM:=hM.ext aj);refine Wz ?_;refine SW.bB (i:=5) cg rfl rfl rfl rfl fun w6 gl hg => ?_
     have hG:=cg.gr hg;replace hw:=hw.own nP hg;replace hO:=hO.cV cg hg zH iC;(replace aB:=aB.ay hG rfl;replace aK:=aK.ay hG rfl;replace ar:=ar.ay hG rfl;replace hX:=hX.ay hG rfl;replace hY:=hY.ay hG rfl;replace hB:=hB.ay hG rfl;replace hM:=hM.ay hG rfl;replace hQ:=hQ.ay hG rfl);replace cg:=gl;clear gl hg hG;refine Wz ?_;refine SW.bD rfl rfl rfl rfl rfl fun b w6 aj hb He => ?_
     (replace hw:=Ext.trans hw aj;replace aB:=aB.ext aj;replace aK:=aK.ext aj;replace ar:=ar.ext aj;replace hX:=hX.ext aj;replace hY:=hY.ext aj;replace hO:=hO.ext aj;replace hB:=hB.ext aj;replace hM:=hM.ext aj;replace hQ:=hQ.ext aj);refine SW.append hO.row (aI.lj (enc:=df) (x:=⟨⟨B,_,d⟩,cs[k].bh,cs[k].cj,cs[k].Order,⟨M,_,m⟩,⟨Q,_,q7⟩⟩) He) (Nat.le_trans DK (Nat.le_trans (Nat.le_of_lt cg.lt) aj.size)) rfl rfl rfl (by simp only;omega) (by simp only;omega) fun A2 c2 w5 gi hg => ?_
     have hG:=hO.row.gr hg;have Ln:=Nat.le_trans (Nat.le_trans DK (Nat.le_trans (Nat.le_of_lt cg.lt) aj.size)) hg.size;replace hw:=aF hw hg (Nat.le_trans qq lf) hO.row.aL;(replace aB:=aB.ay hG rfl;replace aK:=aK.ay hG rfl;replace ar:=ar.ay hG rfl;replace hX:=hX.ay hG rfl;replace hY:=hY.ay hG rfl;replace hB:=hB.ay hG rfl;replace hM:=hM.ay hG rfl;replace hQ:=hQ.ay hG rfl);have hE:=hO.each.mono fun _ _ h=>h.ay hG rfl
     refine Wz ?_;refine SW.bB (i:=6) ar rfl rfl rfl rfl fun w6 cU hg => ?_
     have hG:=ar.gr hg;replace hw:=hw.own cr hg;replace aB:=aB.grown hg (by simpa using ef);replace aK:=aK.grown hg (by simpa using ey);(replace hX:=hX.ay hG rfl;replace hY:=hY.ay hG rfl;replace hB:=hB.ay hG rfl;replace hM:=hM.ay hG rfl;replace hQ:=hQ.ay hG rfl;replace gi:=gi.ay hG rfl);replace hE:=hE.mono fun _ _ h=>h.ay hG rfl
     refine Wz ?_;refine ae.again (k+1,A2,c2,zr++[⟨⟨B,_,d⟩,cs[k].bh,cs[k].cj,cs[k].Order,⟨M,_,m⟩,⟨Q,_,q7⟩⟩]) ⟨rfl,rfl,rfl,rfl,trivial⟩ (by simp only;omega) ⟨by simp only;omega,Nat.le_trans Ln hg.size,hw,aB,aK,cU,hX,hY,⟨gi,?_⟩,xi.snoc (fun u hu=>⟨BY u hu,Lq u hu,qM u hu⟩) D9⟩;rw [List.take_succ_eq_append_getElem (by omega)];exact hE.snoc ⟨gu.size,gu.fk,gu.order,hB,hM,hQ⟩
  ·obtain rfl:k=r.aa.n:=by omega
   rw [List.take_of_length_le (by omega)] at hO;refine Wz ?_;refine SW.ap aK rfl rfl rfl rfl (dH _) fun w5 bL hg => ?_
   have hG:=aK.gr hg;replace hw:=hw.own pQ hg;(replace hX:=hX.ay hG rfl;replace hY:=hY.ay hG rfl;replace hO:=hO.ay hG rfl);refine Wz ?_;exact ae.mn rfl rfl bL rfl ⟨_,rfl,hw,⟨_,G,_⟩,zr,rfl,⟨hX,hY.own.low qq,hO.row.low (Nat.le_trans qq lf),hO.each.mono fun _ _ h=>h.low (Nat.le_trans qq lf),xi.pair⟩,⟨m1,m2,qq,lf,zG,hY,hO.each⟩⟩
open Go.RowKit
inductive nr (p:Block→Bool) (l:List Block) : Block×Bool→Prop
 | hit {k:Nat} (hk:k<l.length) (hp:p l[k]=true) (hf:∀ (j:Nat) (hj:j<l.length),j<k→p l[j]=false) : nr p l (l[k],true)
 | vB (hf:∀ (j:Nat) (hj:j<l.length),p l[j]=false) : nr p l (⟨0,0,0⟩,false)
theorem nr.Hf {p:Block→Bool} {l:List Block} {u:Block×Bool} (h:nr p l u) {k:Nat} (hk:k<l.length) (hp:p l[k]=true) (hf:∀ (j:Nat) (hj:j<l.length),j<k→p l[j]=false) : u=(l[k],true):=by
 cases h with
 | @hit k' oV Ac tX =>
   rcases Nat.lt_trichotomy k k' with h|h|h
   ·rw [tX k hk h] at hp;cases hp
   ·subst h;rfl
   ·rw [hf k' oV h] at Ac;cases Ac
 | vB tX=>rw [tX k hk] at hp;cases hp
theorem nr.Fb {p:Block→Bool} {l:List Block} {u:Block×Bool} (h:nr p l u) (ha:l.any p=false) : u=(⟨0,0,0⟩,false):=by
 cases h with
 | @hit k' oV Ac tX =>
   have:=List.any_eq_false.1 ha _ (List.getElem_mem oV)
   exact absurd Ac (by simpa using this)
 | vB=>rfl
set_option maxHeartbeats 2000000 in
theorem wy (A:Option Addr) (n c:Nat) (l:List Block) (o t:Int) (w:World) (hl:Sl w 3 az A n l) (hn:n≤9223372036854775807) (hs:∀ (i j:Nat) (hj:j<l.length) (kX:i<j),(l[i]'(by omega)).At≤l[j].At) :
 bt Tryz.prog 118 [.slice A n c,.int .i64 o,.int .i64 t] w fun v _ => ∃ u,nr (gk o t) l u∧v = .tuple #[.agg (az u.1).toArray,.bool u.2]:=by
 refine aM Tryz.func118 rfl Tryz.ntmps118 rfl ?_;have hw:=Ext.refl w;refine CW.seq (CW.region (SW.alloc rfl fun b6 w1 ab dr ax => ?_));replace hw:=Ext.trans hw ab;clear ab;refine Wz ?_;refine SW.alloc rfl fun b8 w1 ab ME bu => ?_
 have jA:w.heap.size≤b8:=Nat.le_trans hw.size ME
 have cG:b6≠b8:=by have:=ax.lt;omega
 (replace hw:=Ext.trans hw ab;replace ax:=ax.ext ab);skip;refine SW.ap bu rfl rfl rfl rfl (fO.one (enc:=az) ⟨0,0,0⟩) fun w2 jh hg => ?_
 replace hw:=hw.own jA hg;replace ax:=ax.grown hg (by simpa using cG);replace bu:=jh;clear jh hg ab ME;have hA:=hl.base;have kB:=hl.len;refine Wz ?_
 refine CW.loop (fun u:Nat×Block×Bool=>[(0,.slice A n c),(1,.int .i64 o),(2,.int .i64 t),(6,.pointer (some ⟨b6,0,none⟩)),(8,.pointer (some ⟨b8,0,none⟩)),(9,.bool u.2.2),(10,.int .i64 (u.1:Int))])
  (fun u w'=>u.1≤n∧Ext w w'∧aI w' b6 77 (az ⟨0,0,0⟩)∧aI w' b8 77 (az u.2.1)∧((u.2.2=false∧u.2.1=⟨0,0,0⟩ ∧ ∀ (j:Nat) (hj:j<l.length),j<u.1→gk o t l[j]=false) ∨ ∃ (k:Nat) (hk:k<l.length),k<u.1∧u.2.2=true∧u.2.1=l[k]∧gk o t l[k]=true ∧ ∀ (j:Nat) (hj:j<l.length),j<k→gk o t l[j]=false))
  (fun u=>n-u.1) (0,⟨0,0,0⟩,false) ⟨rfl,rfl,rfl,rfl,rfl,rfl,rfl,trivial⟩ ⟨by simp only;omega,hw,ax,bu,.inl ⟨rfl,rfl,fun j hj h=>by simp only at h;omega⟩⟩ ?_
 clear hw ax bu;rintro ⟨i,x,f⟩ w' ⟨hi,hw,ax,bu,hI⟩
 simp only at hi bu hI ⊢;by_cases ck:i<n
 ·have kM:i<l.length:=by omega
  obtain ⟨y,hy⟩ : ∃ y,l[i]=y:=⟨_,rfl⟩;have g0:=hl.dA ck (j:=0) (u := .int .i64 y.At) (by rw [hy];rfl);have g1:=hl.dA ck (j:=1) (u := .int .i64 y.Order) (by rw [hy];rfl);have g2:=hl.dA ck (j:=2) (u := .int .i64 y.Ty) (by rw [hy];rfl);have gA:=hl.all ck;simp only [hy] at gA
  have FQ:gk o t l[i]=false→(f=false∧x=⟨0,0,0⟩ ∧ ∀ (j:Nat) (hj:j<l.length),j<i+1→gk o t l[j]=false) ∨ ∃ (k:Nat) (hk:k<l.length),k<i+1∧f=true∧x=l[k]∧gk o t l[k]=true ∧ ∀ (j:Nat) (hj:j<l.length),j<k→gk o t l[j]=false:=fun hm=>by
   rcases hI with ⟨h1,h2,h3⟩|⟨k,hk,h1,h2⟩
   ·refine .inl ⟨h1,h2,fun j hj h => ?_⟩;by_cases e:j=i
    ·subst e;exact hm
    ·exact h3 j hj (by omega)
   ·exact .inr ⟨k,hk,by omega,h2⟩
  by_cases h1:y.Order=o
  ·by_cases h2:y.Ty=t
   ·have hp:gk o t l[i]=true:=lA.2 ⟨by rw [hy];exact h1,by rw [hy];exact h2⟩
    rcases hI with ⟨rfl,rfl,h3⟩|⟨k,hk,nM,rfl,hx,h4,h5⟩
    ·repeat' (first|refine Wz ?_|((apply CW.aP mixed;(· kernel_rfl);rotate_left;intro w1 ab;replace hw:=Ext.trans hw ab;replace ax:=ax.ext ab;replace bu:=bu.ext ab;clear ab;rotate_right))|refine SW.skip rfl rfl rfl rfl ?_|refine SW.st (ao hw rfl g1) rfl ?_|refine SW.st (ao hw rfl g2) rfl ?_|refine SW.st (aH hw rfl rfl gA) rfl ?_|exact SW.bx rfl)
     refine SW.ap bu rfl rfl rfl rfl (fO.one (enc:=az) y) fun w2 jh hg => ?_
     replace hw:=hw.own jA hg;replace ax:=ax.grown hg (by simpa using cG);refine Wz ?_;exact ae.again (i+1,y,true) ⟨rfl,rfl,rfl,rfl,rfl,rfl,rfl,trivial⟩ (by simp only;omega) ⟨by simp only;omega,hw,ax,jh,.inr ⟨i,kM,by simp only;omega,rfl,hy.symm,hp,h3⟩⟩
    ·have hle:=hs k i kM nM;rw [hy,← hx] at hle;repeat' (first|refine Wz ?_|((apply CW.aP mixed;(· kernel_rfl);rotate_left;intro w1 ab;replace hw:=Ext.trans hw ab;replace ax:=ax.ext ab;replace bu:=bu.ext ab;clear ab;rotate_right))|refine SW.want rfl rfl ?_|refine SW.st (ao hw rfl g0) rfl ?_|refine SW.st (ao hw rfl g1) rfl ?_|refine SW.st (ao hw rfl g2) rfl ?_|exact SW.bx rfl)
     all_goals try omega
     exact ae.again (i+1,x,true) ⟨rfl,rfl,rfl,rfl,rfl,rfl,rfl,trivial⟩ (by simp only;omega) ⟨by simp only;omega,hw,ax,bu,.inr ⟨k,hk,by simp only;omega,rfl,hx,h4,h5⟩⟩
   ·have hm:=FQ (by cases e:gk o t l[i];rfl;exact absurd (hy ▸ (lA.1 e).2) h2);repeat' (first|refine Wz ?_|((apply CW.aP mixed;(· kernel_rfl);rotate_left;intro w1 ab;replace hw:=Ext.trans hw ab;replace ax:=ax.ext ab;replace bu:=bu.ext ab;clear ab;rotate_right))|refine SW.st (ao hw rfl g1) rfl ?_|refine SW.st (ao hw rfl g2) rfl ?_|exact SW.bx rfl)
    all_goals try omega
    exact ae.again (i+1,x,f) ⟨rfl,rfl,rfl,rfl,rfl,rfl,rfl,trivial⟩ (by simp only;omega) ⟨by simp only;omega,hw,ax,bu,hm⟩
  ·have hm:=FQ (by cases e:gk o t l[i];rfl;exact absurd (hy ▸ (lA.1 e).1) h1);repeat' (first|refine Wz ?_|((apply CW.aP mixed;(· kernel_rfl);rotate_left;intro w1 ab;replace hw:=Ext.trans hw ab;replace ax:=ax.ext ab;replace bu:=bu.ext ab;clear ab;rotate_right))|refine SW.st (ao hw rfl g1) rfl ?_|exact SW.bx rfl)
   all_goals try omega
   exact ae.again (i+1,x,f) ⟨rfl,rfl,rfl,rfl,rfl,rfl,rfl,trivial⟩ (by simp only;omega) ⟨by simp only;omega,hw,ax,bu,hm⟩
 ·refine Wz ?_;refine SW.ap ax rfl rfl rfl rfl (fO.one (enc:=az) x) fun w2 bL hg => ?_
  replace hw:=hw.own dr hg;refine Wz ?_;refine ae.fU rfl rfl rfl bL rfl ⟨_,rfl,hw,(x,f),?_,rfl⟩;rcases hI with ⟨rfl,rfl,h3⟩|⟨k,hk,nM,rfl,rfl,h4,h5⟩
  ·exact .vB fun j hj=>h3 j hj (by omega)
  ·exact .hit hk h4 h5
theorem tz (t:Int) (w:World) (ht:fy t) :
 bt Tryz.prog 119 [.int .i64 t] w fun v w' => ∃ A,v = .slice A 2 2∧Own w' w.heap.size 3 1 bf A 2 2 [mV t,mW t]:=by
 refine aM Tryz.func119 rfl Tryz.ntmps119 rfl ?_;have hw:=Ext.refl w;unfold fy at ht;rcases (show t=0∨t=1∨t=2 by omega) with rfl|rfl|rfl
 ·refine Wz ?_;refine SW.wm (enc:=bf) 2 1 rfl rfl rfl rfl rfl rfl fun g w1 ab hg hO => ?_
  refine Wz ?_;exact ae.aO rfl rfl ⟨_,rfl,ab,_,rfl,hO⟩
 ·refine Wz ?_;refine SW.wm (enc:=bf) 2 0 rfl rfl rfl rfl rfl rfl fun g w1 ab hg hO => ?_
  refine Wz ?_;exact ae.aO rfl rfl ⟨_,rfl,ab,_,rfl,hO⟩
 ·refine Wz ?_;refine SW.wm (enc:=bf) 0 1 rfl rfl rfl rfl rfl rfl fun g w1 ab hg hO => ?_
  refine Wz ?_;exact ae.aO rfl rfl ⟨_,rfl,ab,_,rfl,hO⟩
end Go.Proofs.YtjimadiidbkohaaGreatDoor
